/- A part of the proof (part 3): see the last text. -/
import Derived.Test.YtgejcelgofmbgaaDoorRb2
import Derived.Test.YtgejcelgofmbgaaDoorRows
import Derived.KernelRfl
import Derived.WalkKit
import Derived.ProofKit
import Derived.Lib.Bytealg
import Derived.Laws.Externs
import Derived.LaidLaws
import Derived.LaidHandle
import Derived.Lib.LaidU8
import Derived.Deep.DeepLaidRun
import Derived.Handed
import Derived.JoinedOf
import Derived.SevenTiedAt
import Derived.Lib.Space
import Derived.ChangeArms
import Derived.Below
import Derived.Lib.AtoiAll
import Derived.Lib.ItoaNum
import Derived.Lib.IndexLaws
import Derived.RangeFuncBox
import Derived.RangeFuncCalls
import Derived.RangeFuncNested
import Derived.OwnWalkIn
import Derived.TacticsInMore
import Derived.LoopNIn
import Derived.LoopIn
import Derived.RangeFuncLeaves
import Derived.RangeFuncBound
import Derived.Shelf.Abstract
import Derived.BigRegionIn
/- What code means, with the slots' values kept by what was written last: quicker to reckon with. -/
set_option linter.unusedVariables false
set_option linter.unusedSimpArgs false
namespace Rb
open Go
noncomputable section

/-- Slots' values, the last written first. -/
abbrev EV := List (Nat × AV)

def eget (E : EV) (t : Nat) : AV := List.rec (motive := fun _ => AV) .bot (fun p _ ih => cond (Nat.beq p.1 t) p.2 ih) E
def eset (n : Nat) (E : EV) (t : Nat) (v : AV) : EV := cond (Nat.blt t n) ((t, v) :: E) E
def esetd (n : Nat) (E : EV) (d : Option Nat) (v : AV) : EV :=
  match d with
  | some t => eset n E t v
  | none => E

theorem nbeq (a b : Nat) : Nat.beq a b = decide (a = b) := by rw [Bool.eq_iff_iff]; simp
theorem nblt (a b : Nat) : Nat.blt a b = decide (a < b) := by rw [Bool.eq_iff_iff]; simp [Nat.blt]; omega

theorem eget_cons (t : Nat) (v : AV) (E : EV) (i : Nat) : eget ((t, v) :: E) i = if t = i then v else eget E i := by
  show cond (Nat.beq t i) v (eget E i) = _
  rw [nbeq, cond_eq_ite]; simp

/-- The same values as slots have. -/
def Agree (n : Nat) (E : EV) (env : Env) : Prop := env.length = n ∧ ∀ i, eget E i = env.getD i .bot

theorem Agree.set {n : Nat} {E : EV} {env : Env} (h : Agree n E env) (t : Nat) (v : AV) : Agree n (eset n E t v) (env.set t v) := by
  refine ⟨by simp [h.1], fun i => ?_⟩
  unfold eset
  rw [nblt, cond_eq_ite]
  by_cases ht : t < n
  · rw [if_pos (by simpa using ht), eget_cons]
    rw [List.getD_eq_getElem?_getD, List.getElem?_set]
    by_cases e : t = i
    · rw [if_pos e, if_pos e, if_pos (by rw [h.1]; exact ht)]; rfl
    · rw [if_neg e, if_neg e, ← List.getD_eq_getElem?_getD]; exact h.2 i
  · rw [if_neg (by simpa using ht), List.set_eq_of_length_le (by rw [h.1]; omega)]
    exact h.2 i
theorem Agree.setd {n : Nat} {E : EV} {env : Env} (h : Agree n E env) (d : Option Nat) (v : AV) : Agree n (esetd n E d v) (Rb.setd env d v) := by
  cases d with
  | none => exact h
  | some t => exact h.set t v

def einit : List AV → Nat → EV
  | [], _ => []
  | a :: r, i => (i, a) :: einit r (i + 1)

theorem einit_get : ∀ (args : List AV) (i j : Nat), eget (einit args i) j = if j < i then .bot else args.getD (j - i) .bot
  | [], i, j => by simp [einit, eget]
  | a :: r, i, j => by
    rw [einit, eget_cons, einit_get r (i + 1) j]
    by_cases h : i = j
    · subst h; simp
    · rw [if_neg h]
      by_cases h2 : j < i
      · rw [if_pos (by omega), if_pos h2]
      · rw [if_neg (by omega), if_neg h2, show j - i = (j - (i + 1)) + 1 by omega]; simp

def Opd.sub (E : EV) : Opd → Opd
  | .t n => .k (eget E n)
  | .k v => .k v
theorem sub_ev {n : Nat} {E : EV} {env : Env} (h : Agree n E env) (x : Opd) : (x.sub E).ev [] = x.ev env := by
  cases x with
  | t i => exact h.2 i
  | k v => rfl

/-- Operands replaced by their values. -/
def AOp.sub (E : EV) : AOp → AOp
  | .mv x => .mv (x.sub E)
  | .pick c a b => .pick (c.sub E) (a.sub E) (b.sub E)
  | .bin op x y => .bin op (x.sub E) (y.sub E)
  | .beq neg x y => .beq neg (x.sub E) (y.sub E)
  | .isnil k neg x => .isnil k neg (x.sub E)
  | .eqagg neg ks x y => .eqagg neg ks (x.sub E) (y.sub E)
  | .un op x => .un op (x.sub E)
  | .conv k x => .conv k (x.sub E)
  | .same x => .same (x.sub E)
  | .nilck x => .nilck (x.sub E)
  | .field off sz agg x => .field off sz agg (x.sub E)
  | .idx l sz agg x i => .idx l sz agg (x.sub E) (i.sub E)
  | .idxs x i => .idxs (x.sub E) (i.sub E)
  | .faddr off x => .faddr off (x.sub E)
  | .iaddr arr sz x i => .iaddr arr sz (x.sub E) (i.sub E)
  | .slice sz x lo hi mx => .slice sz (x.sub E) (lo.map (Opd.sub E)) (hi.map (Opd.sub E)) (mx.map (Opd.sub E))
  | .sslice x lo hi => .sslice (x.sub E) (lo.map (Opd.sub E)) (hi.map (Opd.sub E))
  | .mkif t x => .mkif t (x.sub E)
  | .mkfn key caps => .mkfn key (caps.map (Opd.sub E))
  | .extract i x => .extract i (x.sub E)
  | .build zero parts => .build zero (parts.map fun p => (p.1, p.2.1, p.2.2.sub E))
  | .len str x => .len str (x.sub E)
  | .lenk n => .lenk n
  | .cap x => .cap (x.sub E)
  | .minmax mx xs => .minmax mx (xs.map (Opd.sub E))
  | .load n agg x => .load n agg (x.sub E)
  | .store n x v => .store n (x.sub E) (v.sub E)
  | .box mu n x => .box mu n (x.sub E)
  | .alloc mu zero => .alloc mu zero
  | .bslice mu sz l zero parts => .bslice mu sz l zero (parts.map fun p => (p.1, p.2.1, p.2.2.sub E))
  | .append mu sz bytes x y => .append mu sz bytes (x.sub E) (y.sub E)
  | .make mu sz bytes zero l c => .make mu sz bytes zero (l.sub E) (c.sub E)
  | .copy sz x y => .copy sz (x.sub E) (y.sub E)
  | .mkmap => .mkmap
  | .lookup kk zero ok m k => .lookup kk zero ok (m.sub E) (k.sub E)
  | .mapup kk m k v => .mapup kk (m.sub E) (k.sub E) (v.sub E)
  | .delete kk m k => .delete kk (m.sub E) (k.sub E)
  | .maplen m => .maplen (m.sub E)
  | .sbytes x => .sbytes (x.sub E)
  | .bstr x => .bstr (x.sub E)
  | .srange x => .srange (x.sub E)
  | .snext x => .snext (x.sub E)
  | .call key args => .call key (args.map (Opd.sub E))
  | .callv f args => .callv (f.sub E) (args.map (Opd.sub E))
  | .ext e xs => .ext e (xs.map (Opd.sub E))
  | .inv tbl x args => .inv tbl (x.sub E) (args.map (Opd.sub E))

theorem opSem_sub {n : Nat} {E : EV} {env : Env} (h : Agree n E env) {Φ : Calls'} {H : AH} {K : Post} (op : AOp) : opSem Φ [] H K (op.sub E) = opSem Φ env H K op := by
  have h1 := sub_ev h
  have hl : ∀ xs : List Opd, evs [] (xs.map (Opd.sub E)) = evs env xs := fun xs => by
    simp only [evs, List.map_map]; congr 1; funext x; exact h1 x
  have hp : ∀ xs : List (Nat × Nat × Opd), evps [] (xs.map fun p => (p.1, p.2.1, p.2.2.sub E)) = evps env xs := fun xs => by
    simp only [evps, List.map_map]; congr 1; funext x; simp [h1]
  have ho : ∀ x : Option Opd, (x.map (Opd.sub E)).map (Opd.ev []) = x.map (Opd.ev env) := fun x => by
    cases x <;> simp [h1]
  cases op <;> simp only [AOp.sub, opSem, h1, hl, hp, ho]

/-! What code means -/
abbrev EPostE := EV → AH → Prop

def regE (Φ : Calls') (n : Nat) : List AOper → EV → AH → EPostE → Prop
  | [], E, H, K => K E H
  | o :: r, E, H, K =>
    match o.guard with
    | none => opSem Φ [] H (fun v H' => regE Φ n r (esetd n E o.dst v) H' K) (o.op.sub E)
    | some (s, want) =>
      Gd3 (eget E s) want (opSem Φ [] H (fun v H' => regE Φ n r (esetd n (eset n E s (.bool want)) o.dst v) H' K) (o.op.sub (eset n E s (.bool want))))
        (regE Φ n r (esetd n (eset n E s (.bool !want)) o.dst (.tup [])) H K) (regE Φ n r (esetd n (eset n E s (.tup [])) o.dst (.tup [])) H K)

theorem Gd3.imp {v : AV} {want : Bool} {A B C A' B' C' : Prop} (hA : A → A') (hB : B → B') (hC : C → C') (h : Gd3 v want A B C) : Gd3 v want A' B' C' := by
  unfold Gd3 at *
  split at h
  · split at h
    · rename_i hh; simp [hh, hA h]
    · rename_i hh; simp [hh, hB h]
  · exact hC h
  · exact h.elim

/-- Calls may be asked less. -/
def MonoC (Φ : Calls') : Prop := Mono Φ

theorem regE_sound {Φ : Calls'} (hΦ : Mono Φ) {n : Nat} : ∀ {l : List AOper} {E : EV} {env : Env} {H : AH} {K : EPostE} {Q : Env → AH → Prop}, Agree n E env → regE Φ n l E H K → (∀ E' env' H', Agree n E' env' → K E' H' → Q env' H') → regSem Φ l env H Q := by
  intro l
  induction l with
  | nil => intro E env H K Q ha h hK; exact hK _ _ _ ha h
  | cons o r ih =>
    intro E env H K Q ha h hK
    simp only [regE] at h
    simp only [regSem]
    cases hg : o.guard with
    | none =>
      rw [hg] at h
      dsimp only at h ⊢
      rw [opSem_sub ha] at h
      exact opSem_mono hΦ (fun v H' h => ih (ha.setd _ _) h hK) h
    | some g =>
      obtain ⟨s, want⟩ := g
      rw [hg] at h
      dsimp only at h ⊢
      rw [ha.2 s, opSem_sub (ha.set s _)] at h
      exact Gd3.imp (opSem_mono hΦ fun v H' h => ih ((ha.set _ _).setd _ _) h hK) (fun h => ih ((ha.set _ _).setd _ _) h hK) (fun h => ih ((ha.set _ _).setd _ _) h hK) h

def oneE (Φ : Calls') (n : Nat) (o : AOper) (E : EV) (H : AH) (K : EPostE) : Prop :=
  match o.guard with
  | none => opSem Φ [] H (fun v H' => K (esetd n E o.dst v) H') (o.op.sub E)
  | some (s, want) =>
    Gd3 (eget E s) want (opSem Φ [] H (fun v H' => K (esetd n (eset n E s (.bool want)) o.dst v) H') (o.op.sub (eset n E s (.bool want))))
      (K (esetd n (eset n E s (.bool !want)) o.dst (.tup [])) H) (K (esetd n (eset n E s (.tup [])) o.dst (.tup [])) H)

theorem oneE_sound {Φ : Calls'} (hΦ : Mono Φ) {n : Nat} {o : AOper} {E : EV} {env : Env} {H : AH} {K : EPostE} {Q : Env → AH → Prop} (ha : Agree n E env) (h : oneE Φ n o E H K) (hK : ∀ E' env' H', Agree n E' env' → K E' H' → Q env' H') : oneSem Φ o env H Q := by
  unfold oneE at h
  unfold oneSem
  cases hg : o.guard with
  | none =>
    rw [hg] at h
    dsimp only at h ⊢
    rw [opSem_sub ha] at h
    exact opSem_mono hΦ (fun v H' h => hK _ _ _ (ha.setd _ _) h) h
  | some g =>
    obtain ⟨s, want⟩ := g
    rw [hg] at h
    dsimp only at h ⊢
    rw [ha.2 s, opSem_sub (ha.set s _)] at h
    exact Gd3.imp (opSem_mono hΦ fun v H' h => hK _ _ _ ((ha.set _ _).setd _ _) h) (fun h => hK _ _ _ ((ha.set _ _).setd _ _) h) (fun h => hK _ _ _ ((ha.set _ _).setd _ _) h) h

def segE (Φ : Calls') (n : Nat) (ops : List AOper) : List Nat → EV → AH → EPostE → Prop
  | [], E, H, K => K E H
  | i :: r, E, H, K => match ops[i]? with
    | some o => oneE Φ n o E H fun E' H' => segE Φ n ops r E' H' K
    | none => False

theorem segE_sound {Φ : Calls'} (hΦ : Mono Φ) {n : Nat} {ops : List AOper} : ∀ {l : List Nat} {E : EV} {env : Env} {H : AH} {K : EPostE} {Q : Env → AH → Prop}, Agree n E env → segE Φ n ops l E H K → (∀ E' env' H', Agree n E' env' → K E' H' → Q env' H') → segSem Φ ops l env H Q := by
  intro l
  induction l with
  | nil => intro E env H K Q ha h hK; exact hK _ _ _ ha h
  | cons i r ih =>
    intro E env H K Q ha h hK
    simp only [segE] at h
    simp only [segSem]
    split at h
    · rename_i o ho
      rw [ho]
      exact oneE_sound hΦ ha h fun E' env' H' ha' h' => ih ha' h' hK
    · exact h.elim

def SameE (E : EV) (H : AH) (o : AOper) : Prop :=
  match o.op with
  | .load n agg x => aload H n agg ((x.sub E).ev []) = some (eget E (o.dst.getD 0))
  | .lookup kk zero ok m k => alookup H kk zero ok ((m.sub E).ev []) ((k.sub E).ev []) = some (eget E (o.dst.getD 0))
  | .maplen m => amaplen H ((m.sub E).ev []) = some (eget E (o.dst.getD 0))
  | .bstr x => abstr H ((x.sub E).ev []) = some (eget E (o.dst.getD 0))
  | _ => True

def SameGE (E : EV) (H : AH) (o : AOper) : Prop :=
  match o.guard with
  | none => SameE E H o
  | some (s, want) => eget E s = .bool want → SameE E H o

theorem SameGE_sound {n : Nat} {E : EV} {env : Env} (ha : Agree n E env) {H : AH} {o : AOper} (h : SameGE E H o) : SameG env H o := by
  have h1 := sub_ev ha
  have fin : SameE E H o → Same env H o := by
    unfold SameE Same
    intro h
    cases ho : o.op <;> rw [ho] at h <;> dsimp only at h ⊢ <;> (try rw [h1] at h) <;> (try rw [h1] at h) <;> (try rw [ha.2] at h) <;> exact h
  unfold SameGE at h
  unfold SameG
  cases hg : o.guard with
  | none => rw [hg] at h; exact fin h
  | some g =>
    obtain ⟨s, want⟩ := g
    rw [hg] at h
    dsimp only at h ⊢
    rw [ha.2] at h
    exact fun hs => fin (h hs)

def samesE (ops : List AOper) (E : EV) (H : AH) (X : Prop) : List Nat → Prop
  | [] => X
  | l :: r => (match ops[l]? with | some o => SameGE E H o | none => True) ∧ samesE ops E H X r

theorem samesE_sound {n : Nat} {E : EV} {env : Env} (ha : Agree n E env) {ops : List AOper} {H : AH} {X Y : Prop} (hX : X → Y) : ∀ {l : List Nat}, samesE ops E H X l → sames ops env H Y l := by
  intro l
  induction l with
  | nil => intro h; exact hX h
  | cons i r ih =>
    intro h
    refine ⟨?_, ih h.2⟩
    have h1 := h.1
    cases ho : ops[i]? with
    | none => trivial
    | some o => rw [ho] at h1; exact SameGE_sound ha h1

def drawE (Φ : Calls') (n : Nat) (ops : List AOper) (last : List Nat) : List (List Nat × Nat × List Nat) → EV → AH → EPostE → Prop
  | [], E, H, K => segE Φ n ops last E H K
  | (seg, e, st) :: r, E, H, K => segE Φ n ops seg E H fun E1 H1 => match ops[e]? with
    | some o => oneE Φ n o E1 H1 fun E2 H2 => samesE ops E1 H2 (drawE Φ n ops last r E2 H2 K) st
    | none => False

theorem sames_imp {ops : List AOper} {env : Env} {H : AH} {X Y : Prop} (hX : X → Y) : ∀ {l : List Nat}, sames ops env H X l → sames ops env H Y l
  | [], h => hX h
  | _ :: _, h => ⟨h.1, sames_imp hX h.2⟩

theorem drawE_sound {Φ : Calls'} (hΦ : Mono Φ) {n : Nat} {ops : List AOper} {last : List Nat} : ∀ {plan : List (List Nat × Nat × List Nat)} {E : EV} {env : Env} {H : AH} {K : EPostE} {Q : Env → AH → Prop}, Agree n E env → drawE Φ n ops last plan E H K → (∀ E' env' H', Agree n E' env' → K E' H' → Q env' H') → drawSem Φ ops last plan env H Q := by
  intro plan
  induction plan with
  | nil => intro E env H K Q ha h hK; exact segE_sound hΦ ha h hK
  | cons p r ih =>
    obtain ⟨seg, e, st⟩ := p
    intro E env H K Q ha h hK
    simp only [drawE] at h
    simp only [drawSem]
    refine segE_sound hΦ ha h fun E1 e1 H1 ha1 h1 => ?_
    cases ho : ops[e]? with
    | none => rw [ho] at h1; exact h1.elim
    | some o =>
      rw [ho] at h1
      exact oneE_sound hΦ ha1 h1 fun E2 e2 H2 ha2 h2 => samesE_sound ha1 (fun h => ih ha2 h hK) h2

def egets (E : EV) (vs : List Nat) : List AV := vs.map fun t => eget E t
def ekills (n : Nat) (E : EV) : List Nat → EV
  | [] => E
  | t :: r => ekills n (eset n E t .bot) r
def eputs (n : Nat) (E : EV) : List Nat → List AV → EV
  | t :: r, s => eputs n (eset n E t (s.headD .bot)) r s.tail
  | [], _ => E

theorem Agree.gets {n : Nat} {E : EV} {env : Env} (h : Agree n E env) (vs : List Nat) : egets E vs = Rb.gets env vs := by
  simp only [egets, Rb.gets]; congr 1; funext t; exact h.2 t
theorem Agree.kills {n : Nat} : ∀ (ks : List Nat) {E : EV} {env : Env}, Agree n E env → Agree n (ekills n E ks) (Rb.kills env ks)
  | [], _, _, h => h
  | t :: r, _, _, h => Agree.kills r (h.set t _)
theorem Agree.puts {n : Nat} : ∀ (vs : List Nat) (st : List AV) {E : EV} {env : Env}, Agree n E env → Agree n (eputs n E vs st) (Rb.puts env vs st)
  | [], _, _, _, h => h
  | t :: r, st, _, _, h => Agree.puts r st.tail (h.set t _)

def codeE (Φ : Calls') (n : Nat) : ACode → EV → AH → (AExit → EV → AH → Prop) → Prop
  | .skip, E, H, Q => Q .normal E H
  | .region ops, E, H, Q => regE Φ n ops E H (Q .normal)
  | .draw ops _ plan last, E, H, Q => drawE Φ n ops last plan E H (Q .normal)
  | .seq a b, E, H, Q => codeE Φ n a E H fun e E' H' => match e with
    | .normal => codeE Φ n b E' H' Q
    | e => Q e E' H'
  | .join vs ks a b, E, H, Q => codeE Φ n a E H fun e E' H' => match e with
    | .normal => JoinP (fun st H'' => codeE Φ n b (eputs n (ekills n E ks) vs st) H'' Q) (egets E' vs) H'
    | e => Q e E' H'
  | .cond x a b, E, H, Q => Gd ((x.sub E).ev []) true (codeE Φ n a E H Q) (codeE Φ n b E H Q)
  | .block id a, E, H, Q => codeE Φ n a E H fun e E' H' => match e with
    | .exit id' => if id' = id then Q .normal E' H' else Q (.exit id') E' H'
    | e => Q e E' H'
  | .loop vs ks a, E, H, Q =>
    LoopP (fun (s : List AV × AH) (K : List AV × AH → Prop) =>
      codeE Φ n a (eputs n (ekills n E ks) vs s.1) s.2 fun e E' H' => match e with
        | .normal => K (egets E' vs, H')
        | e => Q e E' H') (egets E vs, H)
  | .exit id, E, H, Q => Q (.exit id) E H
  | .ret, E, H, Q => Q .ret E H
  | .freeze t a, E, H, Q => DoH (afreeze H (eget E t)) fun v H' => codeE Φ n a (eset n E t v) H' Q
  | .rjoin vs ks ops b, E, H, Q => regE Φ n ops E H fun E' H' => JoinP (fun st H'' => codeE Φ n b (eputs n (ekills n E ks) vs st) H'' Q) (egets E' vs) H'

theorem LoopP.imp {σ : Type} {F F' : σ → (σ → Prop) → Prop} (hF : ∀ s K, F s K → F' s K) {s : σ} (h : LoopP F s) : LoopP F' s :=
  fun I hI => h I fun s K hs hK => hI s K (hF s K hs) hK

theorem codeE_sound {Φ : Calls'} (hΦ : Mono Φ) {n : Nat} : ∀ {c : ACode} {E : EV} {env : Env} {H : AH} {K : AExit → EV → AH → Prop} {Q : AExit → Env → AH → Prop}, Agree n E env → codeE Φ n c E H K → (∀ x E' env' H', Agree n E' env' → K x E' H' → Q x env' H') → codeSem Φ c env H Q := by
  intro c
  induction c with
  | skip => intro E env H K Q ha h hK; exact hK _ _ _ _ ha h
  | region ops => intro E env H K Q ha h hK; exact regE_sound hΦ ha h fun _ _ _ ha h => hK _ _ _ _ ha h
  | draw ops pr plan last => intro E env H K Q ha h hK; exact drawE_sound hΦ ha h fun _ _ _ ha h => hK _ _ _ _ ha h
  | seq a b iha ihb =>
    intro E env H K Q ha h hK
    simp only [codeE] at h
    simp only [codeSem]
    refine iha ha h fun x E' e' H' ha' h' => ?_
    cases x with
    | normal => exact ihb ha' h' hK
    | exit i => exact hK _ _ _ _ ha' h'
    | ret => exact hK _ _ _ _ ha' h'
  | join vs ks a b iha ihb =>
    intro E env H K Q ha h hK
    simp only [codeE] at h
    simp only [codeSem]
    refine iha ha h fun x E' e' H' ha' h' => ?_
    cases x with
    | normal =>
      dsimp only at h' ⊢
      rw [ha'.gets vs] at h'
      exact ihb ((ha.kills ks).puts vs _) h' hK
    | exit i => exact hK _ _ _ _ ha' h'
    | ret => exact hK _ _ _ _ ha' h'
  | cond x a b iha ihb =>
    intro E env H K Q ha h hK
    simp only [codeE, sub_ev ha] at h
    exact Gd.mono (fun h => iha ha h hK) (fun h => ihb ha h hK) h
  | block id a ih =>
    intro E env H K Q ha h hK
    simp only [codeE] at h
    simp only [codeSem]
    refine ih ha h fun x E' e' H' ha' h' => ?_
    cases x with
    | normal => exact hK _ _ _ _ ha' h'
    | exit i =>
      dsimp only at h' ⊢
      split
      · rename_i hi; rw [if_pos hi] at h'; exact hK _ _ _ _ ha' h'
      · rename_i hi; rw [if_neg hi] at h'; exact hK _ _ _ _ ha' h'
    | ret => exact hK _ _ _ _ ha' h'
  | loop vs ks a ih =>
    intro E env H K Q ha h hK
    simp only [codeE] at h
    simp only [codeSem]
    rw [ha.gets vs] at h
    refine LoopP.imp (fun s K' hs => ih ((ha.kills ks).puts vs s.1) hs fun x E' e' H' ha' h' => ?_) h
    cases x with
    | normal => dsimp only at h' ⊢; rw [← ha'.gets vs]; exact h'
    | exit i => exact hK _ _ _ _ ha' h'
    | ret => exact hK _ _ _ _ ha' h'
  | exit id => intro E env H K Q ha h hK; exact hK _ _ _ _ ha h
  | ret => intro E env H K Q ha h hK; exact hK _ _ _ _ ha h
  | freeze t a ih =>
    intro E env H K Q ha h hK
    simp only [codeE] at h
    simp only [codeSem]
    rw [ha.2 t] at h
    exact DoH.mono (fun v H' h' => ih (ha.set t v) h' hK) h
  | rjoin vs ks ops b ih =>
    intro E env H K Q ha h hK
    simp only [codeE] at h
    simp only [codeSem]
    refine regE_sound hΦ ha h fun E' e' H' ha' h' => ?_
    rw [ha'.gets vs] at h'
    exact ih ((ha.kills ks).puts vs _) h' hK

def resE (E : EV) (H : AH) : List ARes → (List AV → Prop) → Prop
  | [], K => K []
  | .tmp t :: r, K => resE E H r fun vs => K (eget E t :: vs)
  | .cell t n agg :: r, K => Do (aload H n agg (eget E t)) fun v => resE E H r fun vs => K (v :: vs)

theorem resE_eq {n : Nat} {E : EV} {env : Env} (ha : Agree n E env) {H : AH} : ∀ {rs : List ARes} {K : List AV → Prop}, resE E H rs K = resSem env H rs K := by
  intro rs
  induction rs with
  | nil => intro K; rfl
  | cons r rs ih =>
    intro K
    cases r with
    | tmp t => simp only [resE, resSem, ih, ha.2]
    | cell t n agg => simp only [resE, resSem, ih, ha.2]

/-- What a function does. -/
def fnE1 (Φ : Calls') (f : AFunc) (args : List AV) (H : AH) (Q : Post) : Prop :=
  codeE Φ f.ntmps f.body (einit args 0) H fun e E H' => match e with
    | .exit _ => False
    | _ => resE E H' f.results fun vs => Q (oneRes vs) H'
def fnE (Φ : Calls') (f : AFunc) (args : List AV) (H : AH) (Q : Post) : Prop := args.length ≤ f.ntmps ∧ fnE1 Φ f args H Q

theorem fnE_sound {Φ : Calls'} (hΦ : Mono Φ) {f : AFunc} {args : List AV} {H : AH} {Q : Post} (h : fnE Φ f args H Q) : fnSem Φ f args H Q := by
  have ha : Agree f.ntmps (einit args 0) (args ++ List.replicate (f.ntmps - args.length) .bot) := by
    refine ⟨by simp; have := h.1; omega, fun i => ?_⟩
    rw [einit_get]
    simp only [Nat.not_lt_zero, if_false, Nat.sub_zero]
    simp only [List.getD_eq_getElem?_getD]
    by_cases hi : i < args.length
    · rw [List.getElem?_append_left hi]
    · rw [List.getElem?_append_right (by omega), List.getElem?_eq_none (by omega), List.getElem?_replicate]
      split <;> rfl
  refine codeE_sound hΦ ha h.2 fun x E' e' H' ha' h' => ?_
  cases x with
  | normal => dsimp only at h' ⊢; rw [resE_eq ha'] at h'; exact h'
  | exit i => exact h'
  | ret => dsimp only at h' ⊢; rw [resE_eq ha'] at h'; exact h'
end
end Rb

/- Runs that answer yes or no: what an operation, a piece of code, a function does to a tree of memory, and the answer of what comes behind. -/
set_option linter.unusedVariables false
set_option linter.unusedSimpArgs false
namespace Rb
open Go

/-- A call of a function's value. -/
def clB (Φ : CallsB) (f : AV) (args : List AV) (T : TH) (K : PostB) : Bool :=
  match f with
  | .fn key caps => Φ (fkey key) (fargs key args caps) T K
  | _ => false

/-- A call of a method. -/
def invB (Φ : CallsB) (tbl : List (TypeId × Nat × Option (Nat × Bool))) (x : AV) (args : List AV) (T : TH) (K : PostB) : Bool :=
  match x with
  | .iface t v => (match findI tbl t with
    | some r => (match invR T.ah r.2 v with
      | some u => Φ r.1 (u :: args) T K
      | none => false)
    | none => false)
  | _ => false

def opB (Φ : CallsB) (env : Env) (T : TH) (K : PostB) : AOp → Bool
  | .mv x => K (x.ev env) T
  | .pick c a b => GdB (c.ev env) true (K (a.ev env) T) (K (b.ev env) T)
  | .bin op x y => DoB (abin op (x.ev env) (y.ev env)) fun v => K v T
  | .beq neg x y => DoB (abeq neg (x.ev env) (y.ev env)) fun v => K v T
  | .isnil k neg x => DoB (anil k neg (x.ev env)) fun v => K v T
  | .eqagg neg ks x y => DoB (aeqAgg neg ks (x.ev env) (y.ev env)) fun v => K v T
  | .un op x => DoB (aun op (x.ev env)) fun v => K v T
  | .conv k x => DoB (aconv k (x.ev env)) fun v => K v T
  | .same x => DoB (asame (x.ev env)) fun v => K v T
  | .nilck x => DoB (anilck (x.ev env)) fun v => K v T
  | .field off sz agg x => DoB (afield off sz agg (x.ev env)) fun v => K v T
  | .idx len sz agg x i => DoB (aidx len sz agg (x.ev env) (i.ev env)) fun v => K v T
  | .idxs x i => DoB (aidxs (x.ev env) (i.ev env)) fun v => K v T
  | .faddr off x => DoB (afaddr off (x.ev env)) fun v => K v T
  | .iaddr arr sz x i => DoB (aiaddr arr sz (x.ev env) (i.ev env)) fun v => K v T
  | .slice sz x lo hi mx => DoB (aslice sz (x.ev env) (lo.map (Opd.ev env)) (hi.map (Opd.ev env)) (mx.map (Opd.ev env))) fun v => K v T
  | .sslice x lo hi => DoB (asslice (x.ev env) (lo.map (Opd.ev env)) (hi.map (Opd.ev env))) fun v => K v T
  | .mkif t x => K (.iface t (x.ev env)) T
  | .mkfn key caps => K (.fn key (evs env caps)) T
  | .extract i x => DoB (aextract i (x.ev env)) fun v => K v T
  | .build zero parts => DoB (abuild zero (evps env parts)) fun v => K v T
  | .len str x => DoB (alen str (x.ev env)) fun v => K v T
  | .lenk n => K (.int .i64 n) T
  | .cap x => DoB (acap (x.ev env)) fun v => K v T
  | .minmax mx xs => DoB (aminmax mx (evs env xs)) fun v => K v T
  | .load n agg x => DoB (aload T.ah n agg (x.ev env)) fun v => K v T
  | .store n x v => DoB (tstore T n (x.ev env) (v.ev env)) fun T => K (.tup []) T
  | .box mu n x => DoHB (tboxv T mu n (x.ev env)) K
  | .alloc mu zero => DoHB (some (tbox T mu zero)) K
  | .bslice mu sz len zero parts => DoHB (tbslice T mu sz len zero (evps env parts)) K
  | .append mu sz bytes x y => DoHB (tappend T mu sz bytes (x.ev env) (y.ev env)) K
  | .make mu sz bytes zero len cap => DoHB (tmake T mu sz bytes zero (len.ev env) (cap.ev env)) K
  | .copy sz x y => DoHB (tcopy T sz (x.ev env) (y.ev env)) K
  | .mkmap => K (.map T.n) (T.push (.map []))
  | .lookup kk zero ok m k => DoB (alookup T.ah kk zero ok (m.ev env) (k.ev env)) fun v => K v T
  | .mapup kk m k v => DoB (tmapup T kk (m.ev env) (k.ev env) (v.ev env)) fun T => K (.tup []) T
  | .delete kk m k => DoB (tdelete T kk (m.ev env) (k.ev env)) fun T => K (.tup []) T
  | .maplen m => DoB (amaplen T.ah (m.ev env)) fun v => K v T
  | .sbytes x => DoB (asbytes (x.ev env)) fun v => K v T
  | .bstr x => DoB (abstr T.ah (x.ev env)) fun v => K v T
  | .srange x => DoHB (tsrange T (x.ev env)) K
  | .snext x => DoHB (tsnext T (x.ev env)) K
  | .call key args => Φ key (evs env args) T K
  | .callv f args => clB Φ (f.ev env) (evs env args) T K
  | .ext e xs => DoHB (text T e (evs env xs)) K
  | .inv tbl x args => invB Φ tbl (x.ev env) (evs env args) T K

/-- A run that says yes speaks for what the functions do. -/
def SoundB (Φ : Calls') (B : CallsB) : Prop := ∀ k args T (K : PostB), B k args T K = true → ∀ Q : Post, (∀ v T', K v T' = true → Q v T'.ah) → Φ k args T.ah Q

theorem DoB_sound {α : Type} {x : Option α} {K : α → Bool} {P : α → Prop} (h : DoB x K = true) (hK : ∀ a, K a = true → P a) : Do x P := by
  cases x with
  | none => cases h
  | some a => exact ⟨a, rfl, hK a h⟩

theorem DoHB_sound {x : Option (AV × TH)} {y : Option (AV × AH)} {K : PostB} {Q : Post} (hx : x.map vh = y) (h : DoHB x K = true) (hK : ∀ v T', K v T' = true → Q v T'.ah) : DoH y Q := by
  cases x with
  | none => cases h
  | some a => subst hx; exact ⟨a.1, a.2.ah, rfl, hK _ _ h⟩

theorem DoB_ah {x : Option TH} {y : Option AH} {K : TH → Bool} {P : AH → Prop} (hx : x.map TH.ah = y) (h : DoB x K = true) (hK : ∀ T', K T' = true → P T'.ah) : Do y P := by
  cases x with
  | none => cases h
  | some a => subst hx; exact ⟨a.ah, rfl, hK _ h⟩

theorem GdB_sound {v : AV} {want : Bool} {A B : Bool} {P Q : Prop} (h : GdB v want A B = true) (hA : A = true → P) (hB : B = true → Q) : Gd v want P Q := by
  cases v <;> first | cases h | skip
  rename_i b
  simp only [GdB] at h
  unfold Gd
  dsimp only
  split
  · rename_i e; subst e; simp at h; exact hA h
  · rename_i e
    have : (b ^^ want) = true := by cases b <;> cases want <;> simp_all
    rw [this] at h
    exact hB h

theorem opB_sound {Φ : Calls'} {B : CallsB} (hB : SoundB Φ B) {env : Env} {T : TH} {K : PostB} {op : AOp} (h : opB B env T K op = true) {Q : Post} (hK : ∀ v T', K v T' = true → Q v T'.ah) : opSem Φ env T.ah Q op := by
  cases op with
  | mv => exact hK _ _ h
  | pick => exact GdB_sound h (hK _ _) (hK _ _)
  | mkif => exact hK _ _ h
  | mkfn => exact hK _ _ h
  | lenk => exact hK _ _ h
  | store => exact DoB_ah (tstore_ah _ _ _ _) h fun _ h => hK _ _ h
  | mapup => exact DoB_ah (tmapup_ah _ _ _ _ _) h fun _ h => hK _ _ h
  | delete => exact DoB_ah (tdelete_ah _ _ _ _) h fun _ h => hK _ _ h
  | box => exact DoHB_sound (tboxv_ah _ _ _ _) h hK
  | alloc mu zero => exact DoHB_sound (x := some (tbox T mu zero)) (by simp only [Option.map_some, tbox_ah]) h hK
  | bslice => exact DoHB_sound (tbslice_ah _ _ _ _ _ _) h hK
  | append => exact DoHB_sound (tappend_ah _ _ _ _ _ _) h hK
  | make => exact DoHB_sound (tmake_ah _ _ _ _ _ _ _) h hK
  | copy => exact DoHB_sound (tcopy_ah _ _ _ _) h hK
  | mkmap => have := hK _ _ h; rw [TH.ah_push] at this; exact this
  | srange => exact DoHB_sound (tsrange_ah _ _) h hK
  | snext => exact DoHB_sound (tsnext_ah _ _) h hK
  | call key args => exact hB _ _ _ _ h _ hK
  | callv f args =>
    simp only [opB, clB] at h
    split at h
    · rename_i key caps hf
      exact ⟨key, caps, hf, hB _ _ _ _ h _ hK⟩
    · cases h
  | ext => exact DoHB_sound (text_ah _ _ _) h hK
  | inv tbl x args =>
    simp only [opB, invB] at h
    split at h
    · rename_i t v hx
      split at h
      · rename_i r hr
        split at h
        · rename_i u hu
          exact ⟨t, v, r, u, hx, hr, hu, hB _ _ _ _ h _ hK⟩
        · cases h
      · cases h
    · cases h
  | _ => exact DoB_sound h fun _ h => hK _ _ h

def Gd3B (v : AV) (want : Bool) (A B C : Bool) : Bool :=
  match v with
  | .bool b => bif Bool.xor b want then B else A
  | .tup [] => C
  | _ => false

theorem Gd3B_sound {v : AV} {want : Bool} {A B C : Bool} {P Q R : Prop} (h : Gd3B v want A B C = true) (hA : A = true → P) (hB : B = true → Q) (hC : C = true → R) : Gd3 v want P Q R := by
  unfold Gd3B at h
  unfold Gd3
  split at h
  · rename_i b
    dsimp only
    split
    · rename_i e; subst e; simp at h; exact hA h
    · rename_i e
      have : (b ^^ want) = true := by cases b <;> cases want <;> simp_all
      rw [this] at h
      exact hB h
  · exact hC h
  · cases h

noncomputable section

def regB (Φ : CallsB) (n : Nat) : List AOper → EV → TH → (EV → TH → Bool) → Bool
  | [], E, T, K => K E T
  | o :: r, E, T, K =>
    match o.guard with
    | none => opB Φ [] T (fun v T' => regB Φ n r (esetd n E o.dst v) T' K) (o.op.sub E)
    | some (s, want) =>
      Gd3B (eget E s) want (opB Φ [] T (fun v T' => regB Φ n r (esetd n (eset n E s (.bool want)) o.dst v) T' K) (o.op.sub (eset n E s (.bool want))))
        (regB Φ n r (esetd n (eset n E s (.bool !want)) o.dst (.tup [])) T K) (regB Φ n r (esetd n (eset n E s (.tup [])) o.dst (.tup [])) T K)

theorem regB_sound {Φ : Calls'} {B : CallsB} (hB : SoundB Φ B) {n : Nat} : ∀ {l : List AOper} {E : EV} {T : TH} {K : EV → TH → Bool} {Q : EPostE}, regB B n l E T K = true → (∀ e T', K e T' = true → Q e T'.ah) → regE Φ n l E T.ah Q := by
  intro l
  induction l with
  | nil => intro E T K Q h hK; exact hK _ _ h
  | cons o r ih =>
    intro E T K Q h hK
    simp only [regB] at h
    simp only [regE]
    cases hg : o.guard with
    | none =>
      rw [hg] at h
      exact opB_sound hB h (Q := fun v H' => regE Φ n r (esetd n E o.dst v) H' Q) fun v T' h' => ih h' hK
    | some g =>
      obtain ⟨s, want⟩ := g
      rw [hg] at h
      exact Gd3B_sound h (fun h => opB_sound hB h (Q := fun v H' => regE Φ n r (esetd n (eset n E s (.bool want)) o.dst v) H' Q) fun v T' h' => ih h' hK) (fun h => ih h hK) fun h => ih h hK

def oneB (Φ : CallsB) (n : Nat) (o : AOper) (E : EV) (T : TH) (K : EV → TH → Bool) : Bool :=
  match o.guard with
  | none => opB Φ [] T (fun v T' => K (esetd n E o.dst v) T') (o.op.sub E)
  | some (s, want) =>
    Gd3B (eget E s) want (opB Φ [] T (fun v T' => K (esetd n (eset n E s (.bool want)) o.dst v) T') (o.op.sub (eset n E s (.bool want))))
      (K (esetd n (eset n E s (.bool !want)) o.dst (.tup [])) T) (K (esetd n (eset n E s (.tup [])) o.dst (.tup [])) T)

theorem oneB_sound {Φ : Calls'} {B : CallsB} (hB : SoundB Φ B) {n : Nat} {o : AOper} {E : EV} {T : TH} {K : EV → TH → Bool} {Q : EPostE} (h : oneB B n o E T K = true) (hK : ∀ e T', K e T' = true → Q e T'.ah) : oneE Φ n o E T.ah Q := by
  unfold oneB at h
  unfold oneE
  cases hg : o.guard with
  | none =>
    rw [hg] at h
    exact opB_sound hB h (Q := fun v H' => Q (esetd n E o.dst v) H') fun v T' h' => hK _ _ h'
  | some g =>
    obtain ⟨s, want⟩ := g
    rw [hg] at h
    exact Gd3B_sound h (fun h => opB_sound hB h (Q := fun v H' => Q (esetd n (eset n E s (.bool want)) o.dst v) H') fun v T' h' => hK _ _ h') (fun h => hK _ _ h) fun h => hK _ _ h

def segB (Φ : CallsB) (n : Nat) (ops : List AOper) : List Nat → EV → TH → (EV → TH → Bool) → Bool
  | [], E, T, K => K E T
  | i :: r, E, T, K => match ops[i]? with
    | some o => oneB Φ n o E T fun E' T' => segB Φ n ops r E' T' K
    | none => false

theorem segB_sound {Φ : Calls'} {B : CallsB} (hB : SoundB Φ B) {n : Nat} {ops : List AOper} : ∀ {l : List Nat} {E : EV} {T : TH} {K : EV → TH → Bool} {Q : EPostE}, segB B n ops l E T K = true → (∀ e T', K e T' = true → Q e T'.ah) → segE Φ n ops l E T.ah Q := by
  intro l
  induction l with
  | nil => intro E T K Q h hK; exact hK _ _ h
  | cons i r ih =>
    intro E T K Q h hK
    simp only [segB] at h
    simp only [segE]
    cases ho : ops[i]? with
    | none => rw [ho] at h; cases h
    | some o =>
      rw [ho] at h
      exact oneB_sound hB h (Q := fun e H' => segE Φ n ops r e H' Q) fun e T' h' => ih h' hK

def sameV (x : Option AV) (d : AV) : Bool :=
  match x with
  | some v => v.same d
  | none => false
def sameW (g : AV) (want : Bool) (X : Bool) : Bool :=
  match g with
  | .bool b => bif Bool.xor b want then true else X
  | _ => true

/-- A read that gives the same behind an effect, told by yes or no. -/
def readB (T : TH) (E : EV) (o : AOper) : Bool :=
  match o.op with
  | .load n agg x => sameV (aload T.ah n agg ((x.sub E).ev [])) (eget E (o.dst.getD 0))
  | .lookup kk zero ok m k => sameV (alookup T.ah kk zero ok ((m.sub E).ev []) ((k.sub E).ev [])) (eget E (o.dst.getD 0))
  | .maplen m => sameV (amaplen T.ah ((m.sub E).ev [])) (eget E (o.dst.getD 0))
  | .bstr x => sameV (abstr T.ah ((x.sub E).ev [])) (eget E (o.dst.getD 0))
  | _ => true

theorem sameV_sound {x : Option AV} {d : AV} (h : sameV x d = true) : x = some d := by
  unfold sameV at h
  split at h
  · rw [AV.same_sound _ _ h]
  · cases h

theorem readB_sound {T : TH} {E : EV} {o : AOper} (h : readB T E o = true) : SameE E T.ah o := by
  unfold readB at h
  unfold SameE
  cases ho : o.op <;> rw [ho] at h <;> first | trivial | exact sameV_sound h

def sameGB (T : TH) (E : EV) (o : AOper) : Bool :=
  match o.guard with
  | none => readB T E o
  | some (s, want) => sameW (eget E s) want (readB T E o)

theorem sameGB_sound {T : TH} {E : EV} {o : AOper} (h : sameGB T E o = true) : SameGE E T.ah o := by
  unfold sameGB at h
  unfold SameGE
  cases hg : o.guard with
  | none => rw [hg] at h; exact readB_sound h
  | some g =>
    obtain ⟨s, want⟩ := g
    rw [hg] at h
    dsimp only at h ⊢
    intro hs
    rw [hs] at h
    simp only [sameW, Bool.xor_self, cond_false] at h
    exact readB_sound h

def samesT (ops : List AOper) (E : EV) (T : TH) (X : Bool) : List Nat → Bool
  | [] => X
  | l :: r => (match ops[l]? with | some o => sameGB T E o | none => true) && samesT ops E T X r

theorem samesT_sound {ops : List AOper} {E : EV} {T : TH} {X : Bool} {P : Prop} (hX : X = true → P) : ∀ {l : List Nat}, samesT ops E T X l = true → samesE ops E T.ah P l := by
  intro l
  induction l with
  | nil => intro h; exact hX h
  | cons i r ih =>
    intro h
    simp only [samesT, Bool.and_eq_true] at h
    refine ⟨?_, ih h.2⟩
    have h1 := h.1
    cases ho : ops[i]? with
    | none => trivial
    | some o => rw [ho] at h1; exact sameGB_sound h1

def drawB (Φ : CallsB) (n : Nat) (ops : List AOper) (last : List Nat) : List (List Nat × Nat × List Nat) → EV → TH → (EV → TH → Bool) → Bool
  | [], E, T, K => segB Φ n ops last E T K
  | (seg, e, st) :: r, E, T, K => segB Φ n ops seg E T fun E1 T1 => match ops[e]? with
    | some o => oneB Φ n o E1 T1 fun E2 T2 => samesT ops E1 T2 (drawB Φ n ops last r E2 T2 K) st
    | none => false

theorem drawB_sound {Φ : Calls'} {B : CallsB} (hB : SoundB Φ B) {n : Nat} {ops : List AOper} {last : List Nat} : ∀ {plan : List (List Nat × Nat × List Nat)} {E : EV} {T : TH} {K : EV → TH → Bool} {Q : EPostE}, drawB B n ops last plan E T K = true → (∀ e T', K e T' = true → Q e T'.ah) → drawE Φ n ops last plan E T.ah Q := by
  intro plan
  induction plan with
  | nil => intro E T K Q h hK; exact segB_sound hB h hK
  | cons p r ih =>
    obtain ⟨seg, e, st⟩ := p
    intro E T K Q h hK
    simp only [drawB] at h
    simp only [drawE]
    refine segB_sound hB h fun e1 T1 h1 => ?_
    cases ho : ops[e]? with
    | none => rw [ho] at h1; cases h1
    | some o =>
      rw [ho] at h1
      exact oneB_sound hB h1 fun e2 T2 h2 => samesT_sound (fun h => ih h hK) h2

def LoopB {σ : Type} (F : σ → (σ → Bool) → Bool) (n : Nat) : σ → Bool := Nat.rec (motive := fun _ => σ → Bool) (fun _ => false) (fun _ ih s => F s ih) n

def JoinB (K : List AV → TH → Bool) (st : List AV) (T : TH) : Bool := K st T

def codeB (Φ : CallsB) (fuel : Nat) (n : Nat) : ACode → EV → TH → (AExit → EV → TH → Bool) → Bool
  | .skip, E, T, Q => Q .normal E T
  | .region ops, E, T, Q => regB Φ n ops E T (Q .normal)
  | .draw ops _ plan last, E, T, Q => drawB Φ n ops last plan E T (Q .normal)
  | .seq a b, E, T, Q => codeB Φ fuel n a E T fun e E' T' => match e with
    | .normal => codeB Φ fuel n b E' T' Q
    | e => Q e E' T'
  | .join vs ks a b, E, T, Q => codeB Φ fuel n a E T fun e E' T' => match e with
    | .normal => JoinB (fun st T'' => codeB Φ fuel n b (eputs n (ekills n E ks) vs st) T'' Q) (egets E' vs) T'
    | e => Q e E' T'
  | .cond x a b, E, T, Q => GdB ((x.sub E).ev []) true (codeB Φ fuel n a E T Q) (codeB Φ fuel n b E T Q)
  | .block id a, E, T, Q => codeB Φ fuel n a E T fun e E' T' => match e with
    | .exit id' => if id' = id then Q .normal E' T' else Q (.exit id') E' T'
    | e => Q e E' T'
  | .loop vs ks a, E, T, Q =>
    LoopB (fun (s : List AV × TH) (K : List AV × TH → Bool) =>
      codeB Φ fuel n a (eputs n (ekills n E ks) vs s.1) s.2 fun e E' T' => match e with
        | .normal => K (egets E' vs, T')
        | e => Q e E' T') fuel (egets E vs, T)
  | .exit id, E, T, Q => Q (.exit id) E T
  | .ret, E, T, Q => Q .ret E T
  | .freeze t a, E, T, Q => DoHB (tfreeze T (eget E t)) fun v T' => codeB Φ fuel n a (eset n E t v) T' Q
  | .rjoin vs ks ops b, E, T, Q => regB Φ n ops E T fun E' T' => JoinB (fun st T'' => codeB Φ fuel n b (eputs n (ekills n E ks) vs st) T'' Q) (egets E' vs) T'

theorem codeB_sound {Φ : Calls'} {B : CallsB} (hB : SoundB Φ B) {fuel : Nat} {n : Nat} : ∀ {c : ACode} {E : EV} {T : TH} {K : AExit → EV → TH → Bool} {Q : AExit → EV → AH → Prop}, codeB B fuel n c E T K = true → (∀ x e T', K x e T' = true → Q x e T'.ah) → codeE Φ n c E T.ah Q := by
  intro c
  induction c with
  | skip => intro E T K Q h hK; exact hK _ _ _ h
  | region ops => intro E T K Q h hK; exact regB_sound hB h fun _ _ h => hK _ _ _ h
  | draw ops pr plan last => intro E T K Q h hK; exact drawB_sound hB h fun _ _ h => hK _ _ _ h
  | seq a b iha ihb =>
    intro E T K Q h hK
    simp only [codeB] at h
    simp only [codeE]
    refine iha h fun x e T' h' => ?_
    cases x with
    | normal => exact ihb h' hK
    | exit i => exact hK _ _ _ h'
    | ret => exact hK _ _ _ h'
  | join vs ks a b iha ihb =>
    intro E T K Q h hK
    simp only [codeB] at h
    simp only [codeE]
    refine iha h fun x e T' h' => ?_
    cases x with
    | normal => exact ihb h' hK
    | exit i => exact hK _ _ _ h'
    | ret => exact hK _ _ _ h'
  | cond x a b iha ihb =>
    intro E T K Q h hK
    exact GdB_sound h (fun h => iha h hK) fun h => ihb h hK
  | block id a ih =>
    intro E T K Q h hK
    simp only [codeB] at h
    simp only [codeE]
    refine ih h fun x e T' h' => ?_
    cases x with
    | normal => exact hK _ _ _ h'
    | exit i =>
      dsimp only at h' ⊢
      split
      · rename_i hi; rw [if_pos hi] at h'; exact hK _ _ _ h'
      · rename_i hi; rw [if_neg hi] at h'; exact hK _ _ _ h'
    | ret => exact hK _ _ _ h'
  | loop vs ks a ih =>
    intro E T K Q h hK
    simp only [codeB] at h
    simp only [codeE]
    have main : ∀ (m : Nat) (s : List AV × TH), LoopB (fun (s : List AV × TH) (K' : List AV × TH → Bool) =>
          codeB B fuel n a (eputs n (ekills n E ks) vs s.1) s.2 fun e E' T' => match e with
            | .normal => K' (egets E' vs, T')
            | e => K e E' T') m s = true →
        LoopP (fun (s : List AV × AH) (K : List AV × AH → Prop) =>
          codeE Φ n a (eputs n (ekills n E ks) vs s.1) s.2 fun e E' H' => match e with
            | .normal => K (egets E' vs, H')
            | e => Q e E' H') (s.1, s.2.ah) := by
      intro m
      induction m with
      | zero => intro s h; cases h
      | succ m ihn =>
        intro s h
        refine LoopP.step ?_
        refine ih (K := fun e E' T' => match e with
            | .normal => LoopB (fun (s : List AV × TH) (K' : List AV × TH → Bool) =>
              codeB B fuel n a (eputs n (ekills n E ks) vs s.1) s.2 fun e E' T' => match e with
                | .normal => K' (egets E' vs, T')
                | e => K e E' T') m (egets E' vs, T')
            | e => K e E' T') h fun x e T' h' => ?_
        cases x with
        | normal => exact ihn _ h'
        | exit i => exact hK _ _ _ h'
        | ret => exact hK _ _ _ h'
    exact main fuel _ h
  | exit id => intro E T K Q h hK; exact hK _ _ _ h
  | ret => intro E T K Q h hK; exact hK _ _ _ h
  | freeze t a ih =>
    intro E T K Q h hK
    exact DoHB_sound (tfreeze_ah _ _) h fun v T' h' => ih h' hK
  | rjoin vs ks ops b ih =>
    intro E T K Q h hK
    exact regB_sound hB h (Q := fun E' H' => JoinP (fun st H'' => codeE Φ n b (eputs n (ekills n E ks) vs st) H'' Q) (egets E' vs) H') fun e T' h' => ih h' hK

def resB (E : EV) (T : TH) : List ARes → (List AV → Bool) → Bool
  | [], K => K []
  | .tmp t :: r, K => resB E T r fun vs => K (eget E t :: vs)
  | .cell t n agg :: r, K => DoB (aload T.ah n agg (eget E t)) fun v => resB E T r fun vs => K (v :: vs)

theorem resB_sound {E : EV} {T : TH} : ∀ {rs : List ARes} {K : List AV → Bool} {P : List AV → Prop}, resB E T rs K = true → (∀ vs, K vs = true → P vs) → resE E T.ah rs P := by
  intro rs
  induction rs with
  | nil => intro K P h hK; exact hK _ h
  | cons r rs ih =>
    intro K P h hK
    cases r with
    | tmp t => exact ih (K := fun vs => K (eget E t :: vs)) h fun vs h => hK _ h
    | cell t n agg => exact DoB_sound h fun v h => ih (K := fun vs => K (v :: vs)) h fun vs h => hK _ h

def fnB1 (Φ : CallsB) (fuel : Nat) (f : AFunc) (args : List AV) (T : TH) (Q : PostB) : Bool :=
  codeB Φ fuel f.ntmps f.body (einit args 0) T fun e E T' => match e with
    | .exit _ => false
    | _ => resB E T' f.results fun vs => Q (oneRes vs) T'
def fnB (Φ : CallsB) (fuel : Nat) (f : AFunc) (args : List AV) (T : TH) (Q : PostB) : Bool := and (Nat.ble args.length f.ntmps) (fnB1 Φ fuel f args T Q)

theorem fnB_sound {Φ : Calls'} {B : CallsB} (hB : SoundB Φ B) {fuel : Nat} {f : AFunc} {args : List AV} {T : TH} {K : PostB} (h : fnB B fuel f args T K = true) {Q : Post} (hK : ∀ v T', K v T' = true → Q v T'.ah) : fnE Φ f args T.ah Q := by
  simp only [fnB, fnB1, Bool.and_eq_true] at h
  refine ⟨Nat.le_of_ble_eq_true h.1, codeB_sound hB h.2 fun x e T' h' => ?_⟩
  cases x with
  | normal => exact resB_sound h' fun vs h => hK _ _ h
  | exit i => cases h'
  | ret => exact resB_sound h' fun vs h => hK _ _ h

/-- The functions of a table, run; so deep. -/
def runB (tab : Nat → Option AFunc) (fuel : Nat) (d : Nat) : CallsB := Nat.rec (motive := fun _ => CallsB) (fun _ _ _ _ => false) (fun _ ih k args T K => match tab k with
    | some f => fnB ih fuel f args T K
    | none => false) d

theorem runB_sound {Φ : Calls'} {tab : Nat → Option AFunc} (hT : ∀ k f, tab k = some f → ∀ args H Q, fnE Φ f args H Q → Φ k args H Q) {fuel : Nat} : ∀ d, SoundB Φ (runB tab fuel d) := by
  intro d
  induction d with
  | zero => intro k args T K h; cases h
  | succ d ih =>
    intro k args T K h Q hQ
    change (match tab k with
      | some f => fnB (runB tab fuel d) fuel f args T K
      | none => false) = true at h
    split at h
    · rename_i f hf
      exact hT k f hf _ _ _ (fnB_sound ih h hQ)
    · cases h
end

end Rb

/- Tables of functions; what package-level variables hold. -/
set_option linter.unusedVariables false
namespace Rb
open Go

/-- Each function of a table is as its text says. -/
structure Cl (Φ : Calls') (T : Tab) : Prop where
  mono : Mono Φ
  run : ∀ k f, T.get k = some f → ∀ args H Q, fnE Φ f args H Q → Φ k args H Q

theorem Cl.of {Φ : Calls'} {T : Tab} (hm : Mono Φ) (h : Closed Φ T) : Cl Φ T := ⟨hm, fun k f hk args H Q hs => h k f hk args H Q (fnE_sound hm hs)⟩

theorem Cl.app {Φ : Calls'} {T U : Tab} (hT : Cl Φ T) (hU : Cl Φ U) : Cl Φ (T ++ U) := by
  refine ⟨hT.mono, fun k f h args H Q hs => ?_⟩
  have key : ∀ (T : Tab), (T ++ U).lookup k = some f → T.lookup k = some f ∨ U.lookup k = some f := by
    intro T
    induction T with
    | nil => intro h; exact .inr h
    | cons p T ih =>
      intro h
      obtain ⟨k', f'⟩ := p
      rw [List.cons_append, List.lookup_cons] at h
      rw [List.lookup_cons]
      split at h
      · exact .inl h
      · exact ih h
  rcases key T h with h | h
  · exact hT.run k f h args H Q hs
  · exact hU.run k f h args H Q hs

/-- A function of a table, by what it means. -/
theorem Cl.call {Φ : Calls'} {T : Tab} (hT : Cl Φ T) {k : Nat} {f : AFunc} {args : List AV} (hk : T.get k = some f) (hn : Nat.ble args.length f.ntmps = true) {H : AH} {Q : Post} (h : fnE1 Φ f args H Q) : Φ k args H Q :=
  hT.run k f hk args H Q ⟨Nat.le_of_ble_eq_true hn, h⟩
end Rb

/- Frozen values: a function that is given such, and gives such, does on any memory what it does on the empty one. -/
set_option linter.unusedVariables false
set_option linter.unusedSimpArgs false
namespace Rb
open Go

def Tok.free : Tok → Bool
  | .own _ => false
  | _ => true
mutual
/-- A value that hangs on nothing that may be written. -/
def AV.froz : AV → Bool
  | .bool _ | .int _ _ | .str _ | .nilp | .nilmap | .nilfn | .nilif => true
  | .fptr cs => AV.frozs cs
  | .lst tk _ cs => tk.free && AV.frozs cs
  | .fn _ cs => AV.frozs cs
  | .iface _ v => AV.froz v
  | .agg cs => AV.frozs cs
  | .tup cs => AV.frozs cs
  | _ => false
def AV.frozs : List AV → Bool
  | [] => true
  | c :: r => AV.froz c && AV.frozs r
end

theorem frozs_all : ∀ {cs : List AV}, AV.frozs cs = cs.all AV.froz
  | [] => rfl
  | c :: r => by simp only [AV.frozs, List.all_cons, frozs_all (cs := r)]
theorem frozs_mem {cs : List AV} (h : AV.frozs cs = true) (j : Nat) (c : AV) (hc : cs[j]? = some c) : c.froz = true := by
  rw [frozs_all, List.all_eq_true] at h
  exact h c (List.mem_of_getElem? hc)

theorem froz_vr {F : FTab} {w w' : World} {G G' : Ghost} (hz : ∀ b o, G.fz b o → G'.fz b o) (hc : ∀ b o V, G.fz b o → w.cell? ⟨b, o, none⟩ = some V → w'.cell? ⟨b, o, none⟩ = some V) {c : AV} {V : Value} (hf : c.froz = true) (h : VR F w G c V) : VR F w' G' c V := by
  induction h with
  | bot => simp [AV.froz] at hf
  | bool b => exact .bool b
  | int k n => exact .int k n
  | str s => exact .str s
  | nilp => exact .nilp
  | ptr => simp [AV.froz] at hf
  | fptr cells b o Vs h hv ih =>
    simp only [AV.froz] at hf
    exact .fptr cells b o Vs (fun j c hj => ⟨hz _ _ (h j c hj).1, hc _ _ _ (h j c hj).1 (h j c hj).2⟩) fun j c hj => ih j c hj (frozs_mem hf j c hj)
  | lstnil => exact .lstnil
  | lst0 a cap => exact .lst0 a cap
  | lst tk len cells b o cap Vs ht hle h hv ih =>
    simp only [AV.froz, Bool.and_eq_true] at hf
    refine .lst tk len cells b o cap Vs ?_ hle (fun j c hj => ⟨hz _ _ (h j c hj).1, hc _ _ _ (h j c hj).1 (h j c hj).2⟩) fun j c hj => ih j c hj (frozs_mem hf.2 j c hj)
    cases tk with
    | own t => simp [Tok.free] at hf
    | nil => exact ht
    | full => exact ht
    | dead => exact ht
  | row => simp [AV.froz] at hf
  | map => simp [AV.froz] at hf
  | nilmap => exact .nilmap
  | fn key caps f Vs hk hF hl hv ih =>
    simp only [AV.froz] at hf
    exact .fn key caps f Vs hk hF hl fun j c V hc hV => ih j c V hc hV (frozs_mem hf j c hc)
  | bfn key k caps f Vs hk hF hl hv ih =>
    simp only [AV.froz] at hf
    exact .bfn key k caps f Vs hk hF hl fun j c V hc hV => ih j c V hc hV (frozs_mem hf j c hc)
  | nilfn => exact .nilfn
  | iface t v V h ih => exact .iface t v V (ih (by simpa [AV.froz] using hf))
  | nilif => exact .nilif
  | agg cs Vs hl hv ih =>
    simp only [AV.froz] at hf
    exact .agg cs Vs hl fun j c V hc hV => ih j c V hc hV (frozs_mem hf j c hc)
  | tup cs Vs hl hv ih =>
    simp only [AV.froz] at hf
    exact .tup cs Vs hl fun j c V hc hV => ih j c V hc hV (frozs_mem hf j c hc)

def GTok (C : Ctx) : Prop := ∀ g l, C.GT g = some l → AV.frozs l = true

/-- What a function does on an empty memory, given frozen values, it does on any, and leaves that as it is. -/
theorem ACall.frame2 {C : Ctx} (hGT : GTok C) {key : Nat} {args : List AV} {Q : Post} (h : ACall C key args AH.mt Q) (ha : AV.frozs args = true) (H : AH) (K : Post) (hK : ∀ v H', Q v H' → v.froz = true ∧ K v H) : ACall C key args H K := by
  refine ⟨by obtain ⟨v, H', hq⟩ := h.1; exact ⟨v, H, (hK v H' hq).2⟩, fun f hf G w Vs hG hrel hargs => ?_⟩
  have hrel0 : Rel C.F w (Ghost.mt G.fz) AH.mt := Rel.mt hrel.fzc
  have hargs0 : VRs C.F w (Ghost.mt G.fz) args Vs := ⟨hargs.1, fun j c V hc hV => froz_vr (G := G) (G' := Ghost.mt G.fz) (w := w) (fun _ _ h => h) (fun _ _ _ _ h => h) (frozs_mem ha j c hc) (hargs.2 j c V hc hV)⟩
  have hG0 : GOK C w (Ghost.mt G.fz) := fun g l hg => froz_vr (G := G) (G' := Ghost.mt G.fz) (w := w) (fun _ _ h => h) (fun _ _ _ _ h => h) (by simp only [AV.froz]; exact hGT g l hg) (hG.1 g l hg)
  refine Calls.mono (h.2 f hf _ w Vs (hG.mt hG0 fun i hi => by cases hi) hrel0 hargs0) fun e w' he => ?_
  obtain ⟨V, v, H', G', rfl, hQ, hv, hr, hst⟩ := he
  obtain ⟨hfl, hKv⟩ := hK v H' hQ
  have hb := hst.below
  have hnew : ∀ b o, G'.fz b o → G.fz b o ∨ w.heap.size ≤ b := by
    intro b o hz
    rcases hst.fznew b o hz with h | h | ⟨i, hi, _⟩
    · exact .inl h
    · exact .inr h
    · cases hi
  let G2 : Ghost := { G with fz := fun b o => G.fz b o ∨ G'.fz b o }
  have hcell : ∀ b o V, G.fz b o → w.cell? ⟨b, o, none⟩ = some V → w'.cell? ⟨b, o, none⟩ = some V := fun b o V hf hc => by
    rw [World.cell?_of_block (w := w) (hb.block b (World.block_lt_of_cell? w _ hc))]; exact hc
  have hg : GLe w G w' G2 := ⟨Nat.le_refl _, fun _ _ => rfl, fun _ _ => rfl, fun _ _ h => .inl h, hcell⟩
  refine ⟨V, v, H, G2, rfl, hKv, froz_vr (G := G') (G' := G2) (w := w') (fun _ _ h => Or.inr h) (fun _ _ _ _ h => h) hfl hv, ⟨hrel.n, hrel.over, fun j => (hrel.obj j).keep hg (fun hl => hrel.idlt hl) (fun hl => hb.block _ ((hrel.obj j).lt hl)) fun hl o hj => ?_, hrel.dist, fun b o hf => ?_⟩, ?_⟩
  · rcases hj with hj | hj
    · exact hj
    · rcases hnew _ _ hj with h | h
      · exact h
      · exact absurd ((hrel.obj j).lt hl) (by omega)
  · rcases hf with hf | hf
    · obtain ⟨V, hV⟩ := hrel.fzc b o hf
      exact ⟨V, hcell b o V hf hV⟩
    · exact hr.fzc b o hf
  · exact { hg with
      size := hst.size, os := hst.os, tape := hst.tape, output := hst.output, old := fun k hk _ => hb.block k hk, owned := fun i hi _ => ⟨i, hi, rfl⟩
      fznew := fun b o hf => by
        rcases hf with hf | hf
        · exact .inl hf
        · rcases hnew b o hf with h | h
          · exact .inl h
          · exact .inr (.inl h) }

/-- Calls whose values are known. -/
abbrev Memo := Nat → List AV → Option AV
def MemoOK (Φ : Calls') (M : Memo) : Prop := ∀ k args v, M k args = some v → ∀ (H : AH) (Q : Post), Q v H → Φ k args H Q

noncomputable section
/-- Runs, with what is known. -/
def runM (M : Memo) (disp : CallsB → CallsB) (d : Nat) : CallsB := Nat.rec (motive := fun _ => CallsB) (fun _ _ _ _ => false) (fun _ ih k args T Q => match M k args with
  | some v => Q v T
  | none => disp ih k args T Q) d

def DispOK (Φ : Calls') (disp : CallsB → CallsB) : Prop := ∀ B, SoundB Φ B → SoundB Φ (disp B)

theorem runM_sound {Φ : Calls'} {M : Memo} {disp : CallsB → CallsB} (hM : MemoOK Φ M) (hd : DispOK Φ disp) : ∀ d, SoundB Φ (runM M disp d) := by
  intro d
  induction d with
  | zero => intro k args T K h; cases h
  | succ d ih =>
    intro k args T K h Q hQ
    change (match M k args with
      | some v => K v T
      | none => disp (runM M disp d) k args T K) = true at h
    split at h
    · rename_i v hv
      exact hM k args v hv _ _ (hQ _ _ h)
    · exact hd _ ih k args T K h Q hQ

/-- A closed run on the empty memory. -/
theorem run_closed {Φ : Calls'} {B : CallsB} (hB : SoundB Φ B) {k : Nat} {args : List AV} {K : AV → Bool} (h : B k args TH.mt (fun v _ => K v) = true) : Φ k args AH.mt (fun v _ => K v = true) := by
  have := hB k args TH.mt _ h (fun v _ => K v = true) (fun v T' h => h)
  rwa [TH.ah_mt] at this

/-- .. and so on any. -/
theorem run_any {C : Ctx} (hGT : GTok C) {B : CallsB} (hB : SoundB (ACall C) B) {k : Nat} {args : List AV} {v : AV} (ha : AV.frozs args = true) (hv : v.froz = true) (h : B k args TH.mt (fun u _ => u.same v) = true) (H : AH) (Q : Post) (hQ : Q v H) : ACall C k args H Q :=
  ACall.frame2 hGT (run_closed hB h) ha H Q fun u _ hu => by rw [AV.same_sound _ _ hu]; exact ⟨hv, hQ⟩

/-- A function of a table, run. -/
theorem SoundB.fn {Φ : Calls'} {T0 : Tab} (hT : Cl Φ T0) {B : CallsB} (hB : SoundB Φ B) {fuel : Nat} {k : Nat} {f : AFunc} {args : List AV} (hk : T0.get k = some f) (hn : Nat.ble args.length f.ntmps = true) {T : TH} {K : PostB} (h : fnB1 B fuel f args T K = true) {Q : Post} (hQ : ∀ v T', K v T' = true → Q v T'.ah) : Φ k args T.ah Q :=
  hT.run k f hk args T.ah Q (fnB_sound hB (fuel := fuel) (by simp only [fnB, hn, h, Bool.and_self]) hQ)

/-! Which function is it? -/
def ap0 (f : TH → PostB → Bool) (a : List AV) (T : TH) (Q : PostB) : Bool := match a with | [] => f T Q | _ => false
def ap1 (f : AV → TH → PostB → Bool) (a : List AV) (T : TH) (Q : PostB) : Bool := match a with | [a0] => f a0 T Q | _ => false
def ap2 (f : AV → AV → TH → PostB → Bool) (a : List AV) (T : TH) (Q : PostB) : Bool := match a with | [a0, a1] => f a0 a1 T Q | _ => false
def ap3 (f : AV → AV → AV → TH → PostB → Bool) (a : List AV) (T : TH) (Q : PostB) : Bool := match a with | [a0, a1, a2] => f a0 a1 a2 T Q | _ => false
def ap4 (f : AV → AV → AV → AV → TH → PostB → Bool) (a : List AV) (T : TH) (Q : PostB) : Bool := match a with | [a0, a1, a2, a3] => f a0 a1 a2 a3 T Q | _ => false
def ap5 (f : AV → AV → AV → AV → AV → TH → PostB → Bool) (a : List AV) (T : TH) (Q : PostB) : Bool := match a with | [a0, a1, a2, a3, a4] => f a0 a1 a2 a3 a4 T Q | _ => false
def ap6 (f : AV → AV → AV → AV → AV → AV → TH → PostB → Bool) (a : List AV) (T : TH) (Q : PostB) : Bool := match a with | [a0, a1, a2, a3, a4, a5] => f a0 a1 a2 a3 a4 a5 T Q | _ => false

theorem SoundB.node {Φ : Calls'} {F G : CallsB} (m : Nat) (hF : SoundB Φ F) (hG : SoundB Φ G) : SoundB Φ (fun k a T K => cond (Nat.blt k m) (F k a T K) (G k a T K)) := by
  intro k a T K h Q hQ
  dsimp only at h
  cases hb : Nat.blt k m with
  | true => rw [hb] at h; exact hF k a T K h Q hQ
  | false => rw [hb] at h; exact hG k a T K h Q hQ

theorem SoundB.leaf {Φ : Calls'} {T0 : Tab} (hT : Cl Φ T0) {B : CallsB} (hB : SoundB Φ B) {n m : Nat} {key : Nat} {ir : AFunc} (hk : T0.get key = some ir) {F : List AV → TH → PostB → Bool} (hn : Nat.ble m ir.ntmps = true)
    (hF : ∀ a T K, F a T K = true → a.length = m ∧ fnB1 B n ir a T K = true) : SoundB Φ (fun k a T K => cond (Nat.beq k key) (F a T K) false) := by
  intro k a T K h Q hQ
  dsimp only at h
  cases hb : Nat.beq k key with
  | false => rw [hb] at h; cases h
  | true =>
    rw [hb] at h
    obtain rfl := Nat.eq_of_beq_eq_true hb
    obtain ⟨h1, h2⟩ := hF a T K h
    exact SoundB.fn hT hB (fuel := n) hk (by rw [h1]; exact hn) h2 hQ

theorem leaf0 {B : CallsB} {n : Nat} {ir : AFunc} {f : TH → PostB → Bool} (he : ∀ T Q, fnB1 B n ir [] T Q = f T Q) : ∀ a T K, ap0 f a T K = true → a.length = 0 ∧ fnB1 B n ir a T K = true := by
  intro a T K h; unfold ap0 at h; split at h
  · exact ⟨rfl, by rw [he]; exact h⟩
  · cases h
theorem leaf1 {B : CallsB} {n : Nat} {ir : AFunc} {f : AV → TH → PostB → Bool} (he : ∀ a0 T Q, fnB1 B n ir [a0] T Q = f a0 T Q) : ∀ a T K, ap1 f a T K = true → a.length = 1 ∧ fnB1 B n ir a T K = true := by
  intro a T K h; unfold ap1 at h; split at h
  · exact ⟨rfl, by rw [he]; exact h⟩
  · cases h
theorem leaf2 {B : CallsB} {n : Nat} {ir : AFunc} {f : AV → AV → TH → PostB → Bool} (he : ∀ a0 a1 T Q, fnB1 B n ir [a0, a1] T Q = f a0 a1 T Q) : ∀ a T K, ap2 f a T K = true → a.length = 2 ∧ fnB1 B n ir a T K = true := by
  intro a T K h; unfold ap2 at h; split at h
  · exact ⟨rfl, by rw [he]; exact h⟩
  · cases h
theorem leaf3 {B : CallsB} {n : Nat} {ir : AFunc} {f : AV → AV → AV → TH → PostB → Bool} (he : ∀ a0 a1 a2 T Q, fnB1 B n ir [a0, a1, a2] T Q = f a0 a1 a2 T Q) : ∀ a T K, ap3 f a T K = true → a.length = 3 ∧ fnB1 B n ir a T K = true := by
  intro a T K h; unfold ap3 at h; split at h
  · exact ⟨rfl, by rw [he]; exact h⟩
  · cases h
theorem leaf4 {B : CallsB} {n : Nat} {ir : AFunc} {f : AV → AV → AV → AV → TH → PostB → Bool} (he : ∀ a0 a1 a2 a3 T Q, fnB1 B n ir [a0, a1, a2, a3] T Q = f a0 a1 a2 a3 T Q) : ∀ a T K, ap4 f a T K = true → a.length = 4 ∧ fnB1 B n ir a T K = true := by
  intro a T K h; unfold ap4 at h; split at h
  · exact ⟨rfl, by rw [he]; exact h⟩
  · cases h
theorem leaf5 {B : CallsB} {n : Nat} {ir : AFunc} {f : AV → AV → AV → AV → AV → TH → PostB → Bool} (he : ∀ a0 a1 a2 a3 a4 T Q, fnB1 B n ir [a0, a1, a2, a3, a4] T Q = f a0 a1 a2 a3 a4 T Q) : ∀ a T K, ap5 f a T K = true → a.length = 5 ∧ fnB1 B n ir a T K = true := by
  intro a T K h; unfold ap5 at h; split at h
  · exact ⟨rfl, by rw [he]; exact h⟩
  · cases h
theorem leaf6 {B : CallsB} {n : Nat} {ir : AFunc} {f : AV → AV → AV → AV → AV → AV → TH → PostB → Bool} (he : ∀ a0 a1 a2 a3 a4 a5 T Q, fnB1 B n ir [a0, a1, a2, a3, a4, a5] T Q = f a0 a1 a2 a3 a4 a5 T Q) : ∀ a T K, ap6 f a T K = true → a.length = 6 ∧ fnB1 B n ir a T K = true := by
  intro a T K h; unfold ap6 at h; split at h
  · exact ⟨rfl, by rw [he]; exact h⟩
  · cases h
end
end Rb

/- The program's code as texts in the small language, made here and not printed: short hints tell which variables may be written, and what a loop keeps. What is made is held against the program by chkF. -/
set_option linter.unusedVariables false
namespace Rb
open Go

structure Hint where
  fid : Nat
  mus : List Nat
  loops : List (List Nat)
  fz : Option Nat
  tys : List TypeId := []
  fzo : List (Nat × List Nat) := []

def memN (t : Nat) : List Nat → Bool
  | [] => false
  | s :: r => cond (Nat.beq t s) true (memN t r)
def subN : List Nat → List Nat → Bool
  | [], _ => true
  | t :: r, l => cond (memN t l) (subN r l) false
def addN (t : Nat) (l : List Nat) : List Nat := cond (memN t l) l (t :: l)
def uniN : List Nat → List Nat → List Nat
  | [], l => l
  | t :: r, l => uniN r (addN t l)
def lessN : List Nat → List Nat → List Nat
  | [], _ => []
  | t :: r, l => cond (memN t l) (lessN r l) (addN t (lessN r l))

def decK1 : Value → AV
  | .bool b => .bool b
  | .int k n => .int k n
  | .string s => .str s.data.toList
  | .pointer none => .nilp
  | .map none => .nilmap
  | .nilFunc => .nilfn
  | .nilIface => .nilif
  | .slice none _ _ => .lst .nil 0 []
  | _ => .bot
def decK : Value → AV
  | .agg Vs => .agg (Vs.toList.map decK1)
  | .tuple Vs => .tup (Vs.toList.map decK1)
  | V => decK1 V

def badO : Opd := .k .bot
/-- What is not known how to do. -/
def badOp : AOp := .ext .stuck []
def decO (C : Ctx) : Operand → Opd
  | .tmp t => .t t
  | .const v => .k (decK v)
  | .global g => match C.GT g with | some l => .k (.fptr l) | none => badO
  | .func f => cond (goodFn C.P f) (.k (.fn f [])) badO

/-- Is it the literal nil? -/
def isNilO : Operand → Bool
  | .const v => (match v with | .pointer none | .slice none 0 0 | .map none | .nilFunc | .nilIface => true | _ => false)
  | _ => false

def szOf (P : Program) (t : TypeId) : Nat := match P.info? t with | some i => i.size | none => 0
def byOf (P : Program) (t : TypeId) : Nat := match P.info? t with | some i => i.bytes | none => 0
def zvOf (P : Program) (t : TypeId) : Value := match P.info? t with | some i => (match i.zero with | some z => z | none => .nilIface) | none => .nilIface
def zcOf (P : Program) (t : TypeId) : List AV := (zvOf P t).cells.toList.map decK1
def agOf (P : Program) (t : TypeId) : Bool := match P.underlying t with | some d => rowish d | none => false
def elOf (P : Program) (t : TypeId) : TypeId := match P.underlying t with | some (.slice e) => e | some (.array _ e) => e | some (.map _ e) => e | _ => 0
def kkOf (P : Program) (t : TypeId) : FK := match P.underlying t with
  | some (.map kt _) => (match P.underlying kt with | some .bool => .b | some .string => .t | _ => .n)
  | _ => .n
/-- The types that values of interfaces may have here, and a method's functions. -/
def invOf (C : Ctx) (name : String) : List TypeId → List (TypeId × Nat × Option (Nat × Bool))
  | [] => []
  | t :: r => (match C.P.info? t with
    | some i => (match i.methods.find? (·.name == name) with
      | some mt => (match mt.func, C.P.underlying t with
        | some (f, true), some (.pointer _) => (t, f, none) :: invOf C name r
        | some (f, false), some (.pointer e) => (t, f, some (szOf C.P e, agOf C.P e)) :: invOf C name r
        | _, _ => invOf C name r)
      | none => invOf C name r)
    | none => invOf C name r)

def isIntT (P : Program) (t : TypeId) : Bool := match P.underlying t with | some (.int _) => true | _ => false
def decCall (C : Ctx) (tys : List TypeId) (mu : Bool) (c : Call) : AOp :=
  match c.callee with
  | .value (.func f) => cond (goodFn C.P f) (.call f (c.args.toList.map (decO C))) badOp
  | .value f => .callv (decO C f) (c.args.toList.map (decO C))
  | .builtin b =>
    match c.args.toList.map (decO C), c.argTypes.toList with
    | [x], [t] => (match b with
      | .len => (match C.P.underlying t with | some .string => .len true x | some (.slice _) => .len false x | some (.array n _) => .lenk n | some (.map _ _) => .maplen x | _ => badOp)
      | .cap => .cap x
      | .max => .minmax true [x]
      | .min => .minmax false [x]
      | .clear => .ext (.clear (szOf C.P (elOf C.P t)) (zcOf C.P (elOf C.P t))) [x]
      | _ => badOp)
    | [x, y], t :: _ => (match b with
      | .append => cond (isIntT C.P (c.argTypes.toList.tail.headD 0)) (.ext (.grow (szOf C.P (elOf C.P t)) (byOf C.P (elOf C.P t)) (zcOf C.P (elOf C.P t))) [x, y]) <| .append mu (szOf C.P (elOf C.P t)) (byOf C.P (elOf C.P t)) x y
      | .delete => .delete (kkOf C.P t) x y
      | .copy => .copy (szOf C.P (elOf C.P t)) x y
      | .max => .minmax true [x, y]
      | .min => .minmax false [x, y]
      | _ => badOp)
    | xs, _ => (match b with
      | .max => .minmax true xs
      | .min => .minmax false xs
      | _ => badOp)
  | .invoke x name => .inv (invOf C name tys) (decO C x) (c.args.toList.map (decO C))

def decOp (C : Ctx) (tys : List TypeId) (mu : Bool) : Op → AOp
  | .move x => .mv (decO C x)
  | .assign x => .mv (decO C x)
  | .pick c a b => .pick (decO C c) (decO C a) (decO C b)
  | .binOp op t x y _ =>
    match op, C.P.underlying t with
    | .eql, some d => (match nilKind d, d with
      | some k, _ => cond (isNilO y) (.isnil k false (decO C x)) (match k with | .p => .ext (.ptreq false) [decO C x, decO C y] | _ => badOp)
      | none, .bool => .beq false (decO C x) (decO C y)
      | none, .array _ _ => (match deepK C.P 9 t with | some l => .eqagg false l (decO C x) (decO C y) | none => badOp)
      | none, .struct _ => (match deepK C.P 9 t with | some l => .eqagg false l (decO C x) (decO C y) | none => badOp)
      | none, _ => .bin op (decO C x) (decO C y))
    | .neq, some d => (match nilKind d, d with
      | some k, _ => cond (isNilO y) (.isnil k true (decO C x)) (match k with | .p => .ext (.ptreq true) [decO C x, decO C y] | _ => badOp)
      | none, .bool => .beq true (decO C x) (decO C y)
      | none, .array _ _ => (match deepK C.P 9 t with | some l => .eqagg true l (decO C x) (decO C y) | none => badOp)
      | none, .struct _ => (match deepK C.P 9 t with | some l => .eqagg true l (decO C x) (decO C y) | none => badOp)
      | none, _ => .bin op (decO C x) (decO C y))
    | op, _ => .bin op (decO C x) (decO C y)
  | .unOp op _ x => .un op (decO C x)
  | .convert s d x =>
    match C.P.underlying s, C.P.underlying d with
    | some .string, some .string => .same (decO C x)
    | some .string, some (.slice _) => .sbytes (decO C x)
    | some (.slice _), some .string => .bstr (decO C x)
    | _, some (.int k) => .conv k (decO C x)
    | _, _ => badOp
  | .nilCheck x => .nilck (decO C x)
  | .field t x n => (match fieldOf C.P t n with | some f => .field f.offset (szOf C.P f.type) (agOf C.P f.type) (decO C x) | none => badOp)
  | .fieldAddr t x n => (match fieldOf C.P t n with | some f => .faddr f.offset (decO C x) | none => badOp)
  | .index t x i => (match C.P.underlying t with
    | some .string => .idxs (decO C x) (decO C i)
    | some (.array n e) => .idx n (szOf C.P e) (agOf C.P e) (decO C x) (decO C i)
    | _ => badOp)
  | .indexAddr t x i => (match C.P.underlying t with
    | some (.slice e) => .iaddr none (szOf C.P e) (decO C x) (decO C i)
    | some (.array n e) => .iaddr (some n) (szOf C.P e) (decO C x) (decO C i)
    | _ => badOp)
  | .slice t x lo hi mx => (match C.P.underlying t with
    | some .string => .sslice (decO C x) (lo.map (decO C)) (hi.map (decO C))
    | some (.slice e) => .slice (szOf C.P e) (decO C x) (lo.map (decO C)) (hi.map (decO C)) (mx.map (decO C))
    | _ => badOp)
  | .makeInterface t x => .mkif t (decO C x)
  | .makeFunc (.func f) first caps => cond (goodFn C.P f) (match first.toList with
    | [] => .mkfn f (caps.toList.map (decO C))
    | l => .mkfn (f + 1048576) (l.map (decO C))) badOp
  | .extract x i => .extract i (decO C x)
  | .build t ps => .build (zcOf C.P t) (ps.toList.map fun p => match placeOf C.P t p.1 with | some (o, s) => (o, s, decO C p.2) | none => (0, 0, badO))
  | .buildSlice t len ps => .bslice mu (szOf C.P (elOf C.P t)) len (zcOf C.P (elOf C.P t)) (ps.toList.map fun p => (p.1 * szOf C.P (elOf C.P t), szOf C.P (elOf C.P t), decO C p.2))
  | .load t x => .load (szOf C.P t) (agOf C.P t) (decO C x)
  | .store t x v => .store (szOf C.P t) (decO C x) (decO C v)
  | .box t x => .box mu (szOf C.P t) (decO C x)
  | .alloc t => .alloc mu (zcOf C.P t)
  | .makeSlice t l c => .make mu (szOf C.P (elOf C.P t)) (byOf C.P (elOf C.P t)) (zcOf C.P (elOf C.P t)) (decO C l) (decO C c)
  | .range _ x => .srange (decO C x)
  | .next x true => .snext (decO C x)
  | .makeMap _ _ => .mkmap
  | .lookup t m k ok => .lookup (kkOf C.P t) (decK (zvOf C.P (elOf C.P t))) ok (decO C m) (decO C k)
  | .mapUpdate t m k v => .mapup (kkOf C.P t) (decO C m) (decO C k) (decO C v)
  | .insert t m k v => .mapup (kkOf C.P t) (decO C m) (decO C k) (decO C v)
  | .typeAssert x _ t ok => cond ok badOp (.ext (.tassert t) [decO C x])
  | .call c => decCall C tys mu c
  | _ => badOp

def dstN : List Oper → Nat → Option Nat
  | [], _ => none
  | o :: r, i => match i with | 0 => o.dst | i + 1 => dstN r i

def decReg (C : Ctx) (tys : List TypeId) (mus : List Nat) (all : List Oper) : List Oper → List AOper
  | [] => []
  | o :: r => ⟨o.dst, decOp C tys (match o.dst with | some d => memN d mus | none => false) o.op, match o.guard with | some (j, want) => (match dstN all j with | some s => some (s, want) | none => none) | none => none⟩ :: decReg C tys mus all r

/-! Regions whose order is open. -/
def onOf : List Edge → List Nat
  | [] => []
  | e :: r => cond (Region.binds .any e) (addN e.on (onOf r)) (onOf r)
def nthN : List (List Nat) → Nat → List Nat
  | [], _ => []
  | l :: r, i => match i with | 0 => l | i + 1 => nthN r i
def prGo : List (List Nat) → List Nat → List Nat → List Nat
  | pr, acc, [] => acc
  | pr, acc, e :: r => prGo pr (uniN (nthN pr e) acc) r
def prOf : List (List Nat) → List Oper → List (List Nat)
  | pr, [] => pr
  | pr, o :: r => let es := onOf o.after.toList; prOf (pr ++ [prGo pr es es]) r

/-- An operation's number, what must come ahead of it, its kind (0: an effect; 1: a read; 2: neither), whether it makes a variable. -/
structure DR where
  i : Nat
  pr : List Nat
  k : Nat
  al : Bool
def drs (ops : List AOper) (pr : List (List Nat)) : Nat → List AOper → List (List Nat) → List DR
  | i, o :: r, p :: q => ⟨i, p, cond (isP o.op) 2 (cond (isR o.op) 1 0), isAl ops pr i⟩ :: drs ops pr (i + 1) r q
  | _, _, _ => []
/-- What may be done: (done, this part, last first). -/
def segD : List DR → List Nat → List Nat → List Nat × List Nat
  | [], done, out => (done, out.reverse)
  | d :: r, done, out => cond (Nat.beq d.k 0) (segD r done out) (cond (memN d.i done) (segD r done out) (cond (subN d.pr done) (segD r (d.i :: done) (d.i :: out)) (segD r done out)))
def alsD : List DR → List Nat → List Nat → List DR
  | [], _, _ => []
  | d :: r, pr, seq => cond d.al (cond (memN d.i pr) (cond (memN d.i seq) (alsD r pr seq) (d :: alsD r pr seq)) (alsD r pr seq)) (alsD r pr seq)
def effD (all : List DR) : List DR → List Nat → List DR
  | [], seq => all.filter fun d => d.al && !memN d.i seq
  | d :: r, seq => cond (Nat.beq d.k 0) (cond d.al (effD all r seq) (let a := alsD all d.pr seq; a ++ d :: effD all r (d.i :: (a.map DR.i ++ seq)))) (effD all r seq)
def stD : List DR → List Nat → List Nat → List Nat
  | [], _, _ => []
  | d :: r, done, pr => cond (Nat.beq d.k 1) (cond (memN d.i done) (cond (memN d.i pr) (stD r done pr) (d.i :: stD r done pr)) (stD r done pr)) (stD r done pr)
def planD (all : List DR) : List DR → List Nat → List (List Nat × Nat × List Nat) × List Nat
  | [], done => ([], (segD all done []).2)
  | e :: r, done => let s := segD all done []; let q := planD all r (e.i :: s.1); ((s.2, e.i, stD all s.1 e.pr) :: q.1, q.2)
def decDraw (ops : List Oper) (al : List AOper) : ACode :=
  let pr := prOf [] ops
  let ds := drs al pr 0 al pr
  let p := planD ds (effD ds ds []) []
  .draw al pr p.1 p.2

def isMv (t : Nat) (o : AOper) : Bool := match o.op with | .mv (.t s) => Nat.beq s t | _ => false
def isDst (l : List Nat) (o : AOper) : Bool := match o.dst with | some d => memN d l | none => false

/-- What is frozen ahead of a region. -/
def fzoN : List (Nat × List Nat) → Nat → List Nat
  | [], _ => []
  | (i, l) :: r, id => cond (Nat.beq i id) l (fzoN r id)
def frzC : List Nat → ACode → ACode
  | [], c => c
  | t :: r, c => .freeze t (frzC r c)
def decC (C : Ctx) (tys : List TypeId) (mus : List Nat) (fz : Option Nat) (fzo : List (Nat × List Nat)) (res : List Nat) : Code → List (List Nat) → ACode × List (List Nat)
  | .skip, h => (.skip, h)
  | .region id ops false, h =>
    let al := decReg C tys mus ops.toList ops.toList
    (frzC (fzoN fzo id) (match fz with
      | none => .region al
      | some t => cond (al.any (isMv t) && al.any (isDst res)) (.freeze t (.region al)) (.region al)), h)
  | .region id ops true, h => (frzC (fzoN fzo id) (decDraw ops.toList (decReg C tys mus ops.toList ops.toList)), h)
  | .seq a b, h => let p := decC C tys mus fz fzo res a h; let q := decC C tys mus fz fzo res b p.2; (.seq p.1 q.1, q.2)
  | .cond c a b, h => let p := decC C tys mus fz fzo res a h; let q := decC C tys mus fz fzo res b p.2; (.cond (decO C c) p.1 q.1, q.2)
  | .block id a, h => let p := decC C tys mus fz fzo res a h; (.block id p.1, p.2)
  | .loop a, h => let p := decC C tys mus fz fzo res a h.tail; (.loop (h.headD []) (lessN (asg p.1) (h.headD [])) p.1, p.2)
  | .exit id, h => (.exit id, h)
  | .ret, h => (.ret, h)
  | _, h => (.exit 0, h)

def resN : List ResultVar → List Nat
  | [] => []
  | .tmp t :: r => t :: resN r
  | .cell t _ :: r => t :: resN r
def decRes (P : Program) : List ResultVar → List ARes
  | [] => []
  | .tmp t :: r => .tmp t :: decRes P r
  | .cell t ty :: r => .cell t (szOf P ty) (agOf P ty) :: decRes P r

/-- A function of the program, in the small language. -/
def decF (C : Ctx) (h : Hint) : AFunc :=
  match C.P.funcs[h.fid]? with
  | some fn => ⟨fn.ntmps, decRes C.P fn.results.toList, match fn.body with | some c => (decC C h.tys h.mus h.fz h.fzo (resN fn.results.toList) c h.loops).1 | none => .skip⟩
  | none => ⟨0, [], .exit 0⟩

/-- A program whose functions are called by their numbers. -/
def idC (P : Program) (GT : Nat → Option (List AV)) : Ctx := ⟨P, fun k => cond (goodFn P k) (some k) none, GT⟩
theorem idC_fok (P : Program) (GT : Nat → Option (List AV)) : FOK (idC P GT) := by
  intro key f hf
  simp only [idC] at hf
  cases hg : goodFn P key with
  | true => rw [hg] at hf; simp only [cond_true, Option.some.injEq] at hf; subst hf; exact hg
  | false => rw [hg] at hf; cases hf
/-- Each function is as it has been made. -/
def chkH (C : Ctx) : List Hint → Bool
  | [] => true
  | h :: r => and (chkF C h.fid (decF C h)) (chkH C r)
theorem chkH_mem {C : Ctx} : ∀ {L : List Hint}, chkH C L = true → ∀ h, h ∈ L → chkF C h.fid (decF C h) = true
  | [], _, h, hm => by cases hm
  | p :: r, hc, h, hm => by
    simp only [chkH, Bool.and_eq_true] at hc
    rcases List.mem_cons.1 hm with rfl | hm
    · exact hc.1
    · exact chkH_mem hc.2 h hm
theorem chkH_app {C : Ctx} : ∀ {L M : List Hint}, chkH C L = true → chkH C M = true → chkH C (L ++ M) = true
  | [], _, _, h => h
  | p :: r, M, hc, h => by
    simp only [chkH, Bool.and_eq_true] at hc
    simp only [List.cons_append, chkH, Bool.and_eq_true]
    exact ⟨hc.1, chkH_app hc.2 h⟩

end Rb

/- Quick ways to reckon what the small language's operations say: the same values, found by fewer steps. -/
set_option linter.unusedVariables false
set_option linter.unusedSimpArgs false
namespace Rb
open Go
noncomputable section

theorem nb (a b : Nat) : Nat.beq a b = decide (a = b) := by rw [Bool.eq_iff_iff]; simp
theorem nl (a b : Nat) : Nat.blt a b = decide (a < b) := by rw [Bool.eq_iff_iff]; simp [Nat.blt]; omega
theorem ne' (a b : Nat) : Nat.ble a b = decide (a ≤ b) := by rw [Bool.eq_iff_iff]; simp

/-- A call that is named, so that the kernel comes back up before it goes on: long lists would else go too deep. -/
def apK {α β : Type} (f : α → β) (a : α) : β := f a

/-! Lists -/
def nthF {α : Type} (l : List α) : Nat → Option α := List.rec (motive := fun _ => Nat → Option α) (fun _ => none) (fun x _ ih n => Nat.rec (motive := fun _ => Option α) (some x) (fun m _ => apK ih m) n) l
theorem nthF_eq {α : Type} : ∀ (l : List α) (n : Nat), nthF l n = l[n]?
  | [], n => by cases n <;> rfl
  | x :: r, 0 => rfl
  | x :: r, n + 1 => by rw [List.getElem?_cons_succ, ← nthF_eq r n]; rfl
def dropF {α : Type} (n : Nat) : List α → List α := Nat.rec (motive := fun _ => List α → List α) (fun l => l) (fun _ ih l => List.rec (motive := fun _ => List α) [] (fun _ t _ => apK ih t) l) n
theorem dropF_eq {α : Type} : ∀ (n : Nat) (l : List α), dropF n l = l.drop n
  | 0, l => rfl
  | n + 1, [] => rfl
  | n + 1, x :: r => by rw [List.drop_succ_cons, ← dropF_eq n r]; rfl
def leF {α : Type} (n : Nat) : List α → Bool := Nat.rec (motive := fun _ => List α → Bool) (fun _ => true) (fun _ ih l => List.rec (motive := fun _ => Bool) false (fun _ t _ => apK ih t) l) n
theorem leF_eq {α : Type} : ∀ (n : Nat) (l : List α), leF n l = decide (n ≤ l.length)
  | 0, l => by simp; rfl
  | n + 1, [] => by simp; rfl
  | n + 1, x :: r => by rw [List.length_cons, show decide (n + 1 ≤ r.length + 1) = decide (n ≤ r.length) by simp, ← leF_eq n r]; rfl

/-! Numbers -/
def kN : IntKind → Nat
  | .i8 => 0 | .i16 => 1 | .i32 => 2 | .i64 => 3 | .u8 => 4 | .u16 => 5 | .u32 => 6 | .u64 => 7
def kEq (k k' : IntKind) : Bool := Nat.beq (kN k) (kN k')
theorem kEq_eq {k k' : IntKind} (h : kEq k k' = true) : k = k' := by
  revert h; cases k <;> cases k' <;> decide
def lim : IntKind → Nat
  | .i8 => 128 | .i16 => 32768 | .i32 => 2147483648 | .i64 => 9223372036854775808 | .u8 => 256 | .u16 => 65536 | .u32 => 4294967296 | .u64 => 18446744073709551616
theorem wrap_lim {k : IntKind} {m : Nat} (h : m < lim k) : k.wrap (Int.ofNat m) = Int.ofNat m := by
  have hm : (Int.ofNat m) = (m : Int) := rfl
  rw [hm]
  cases k <;> simp only [lim] at h <;> simp only [IntKind.wrap, IntKind.bits, IntKind.signed] <;> simp <;> omega

def asNat (v : AV) (d : Option AV) (f : IntKind → Nat → Option AV) : Option AV :=
  match v with
  | .int k n => (match n with | .ofNat m => f k m | .negSucc _ => d)
  | _ => d
theorem asNat_eq {v : AV} {d : Option AV} {f : IntKind → Nat → Option AV} (h : ∀ k m, v = .int k (.ofNat m) → f k m = d) : asNat v d f = d := by
  unfold asNat
  split
  · split
    · exact h _ _ rfl
    · rfl
  · rfl

def natOp (g : IntKind → Nat → Nat → Option AV → Option AV) (s : Option AV) (x y : AV) : Option AV :=
  asNat x s fun k a => asNat y s fun k' b => cond (kEq k k') (g k a b s) s
theorem natOp_eq {g : IntKind → Nat → Nat → Option AV → Option AV} {op : BinOp} (hg : ∀ k a b, g k a b (abinInt op k (.ofNat a) k (.ofNat b)) = abinInt op k (.ofNat a) k (.ofNat b)) (x y : AV) : natOp g (abin op x y) x y = abin op x y := by
  refine asNat_eq fun k a hx => asNat_eq fun k' b hy => ?_
  subst hx hy
  cases h : kEq k k' with
  | false => rfl
  | true =>
    obtain rfl := kEq_eq h
    exact hg k a b

def gAdd (k : IntKind) (a b : Nat) (s : Option AV) : Option AV := cond (Nat.blt (Nat.add a b) (lim k)) (some (.int k (.ofNat (Nat.add a b)))) s
def gSub (k : IntKind) (a b : Nat) (s : Option AV) : Option AV := cond (and (Nat.ble b a) (Nat.blt a (lim k))) (some (.int k (.ofNat (Nat.sub a b)))) s
def gMul (k : IntKind) (a b : Nat) (s : Option AV) : Option AV := cond (Nat.blt (Nat.mul a b) (lim k)) (some (.int k (.ofNat (Nat.mul a b)))) s
def gLss (k : IntKind) (a b : Nat) (s : Option AV) : Option AV := some (.bool (Nat.blt a b))
def gLeq (k : IntKind) (a b : Nat) (s : Option AV) : Option AV := some (.bool (Nat.ble a b))
def gGtr (k : IntKind) (a b : Nat) (s : Option AV) : Option AV := some (.bool (Nat.blt b a))
def gGeq (k : IntKind) (a b : Nat) (s : Option AV) : Option AV := some (.bool (Nat.ble b a))
def gEql (k : IntKind) (a b : Nat) (s : Option AV) : Option AV := some (.bool (Nat.beq a b))
def gNeq (k : IntKind) (a b : Nat) (s : Option AV) : Option AV := some (.bool (not (Nat.beq a b)))
def gQuo (k : IntKind) (a b : Nat) (s : Option AV) : Option AV := cond (and (Nat.blt 0 b) (Nat.blt a (lim k))) (some (.int k (.ofNat (Nat.div a b)))) s
def gRem (k : IntKind) (a b : Nat) (s : Option AV) : Option AV := cond (Nat.blt 0 b) (some (.int k (.ofNat (Nat.mod a b)))) s
def gAnd (k : IntKind) (a b : Nat) (s : Option AV) : Option AV := cond (and (Nat.blt a (lim k)) (Nat.blt b (lim k))) (some (.int k (.ofNat (Nat.land a b)))) s
def gOr (k : IntKind) (a b : Nat) (s : Option AV) : Option AV := cond (and (Nat.blt a (lim k)) (Nat.blt b (lim k))) (some (.int k (.ofNat (Nat.lor a b)))) s
def gXor (k : IntKind) (a b : Nat) (s : Option AV) : Option AV := cond (and (Nat.blt a (lim k)) (Nat.blt b (lim k))) (some (.int k (.ofNat (Nat.xor a b)))) s

theorem gAdd_eq (k : IntKind) (a b : Nat) : gAdd k a b (abinInt .add k (.ofNat a) k (.ofNat b)) = abinInt .add k (.ofNat a) k (.ofNat b) := by
  unfold gAdd
  rw [nl]
  by_cases h : Nat.add a b < lim k
  · simp only [h, decide_true, cond_true, abinInt, if_true]
    rw [show (Int.ofNat a + Int.ofNat b) = Int.ofNat (Nat.add a b) from rfl, wrap_lim h]
  · simp only [h, decide_false, cond_false]
theorem gMul_eq (k : IntKind) (a b : Nat) : gMul k a b (abinInt .mul k (.ofNat a) k (.ofNat b)) = abinInt .mul k (.ofNat a) k (.ofNat b) := by
  unfold gMul
  rw [nl]
  by_cases h : Nat.mul a b < lim k
  · simp only [h, decide_true, cond_true, abinInt, if_true]
    rw [show (Int.ofNat a * Int.ofNat b) = Int.ofNat (Nat.mul a b) from rfl, wrap_lim h]
  · simp only [h, decide_false, cond_false]
theorem gSub_eq (k : IntKind) (a b : Nat) : gSub k a b (abinInt .sub k (.ofNat a) k (.ofNat b)) = abinInt .sub k (.ofNat a) k (.ofNat b) := by
  unfold gSub
  rw [nl, ne']
  by_cases h : b ≤ a ∧ a < lim k
  · simp only [h.1, h.2, decide_true, Bool.and_self, cond_true, abinInt, if_true]
    have : (Int.ofNat a - Int.ofNat b) = Int.ofNat (Nat.sub a b) := by
      show (a : Int) - (b : Int) = ((a - b : Nat) : Int)
      omega
    rw [this, wrap_lim (show Nat.sub a b < lim k from Nat.lt_of_le_of_lt (Nat.sub_le _ _) h.2)]
  · have : (decide (b ≤ a) && decide (a < lim k)) = false := by
      rw [Bool.eq_false_iff]; intro h2; simp at h2; exact h h2
    simp only [this, cond_false]
theorem gLss_eq (k : IntKind) (a b : Nat) : gLss k a b (abinInt .lss k (.ofNat a) k (.ofNat b)) = abinInt .lss k (.ofNat a) k (.ofNat b) := by
  simp only [gLss, abinInt, if_true, nl]
  congr 2
  simp
theorem gLeq_eq (k : IntKind) (a b : Nat) : gLeq k a b (abinInt .leq k (.ofNat a) k (.ofNat b)) = abinInt .leq k (.ofNat a) k (.ofNat b) := by
  simp only [gLeq, abinInt, if_true, ne']
  congr 2
  simp
theorem gGtr_eq (k : IntKind) (a b : Nat) : gGtr k a b (abinInt .gtr k (.ofNat a) k (.ofNat b)) = abinInt .gtr k (.ofNat a) k (.ofNat b) := by
  simp only [gGtr, abinInt, if_true, nl]
  congr 2
  simp
theorem gGeq_eq (k : IntKind) (a b : Nat) : gGeq k a b (abinInt .geq k (.ofNat a) k (.ofNat b)) = abinInt .geq k (.ofNat a) k (.ofNat b) := by
  simp only [gGeq, abinInt, if_true, ne']
  congr 2
  simp
theorem ofN_beq (a b : Nat) : (Int.ofNat a == Int.ofNat b) = decide (a = b) := by
  rw [Bool.eq_iff_iff]; simp; omega
theorem gEql_eq (k : IntKind) (a b : Nat) : gEql k a b (abinInt .eql k (.ofNat a) k (.ofNat b)) = abinInt .eql k (.ofNat a) k (.ofNat b) := by
  simp only [gEql, abinInt, if_true, nb, ofN_beq]
theorem gNeq_eq (k : IntKind) (a b : Nat) : gNeq k a b (abinInt .neq k (.ofNat a) k (.ofNat b)) = abinInt .neq k (.ofNat a) k (.ofNat b) := by
  simp only [gNeq, abinInt, if_true, nb, bne, ofN_beq]
theorem gRem_eq (k : IntKind) (a b : Nat) : gRem k a b (abinInt .rem k (.ofNat a) k (.ofNat b)) = abinInt .rem k (.ofNat a) k (.ofNat b) := by
  unfold gRem
  rw [nl]
  by_cases h : 0 < b
  · have hb : (Int.ofNat b) ≠ 0 := by simp; omega
    simp only [h, decide_true, cond_true, abinInt, if_pos (show True ∧ Int.ofNat b ≠ 0 from ⟨trivial, hb⟩)]
    rfl
  · simp only [h, decide_false, cond_false]
theorem gQuo_eq (k : IntKind) (a b : Nat) : gQuo k a b (abinInt .quo k (.ofNat a) k (.ofNat b)) = abinInt .quo k (.ofNat a) k (.ofNat b) := by
  unfold gQuo
  rw [nl, nl]
  by_cases h : 0 < b ∧ a < lim k
  · have hb : (Int.ofNat b) ≠ 0 := by have := h.1; simp; omega
    simp only [h.1, h.2, decide_true, Bool.and_self, cond_true, abinInt, if_pos (show True ∧ Int.ofNat b ≠ 0 from ⟨trivial, hb⟩)]
    rw [show (Int.ofNat a).tdiv (Int.ofNat b) = Int.ofNat (Nat.div a b) from rfl, wrap_lim (show Nat.div a b < lim k from Nat.lt_of_le_of_lt (Nat.div_le_self _ _) h.2)]
  · have : (decide (0 < b) && decide (a < lim k)) = false := by
      rw [Bool.eq_false_iff]; intro h2; simp at h2; exact h h2
    simp only [this, cond_false]
theorem lim_le (k : IntKind) : lim k ≤ 2 ^ k.bits := by cases k <;> decide
theorem lim_pow (k : IntKind) : ∃ n, lim k = 2 ^ n := by
  cases k
  · exact ⟨7, rfl⟩
  · exact ⟨15, rfl⟩
  · exact ⟨31, rfl⟩
  · exact ⟨63, rfl⟩
  · exact ⟨8, rfl⟩
  · exact ⟨16, rfl⟩
  · exact ⟨32, rfl⟩
  · exact ⟨64, rfl⟩
theorem bits_eq {op : BinOp} {f : Nat → Nat → Nat} (k : IntKind) (a b : Nat) (ha : a < lim k) (hb : b < lim k) (hf : f a b < lim k)
    (h : bitsOp op k (.ofNat a) (.ofNat b) = some (k.wrap (((f (BitVec.ofInt k.bits (.ofNat a)).toNat (BitVec.ofInt k.bits (.ofNat b)).toNat) : Nat) : Int))) : bitsOp op k (.ofNat a) (.ofNat b) = some (.ofNat (f a b)) := by
  have h2 := lim_le k
  have e : ∀ n : Nat, n < lim k → (BitVec.ofInt k.bits (.ofNat n)).toNat = n := fun n hn => by
    have : BitVec.ofInt k.bits (.ofNat n) = BitVec.ofNat k.bits n := by simp
    rw [this, BitVec.toNat_ofNat, Nat.mod_eq_of_lt (by omega)]
  rw [h, e a ha, e b hb]
  exact congrArg some (wrap_lim hf)
theorem gAnd_eq (k : IntKind) (a b : Nat) : gAnd k a b (abinInt .and k (.ofNat a) k (.ofNat b)) = abinInt .and k (.ofNat a) k (.ofNat b) := by
  unfold gAnd
  rw [nl, nl]
  by_cases h : a < lim k ∧ b < lim k
  · simp only [h.1, h.2, decide_true, Bool.and_self, cond_true, abinInt, if_true]
    rw [bits_eq (op := .and) (f := Nat.land) k a b h.1 h.2 (Nat.lt_of_le_of_lt Nat.and_le_left h.1) (by simp only [bitsOp, BitVec.toNat_and]; rfl)]
    rfl
  · have : (decide (a < lim k) && decide (b < lim k)) = false := by
      rw [Bool.eq_false_iff]; intro h2; simp at h2; exact h h2
    simp only [this, cond_false]
theorem gOr_eq (k : IntKind) (a b : Nat) : gOr k a b (abinInt .or k (.ofNat a) k (.ofNat b)) = abinInt .or k (.ofNat a) k (.ofNat b) := by
  unfold gOr
  rw [nl, nl]
  by_cases h : a < lim k ∧ b < lim k
  · simp only [h.1, h.2, decide_true, Bool.and_self, cond_true, abinInt, if_true]
    have hl : Nat.lor a b < lim k := by
      obtain ⟨n, hn⟩ := lim_pow k
      rw [hn] at h ⊢
      exact Nat.or_lt_two_pow h.1 h.2
    rw [bits_eq (op := .or) (f := Nat.lor) k a b h.1 h.2 hl (by simp only [bitsOp, BitVec.toNat_or]; rfl)]
    rfl
  · have : (decide (a < lim k) && decide (b < lim k)) = false := by
      rw [Bool.eq_false_iff]; intro h2; simp at h2; exact h h2
    simp only [this, cond_false]
theorem gXor_eq (k : IntKind) (a b : Nat) : gXor k a b (abinInt .xor k (.ofNat a) k (.ofNat b)) = abinInt .xor k (.ofNat a) k (.ofNat b) := by
  unfold gXor
  rw [nl, nl]
  by_cases h : a < lim k ∧ b < lim k
  · simp only [h.1, h.2, decide_true, Bool.and_self, cond_true, abinInt, if_true]
    have hl : Nat.xor a b < lim k := by
      obtain ⟨n, hn⟩ := lim_pow k
      rw [hn] at h ⊢
      exact Nat.xor_lt_two_pow h.1 h.2
    rw [bits_eq (op := .xor) (f := Nat.xor) k a b h.1 h.2 hl (by simp only [bitsOp, BitVec.toNat_xor]; rfl)]
    rfl
  · have : (decide (a < lim k) && decide (b < lim k)) = false := by
      rw [Bool.eq_false_iff]; intro h2; simp at h2; exact h h2
    simp only [this, cond_false]

structure BinC where
  f : AV → AV → Option AV
def binC : BinOp → BinC
  | .add => ⟨fun x y => natOp gAdd (abin .add x y) x y⟩
  | .sub => ⟨fun x y => natOp gSub (abin .sub x y) x y⟩
  | .mul => ⟨fun x y => natOp gMul (abin .mul x y) x y⟩
  | .quo => ⟨fun x y => natOp gQuo (abin .quo x y) x y⟩
  | .rem => ⟨fun x y => natOp gRem (abin .rem x y) x y⟩
  | .and => ⟨fun x y => natOp gAnd (abin .and x y) x y⟩
  | .or => ⟨fun x y => natOp gOr (abin .or x y) x y⟩
  | .xor => ⟨fun x y => natOp gXor (abin .xor x y) x y⟩
  | .lss => ⟨fun x y => natOp gLss (abin .lss x y) x y⟩
  | .leq => ⟨fun x y => natOp gLeq (abin .leq x y) x y⟩
  | .gtr => ⟨fun x y => natOp gGtr (abin .gtr x y) x y⟩
  | .geq => ⟨fun x y => natOp gGeq (abin .geq x y) x y⟩
  | .eql => ⟨fun x y => natOp gEql (abin .eql x y) x y⟩
  | .neq => ⟨fun x y => natOp gNeq (abin .neq x y) x y⟩
  | .shl => ⟨fun x y => abin .shl x y⟩
  | .shr => ⟨fun x y => abin .shr x y⟩
  | .andNot => ⟨fun x y => abin .andNot x y⟩
theorem binC_eq (op : BinOp) (x y : AV) : (binC op).f x y = abin op x y := by
  cases op <;> first | rfl | exact natOp_eq (by first | exact gAdd_eq | exact gSub_eq | exact gMul_eq | exact gQuo_eq | exact gRem_eq | exact gAnd_eq | exact gOr_eq | exact gXor_eq | exact gLss_eq | exact gLeq_eq | exact gGtr_eq | exact gGeq_eq | exact gEql_eq | exact gNeq_eq) x y

def convF (k : IntKind) (x : AV) : Option AV := asNat x (aconv k x) fun _ m => cond (Nat.blt m (lim k)) (some (.int k (.ofNat m))) (aconv k x)
theorem convF_eq (k : IntKind) (x : AV) : convF k x = aconv k x := by
  refine asNat_eq fun k' m hx => ?_
  subst hx
  rw [nl]
  by_cases h : m < lim k
  · simp only [h, decide_true, cond_true, aconv]
    rw [wrap_lim h]
  · simp only [h, decide_false, cond_false]

/-! Places -/
def takeF (cs : List AV) (o n : Nat) (agg : Bool) : Option AV :=
  cond agg (cond (leF (Nat.add o n) cs) (some (.agg ((dropF o cs).take n))) none) (cond (Nat.beq n 1) (nthF cs o) (takeCells cs o n false))
theorem takeF_eq (cs : List AV) (o n : Nat) (agg : Bool) : takeF cs o n agg = takeCells cs o n agg := by
  unfold takeF takeCells
  cases agg with
  | true =>
    rw [leF_eq, dropF_eq]
    by_cases h : o + n ≤ cs.length
    · rw [if_pos h]; simp [show Nat.add o n = o + n from rfl, h]
    · rw [if_neg h]; simp [show Nat.add o n = o + n from rfl, h]
  | false =>
    rw [nb, nthF_eq]
    by_cases h1 : n = 1
    · subst h1
      simp only [decide_true, cond_true, cond_false, Bool.false_eq_true, if_false]
      by_cases h : o + 1 ≤ cs.length
      · rw [if_pos h]
      · rw [if_neg h, List.getElem?_eq_none (by omega)]
    · simp only [h1, decide_false, cond_false]
def fieldF (off sz : Nat) (agg : Bool) (x : AV) : Option AV :=
  match x with
  | .agg cs => takeF cs off sz agg
  | _ => none
theorem fieldF_eq (off sz : Nat) (agg : Bool) (x : AV) : fieldF off sz agg x = afield off sz agg x := by
  unfold fieldF afield; cases x <;> first | rfl | exact takeF_eq _ _ _ _
def idxF (len sz : Nat) (agg : Bool) (x i : AV) : Option AV := asNat i (aidx len sz agg x i) fun k m => match x with
  | .agg cs => cond (Nat.blt m len) (takeF cs (Nat.mul m sz) sz agg) none
  | _ => aidx len sz agg x i
theorem idxF_eq (len sz : Nat) (agg : Bool) (x i : AV) : idxF len sz agg x i = aidx len sz agg x i := by
  refine asNat_eq fun k m hi => ?_
  subst hi
  cases x <;> first | rfl | skip
  rename_i cs
  dsimp only
  rw [nl, takeF_eq]
  simp only [aidx]
  by_cases h : m < len
  · rw [if_pos ⟨Int.natCast_nonneg _, by exact Int.ofNat_lt.2 h⟩]; simp only [h, decide_true, cond_true]; rfl
  · rw [if_neg (fun h2 => h (Int.ofNat_lt.1 h2.2))]; simp only [h, decide_false, cond_false]
def idxsF (x i : AV) : Option AV := asNat i (aidxs x i) fun _ m => match x with
  | .str s => (match nthF s m with | some b => some (.int .u8 (.ofNat b.toNat)) | none => none)
  | _ => aidxs x i
theorem idxsF_eq (x i : AV) : idxsF x i = aidxs x i := by
  refine asNat_eq fun k m hi => ?_
  subst hi
  cases x <;> first | rfl | skip
  rename_i s
  dsimp only
  rw [nthF_eq]
  simp only [aidxs]
  rw [if_pos (show 0 ≤ Int.ofNat m from Int.natCast_nonneg _)]
  show _ = Option.map _ s[m]?
  cases s[m]? <;> rfl
def iaddrF (arr : Option Nat) (sz : Nat) (x i : AV) : Option AV := asNat i (aiaddr arr sz x i) fun _ m => match arr, x with
  | none, .lst _ len cells => cond (Nat.blt m len) (some (.fptr (dropF (Nat.mul m sz) cells))) none
  | none, .row id o len _ => cond (Nat.blt m len) (some (.ptr id (Nat.add o (Nat.mul m sz)))) none
  | some n, .ptr id o => cond (Nat.blt m n) (some (.ptr id (Nat.add o (Nat.mul m sz)))) none
  | some n, .fptr cells => cond (Nat.blt m n) (some (.fptr (dropF (Nat.mul m sz) cells))) none
  | _, _ => aiaddr arr sz x i
theorem iaddrF_eq (arr : Option Nat) (sz : Nat) (x i : AV) : iaddrF arr sz x i = aiaddr arr sz x i := by
  refine asNat_eq fun k m hi => ?_
  subst hi
  have key : ∀ (n : Nat) (v : AV), cond (Nat.blt m n) (some v) none = if 0 ≤ (Int.ofNat m) ∧ (Int.ofNat m) < (n : Int) then some v else none := by
    intro n v
    rw [nl]
    by_cases h : m < n
    · rw [if_pos ⟨Int.natCast_nonneg _, Int.ofNat_lt.2 h⟩]; simp only [h, decide_true, cond_true]
    · rw [if_neg (fun h2 => h (Int.ofNat_lt.1 h2.2))]; simp only [h, decide_false, cond_false]
  cases arr <;> cases x <;> first
    | rfl
    | (dsimp only; rw [key]; simp only [dropF_eq]; rfl)
    | (dsimp only; rw [key]; rfl)
def loadF (T : TH) (n : Nat) (agg : Bool) (x : AV) : Option AV :=
  match x with
  | .ptr id o => (match T.t.get id with | .row cs => takeF cs o n agg | _ => none)
  | .fptr cs => takeF cs 0 n agg
  | _ => none
theorem loadF_eq (T : TH) (n : Nat) (agg : Bool) (x : AV) : loadF T n agg x = aload T.ah n agg x := by
  unfold loadF aload
  cases x <;> first | rfl | skip
  · dsimp only
    show _ = match T.t.get _ with | .row cs => _ | _ => _
    split <;> first | rfl | exact takeF_eq _ _ _ _
  · exact takeF_eq _ _ _ _
end
end Rb

/- Runs by pieces that are made once: each piece of a text becomes a function over the slots' values, in a box, so that it is found again. All values are reckoned to the end before they are handed on: what waits would drag behind it all that it came from. -/
set_option linter.unusedVariables false
set_option linter.unusedSimpArgs false
namespace Rb
open Go
noncomputable section

/-! Values, reckoned to the end and handed on -/
def natV (m : Nat) (K : Nat → Bool) : Bool := Nat.rec (motive := fun _ => Bool) (K 0) (fun p _ => K (Nat.succ p)) m
theorem natV_eq (m : Nat) (K : Nat → Bool) : natV m K = K m := by cases m <;> rfl
def spineK {α : Type} (l : List α) : (List α → Bool) → Bool := List.rec (motive := fun _ => (List α → Bool) → Bool) (fun K => K []) (fun x _ ih K => apK ih fun r => apK K (x :: r)) l
theorem spineK_eq {α : Type} : ∀ (l : List α) (K : List α → Bool), spineK l K = K l
  | [], K => rfl
  | x :: r, K => by show spineK r (fun r => K (x :: r)) = _; rw [spineK_eq r]
def dropK {α : Type} (n : Nat) : List α → (List α → Bool) → Bool := Nat.rec (motive := fun _ => List α → (List α → Bool) → Bool) (fun l K => K l) (fun _ ih l K => List.rec (motive := fun _ => Bool) (K []) (fun _ t _ => apK (ih t) K) l) n
theorem dropK_eq {α : Type} : ∀ (n : Nat) (l : List α) (K : List α → Bool), dropK n l K = K (l.drop n)
  | 0, l, K => rfl
  | n + 1, [], K => rfl
  | n + 1, x :: r, K => by rw [List.drop_succ_cons, ← dropK_eq n r K]; rfl

def fv (v : AV) (K : AV → Bool) : Bool :=
  match v with
  | .int k n => (match n with | .ofNat m => natV m fun m => K (.int k (.ofNat m)) | .negSucc m => natV m fun m => K (.int k (.negSucc m)))
  | .bool b => (match b with | true => K (.bool true) | false => K (.bool false))
  | .str s => spineK s fun s => K (.str s)
  | .ptr i o => natV i fun i => natV o fun o => K (.ptr i o)
  | .row i o l z => natV i fun i => natV o fun o => natV l fun l => K (.row i o l z)
  | .lst tk l cs => natV l fun l => spineK cs fun cs => K (.lst tk l cs)
  | .fptr cs => spineK cs fun cs => K (.fptr cs)
  | .agg cs => spineK cs fun cs => K (.agg cs)
  | .tup cs => spineK cs fun cs => K (.tup cs)
  | v => K v
theorem fv_eq (v : AV) (K : AV → Bool) : fv v K = K v := by
  unfold fv
  split <;> (try split) <;> simp only [natV_eq, spineK_eq]

/-- What comes to be; what was there and is handed on. -/
def DoK (x : Option AV) (K : AV → Bool) : Bool := match x with | some v => fv v K | none => false
theorem DoK_eq (x : Option AV) (K : AV → Bool) : DoK x K = DoB x K := by
  cases x with
  | none => rfl
  | some v => exact fv_eq v K
def DoR (x : Option AV) (K : AV → Bool) : Bool := match x with | some v => K v | none => false
theorem DoR_eq (x : Option AV) (K : AV → Bool) : DoR x K = DoB x K := by cases x <;> rfl

/-! The slots -/
def getK (E : EV) (t : Nat) (K : AV → Bool) : Bool := List.rec (motive := fun _ => Bool) (K .bot) (fun p _ ih => Prod.rec (motive := fun _ => Bool) (fun s v => Bool.rec (motive := fun _ => Bool) ih (K v) (Nat.beq s t)) p) E
theorem getK_eq : ∀ (E : EV) (t : Nat) (K : AV → Bool), getK E t K = K (eget E t)
  | [], t, K => rfl
  | (s, v) :: E, t, K => by
    show Bool.rec (motive := fun _ => Bool) (getK E t K) (K v) (Nat.beq s t) = K (cond (Nat.beq s t) v (eget E t))
    rw [getK_eq E t K]
    cases Nat.beq s t <;> rfl

def Opd.val (E : EV) : Opd → AV
  | .t n => eget E n
  | .k v => v
def ovals (E : EV) : Option Opd → Option AV
  | none => none
  | some x => some (x.val E)
def vals (E : EV) : List Opd → List AV
  | [] => []
  | x :: r => x.val E :: vals E r
def pvals (E : EV) : List (Nat × Nat × Opd) → List (Nat × Nat × AV)
  | [] => []
  | (a, b, x) :: r => (a, b, x.val E) :: pvals E r
theorem val_eq (E : EV) (x : Opd) : (x.sub E).ev [] = x.val E := by cases x <;> rfl
theorem vals_eq (E : EV) : ∀ xs : List Opd, evs [] (xs.map (Opd.sub E)) = vals E xs
  | [] => rfl
  | x :: r => by
    have := vals_eq E r
    simp only [evs, List.map_cons] at this ⊢
    rw [this, val_eq]; rfl
theorem pvals_eq (E : EV) : ∀ xs : List (Nat × Nat × Opd), evps [] (xs.map fun p => (p.1, p.2.1, p.2.2.sub E)) = pvals E xs
  | [] => rfl
  | (a, b, x) :: r => by
    have := pvals_eq E r
    simp only [evps, List.map_cons] at this ⊢
    rw [this, val_eq]; rfl
theorem ovals_eq (E : EV) (x : Option Opd) : (x.map (Opd.sub E)).map (Opd.ev []) = ovals E x := by
  cases x with
  | none => rfl
  | some x => exact congrArg some (val_eq E x)

def valK (x : Opd) (E : EV) (K : AV → Bool) : Bool := match x with | .t n => getK E n K | .k v => K v
theorem valK_eq (x : Opd) (E : EV) (K : AV → Bool) : valK x E K = K (x.val E) := by
  cases x with
  | t n => exact getK_eq E n K
  | k v => rfl
def valsK (E : EV) : List Opd → (List AV → Bool) → Bool
  | [], K => K []
  | x :: r, K => valK x E fun v => valsK E r fun vs => K (v :: vs)
theorem valsK_eq (E : EV) : ∀ (xs : List Opd) (K : List AV → Bool), valsK E xs K = K (vals E xs)
  | [], K => rfl
  | x :: r, K => by rw [valsK, valK_eq, valsK_eq E r]; rfl
def pvalsK (E : EV) : List (Nat × Nat × Opd) → (List (Nat × Nat × AV) → Bool) → Bool
  | [], K => K []
  | (a, b, x) :: r, K => valK x E fun v => pvalsK E r fun vs => K ((a, b, v) :: vs)
theorem pvalsK_eq (E : EV) : ∀ (xs : List (Nat × Nat × Opd)) (K : List (Nat × Nat × AV) → Bool), pvalsK E xs K = K (pvals E xs)
  | [], K => rfl
  | (a, b, x) :: r, K => by rw [pvalsK, valK_eq, pvalsK_eq E r]; rfl
def ovalK (E : EV) (x : Option Opd) (K : Option AV → Bool) : Bool := match x with | none => K none | some x => valK x E fun v => K (some v)
theorem ovalK_eq (E : EV) (x : Option Opd) (K : Option AV → Bool) : ovalK E x K = K (ovals E x) := by
  cases x with
  | none => rfl
  | some x => exact valK_eq x E _

/-! The memory -/
def setK (x : AObj) (f : Nat) : TT → Nat → (TT → Bool) → Bool :=
  Nat.rec (motive := fun _ => TT → Nat → (TT → Bool) → Bool) (fun t _ K => K t)
    (fun _ ih t i K => TT.casesOn (motive := fun _ => Bool) t
      (cond (Nat.beq i 0) (K (.node x .leaf .leaf)) (cond (Nat.beq (Nat.mod i 2) 1) (ih .leaf (Nat.div i 2) fun l => K (.node .gone l .leaf)) (ih .leaf (Nat.sub (Nat.div i 2) 1) fun r => K (.node .gone .leaf r))))
      (fun a l r => cond (Nat.beq i 0) (K (.node x l r)) (cond (Nat.beq (Nat.mod i 2) 1) (ih l (Nat.div i 2) fun l => K (.node a l r)) (ih r (Nat.sub (Nat.div i 2) 1) fun r => K (.node a l r))))) f
theorem setK_eq (x : AObj) : ∀ (f : Nat) (t : TT) (i : Nat) (K : TT → Bool), setK x f t i K = K (TT.setF x f t i) := by
  intro f
  induction f with
  | zero => intro t i K; cases t <;> rfl
  | succ f ih =>
    intro t i K
    cases t with
    | leaf =>
      show cond (Nat.beq i 0) (K (.node x .leaf .leaf)) (cond (Nat.beq (i % 2) 1) (setK x f .leaf (i / 2) fun l => K (.node .gone l .leaf)) (setK x f .leaf (i / 2 - 1) fun r => K (.node .gone .leaf r))) = _
      rw [ih, ih, TT.setF]
      cases Nat.beq i 0 <;> cases Nat.beq (i % 2) 1 <;> rfl
    | node a l r =>
      show cond (Nat.beq i 0) (K (.node x l r)) (cond (Nat.beq (i % 2) 1) (setK x f l (i / 2) fun l => K (.node a l r)) (setK x f r (i / 2 - 1) fun r => K (.node a l r))) = _
      rw [ih, ih, TT.setF]
      cases Nat.beq i 0 <;> cases Nat.beq (i % 2) 1 <;> rfl
def THset (T : TH) (i : Nat) (x : AObj) (K : TH → Bool) : Bool := match T with | ⟨n, t⟩ => setK x (Nat.succ i) t i fun t => K ⟨n, t⟩
theorem THset_eq (T : TH) (i : Nat) (x : AObj) (K : TH → Bool) : THset T i x K = K (T.set i x) := by
  obtain ⟨n, t⟩ := T
  exact setK_eq x (i + 1) t i fun t => K ⟨n, t⟩
def THpush (T : TH) (x : AObj) (K : TH → Bool) : Bool := match T with | ⟨n, t⟩ => setK x (Nat.succ n) t n fun t => natV (Nat.succ n) fun m => K ⟨m, t⟩
theorem THpush_eq (T : TH) (x : AObj) (K : TH → Bool) : THpush T x K = K (T.push x) := by
  obtain ⟨n, t⟩ := T
  simp only [THpush, setK_eq, natV_eq]
  rfl
def objK (x : AObj) (K : AObj → Bool) : Bool :=
  match x with
  | .row cs => spineK cs fun cs => K (.row cs)
  | .map es => spineK es fun es => K (.map es)
  | .tok a b => natV a fun a => K (.tok a b)
  | .siter s p => natV p fun p => K (.siter s p)
  | .gone => K .gone
theorem objK_eq (x : AObj) (K : AObj → Bool) : objK x K = K x := by cases x <;> simp only [objK, spineK_eq, natV_eq]

/-- Some cells written: those ahead of them are laid anew, those behind are shared. -/
def putK (n : Nat) : AV → List AV → (List AV → Bool) → Bool :=
  Nat.rec (motive := fun _ => AV → List AV → (List AV → Bool) → Bool) (fun v l K => List.rec (motive := fun _ => Bool) (K []) (fun _ t _ => K (v :: t)) l) (fun _ ih v l K => List.rec (motive := fun _ => Bool) (K []) (fun x t _ => apK (ih v t) fun r => apK K (x :: r)) l) n
theorem putK_eq : ∀ (n : Nat) (v : AV) (l : List AV) (K : List AV → Bool), putK n v l K = K (l.set n v)
  | 0, v, [], K => rfl
  | 0, v, x :: t, K => rfl
  | n + 1, v, [], K => rfl
  | n + 1, v, x :: t, K => by
    show putK n v t (fun r => K (x :: r)) = _
    rw [putK_eq n v t]; rfl
def cellsK (o : Nat) : List AV → List AV → (List AV → Bool) → Bool
  | [], cs, K => K cs
  | v :: r, cs, K => putK o v cs fun cs => cellsK (Nat.succ o) r cs K
theorem cellsK_eq : ∀ (o : Nat) (l cs : List AV) (K : List AV → Bool), cellsK o l cs K = K (setCells cs o l)
  | _, [], cs, K => rfl
  | o, v :: r, cs, K => by rw [cellsK, putK_eq, cellsK_eq (Nat.succ o) r]; rfl

/-- What an operation does to the memory. -/
inductive Eff where
  | wr (v : AV) (i : Nat) (cs : List AV) (o : Nat) (news : List AV)
  | keep (v : AV)
  | set (v : AV) (i : Nat) (x : AObj)
  | push (v : AV) (x : AObj)
  | gp (v : AV) (i : Nat) (x : AObj)
  | gs (v : AV) (i j : Nat) (x : AObj)
def Eff.app (T : TH) : Eff → AV × TH
  | .wr v i cs o news => (v, T.set i (.row (setCells cs o news)))
  | .keep v => (v, T)
  | .set v i x => (v, T.set i x)
  | .push v x => (v, T.push x)
  | .gp v i x => (v, (T.set i .gone).push x)
  | .gs v i j x => (v, (T.set i .gone).set j x)
def DoE (T : TH) (r : Option Eff) (K : PostB) : Bool :=
  match r with
  | none => false
  | some e => (match e with
    | .wr v i cs o news => fv v fun v => spineK news fun news => cellsK o news cs fun cs => THset T i (.row cs) (K v)
    | .keep v => fv v fun v => K v T
    | .set v i x => fv v fun v => objK x fun x => THset T i x (K v)
    | .push v x => fv v fun v => objK x fun x => THpush T x (K v)
    | .gp v i x => fv v fun v => objK x fun x => THset T i .gone fun T => THpush T x (K v)
    | .gs v i j x => fv v fun v => objK x fun x => THset T i .gone fun T => THset T j x (K v))
theorem DoE_eq (T : TH) (r : Option Eff) (K : PostB) : DoE T r K = DoHB (r.map (Eff.app T)) K := by
  cases r with
  | none => rfl
  | some e => cases e <;> simp only [DoE, fv_eq, objK_eq, THset_eq, THpush_eq, spineK_eq, cellsK_eq, Option.map_some, Eff.app, DoHB]

def storeE (T : TH) (n : Nat) (x v : AV) : Option Eff :=
  match x with
  | .ptr id o =>
    match T.t.get id with
    | .row cs => cond (and v.known (and (Nat.beq v.cells.length n) (and (v.cells.all AV.scalar) (leF (Nat.add o n) cs)))) (some (.wr (.tup []) id cs o v.cells)) none
    | _ => none
  | _ => none
theorem storeE_eq (T : TH) (n : Nat) (x v : AV) : (storeE T n x v).map (Eff.app T) = (tstore T n x v).map fun T => (.tup [], T) := by
  cases x with
  | ptr id o =>
    simp only [storeE, tstore]
    cases hc : T.t.get id with
    | row cs =>
      dsimp only
      rw [leF_eq, nb]
      by_cases h : v.known = true ∧ v.cells.length = n ∧ v.cells.all AV.scalar = true ∧ o + n ≤ cs.length
      · rw [if_pos h]
        have : (v.known && (decide (v.cells.length = n) && (v.cells.all AV.scalar && decide (Nat.add o n ≤ cs.length)))) = true := by
          simp only [h.1, h.2.1, h.2.2.1, decide_true, Bool.true_and, decide_eq_true_eq]; exact h.2.2.2
        rw [this]; rfl
      · rw [if_neg h]
        have : (v.known && (decide (v.cells.length = n) && (v.cells.all AV.scalar && decide (Nat.add o n ≤ cs.length)))) = false := by
          rw [Bool.eq_false_iff]; intro h2
          simp only [Bool.and_eq_true, decide_eq_true_eq] at h2
          exact h h2
        rw [this]; rfl
    | _ => rfl
  | _ => rfl

def boxE (T : TH) (mu : Bool) (cells : List AV) : Eff := cond mu (.push (.ptr T.n 0) (.row cells)) (.keep (.fptr cells))
theorem boxE_eq (T : TH) (mu : Bool) (cells : List AV) : (boxE T mu cells).app T = tbox T mu cells := by cases mu <;> rfl
def boxvE (T : TH) (mu : Bool) (n : Nat) (v : AV) : Option Eff := if v.known ∧ v.cells.length = n then some (boxE T mu v.cells) else none
theorem boxvE_eq (T : TH) (mu : Bool) (n : Nat) (v : AV) : (boxvE T mu n v).map (Eff.app T) = tboxv T mu n v := by
  unfold boxvE tboxv; split
  · exact congrArg some (boxE_eq _ _ _)
  · rfl
def bsliceE (T : TH) (mu : Bool) (sz len : Nat) (zero : List AV) (parts : List (Nat × Nat × AV)) : Option Eff :=
  match fillA (List.replicate len zero).flatten parts with
  | some cells => some (cond mu (.push (.row T.n 0 len sz) (.row cells)) (.keep (.lst .full len cells)))
  | none => none
theorem bsliceE_eq (T : TH) (mu : Bool) (sz len : Nat) (zero : List AV) (parts : List (Nat × Nat × AV)) : (bsliceE T mu sz len zero parts).map (Eff.app T) = tbslice T mu sz len zero parts := by
  unfold bsliceE tbslice
  cases fillA (List.replicate len zero).flatten parts with
  | none => rfl
  | some cells => cases mu <;> rfl
def appendE (T : TH) (mu : Bool) (sz bytes : Nat) (x y : AV) : Option Eff :=
  match acells T.ah sz y with
  | none => none
  | some (m, news) =>
    if ¬ news.all AV.scalar then none else
    match x with
    | .lst tk len cells =>
      if m = 0 then some (.keep (.lst tk len cells))
      else if ¬ (cells.length = len * sz ∧ (len + m) * bytes ≤ 140737488355328 ∧ len + m ≤ 9223372036854775807) then none
      else match tk, mu with
      | .nil, true | .full, true => some (.push (.row T.n 0 (len + m) sz) (.row (cells ++ news)))
      | .nil, false | .full, false => some (.push (.lst (.own T.n) (len + m) (cells ++ news)) (.tok ((len + m) * sz) sz))
      | .own t, _ => match T.t.get t with
        | .tok k sz' => if k = len * sz ∧ sz' = sz then some (.gp (.lst (.own T.n) (len + m) (cells ++ news)) t (.tok ((len + m) * sz) sz)) else none
        | _ => none
      | .dead, _ => none
    | .row id o len sz' =>
      match T.t.get id with
      | .row cs =>
        if m = 0 then some (.keep (.row id o len sz'))
        else if ¬ (o = 0 ∧ sz' = sz ∧ (len + m) * bytes ≤ 140737488355328 ∧ len + m ≤ 9223372036854775807) then none
        else if (len + m) * sz ≤ cs.length then some (.wr (.row id 0 (len + m) sz) id cs (len * sz) news)
        else if cs.length = len * sz then some (.gp (.row T.n 0 (len + m) sz) id (.row (cs ++ news)))
        else none
      | _ => none
    | _ => none
theorem appendE_eq (T : TH) (mu : Bool) (sz bytes : Nat) (x y : AV) : (appendE T mu sz bytes x y).map (Eff.app T) = tappend T mu sz bytes x y := by
  unfold appendE tappend
  cases acells T.ah sz y with
  | none => rfl
  | some p =>
    obtain ⟨m, news⟩ := p
    dsimp only
    split
    · rfl
    · cases x <;> try rfl
      · rename_i tk len cells
        dsimp only
        split
        · rfl
        · split
          · rfl
          · cases tk <;> cases mu <;> try rfl
            all_goals
              rename_i t
              dsimp only
              generalize T.t.get t = o
              cases o <;> try rfl
              dsimp only
              split <;> rfl
      · rename_i id o len sz'
        dsimp only
        generalize T.t.get id = o
        cases o <;> try rfl
        dsimp only
        split
        · rfl
        · split
          · rfl
          · split
            · rfl
            · split <;> rfl
def makeE (T : TH) (mu : Bool) (sz bytes : Nat) (zero : List AV) (len cap : AV) : Option Eff :=
  match len, cap with
  | .int .i64 n, .int .i64 c =>
    if 0 ≤ n ∧ n ≤ c ∧ bytes * c ≤ 281474976710656 ∧ c ≤ 9223372036854775807 ∧ zero.length = sz then
      if mu then some (.push (.row T.n 0 n.toNat sz) (.row (List.replicate c.toNat zero).flatten))
      else if n = c then some (.keep (.lst .full n.toNat (List.replicate n.toNat zero).flatten)) else none
    else none
  | _, _ => none
theorem makeE_eq (T : TH) (mu : Bool) (sz bytes : Nat) (zero : List AV) (len cap : AV) : (makeE T mu sz bytes zero len cap).map (Eff.app T) = tmake T mu sz bytes zero len cap := by
  unfold makeE tmake
  cases len <;> try rfl
  rename_i k n
  cases k <;> try rfl
  cases cap <;> try rfl
  rename_i k c
  cases k <;> try rfl
  dsimp only
  split
  · split
    · rfl
    · split <;> rfl
  · rfl
def copyE (T : TH) (sz : Nat) (x y : AV) : Option Eff :=
  match x, acells T.ah sz y with
  | .row id o len _, some (m, news) =>
    match T.t.get id with
    | .row cs =>
      let n := min m len
      if news.all AV.scalar ∧ o + n * sz ≤ cs.length then some (.wr (.int .i64 n) id cs o (news.take (n * sz))) else none
    | _ => none
  | _, _ => none
theorem copyE_eq (T : TH) (sz : Nat) (x y : AV) : (copyE T sz x y).map (Eff.app T) = tcopy T sz x y := by
  unfold copyE tcopy
  cases x <;> try rfl
  rename_i id o len z
  cases acells T.ah sz y with
  | none => rfl
  | some p =>
    obtain ⟨m, news⟩ := p
    dsimp only
    generalize T.t.get id = q
    cases q <;> try rfl
    dsimp only
    split <;> rfl
def mapupE (T : TH) (kk : FK) (m k v : AV) : Option Eff :=
  match m with
  | .map id =>
    match T.t.get id with
    | .map es => if plainKey kk k ∧ v.known then (match findA kk k es 0 with
        | some (some (i, _)) => some (.set (.tup []) id (.map (es.set i (k, v))))
        | some none => some (.set (.tup []) id (.map (es ++ [(k, v)])))
        | none => none) else none
    | _ => none
  | _ => none
theorem mapupE_eq (T : TH) (kk : FK) (m k v : AV) : (mapupE T kk m k v).map (Eff.app T) = (tmapup T kk m k v).map fun T => (.tup [], T) := by
  unfold mapupE tmapup
  cases m <;> try rfl
  rename_i id
  dsimp only
  generalize T.t.get id = q
  cases q <;> try rfl
  rename_i es
  dsimp only
  split
  · cases findA kk k es 0 with
    | none => rfl
    | some r =>
      cases r with
      | none => rfl
      | some p => rfl
  · rfl
def freezeE (T : TH) (x : AV) : Option Eff :=
  match x with
  | .row id o len sz =>
    match T.t.get id with
    | .row cs => if o + len * sz ≤ cs.length then some (.set (.lst .dead len ((cs.drop o).take (len * sz))) id .gone) else none
    | _ => none
  | .ptr id o =>
    match T.t.get id with
    | .row cs => match frzA (fun i => T.t.get i) cs with
      | some (l, id') => if id' = id then none else some (.gs (.ptr id o) id' id (.row l))
      | none => some (.set (.fptr (cs.drop o)) id .gone)
    | _ => none
  | .lst tk len cells => some (.keep (.lst tk len cells))
  | .fptr cs => some (.keep (.fptr cs))
  | .agg cells => match frzA (fun i => T.t.get i) cells with
    | some (l, id) => some (.set (.agg l) id .gone)
    | none => some (.keep (.agg cells))
  | _ => none
theorem freezeE_eq (T : TH) (x : AV) : (freezeE T x).map (Eff.app T) = tfreeze T x := by
  unfold freezeE tfreeze
  cases x <;> try rfl
  · rename_i id o
    dsimp only
    generalize T.t.get id = q
    cases q <;> try rfl
    rename_i cs
    dsimp only
    cases frzA (fun i => T.t.get i) cs with
    | none => rfl
    | some q =>
      obtain ⟨l, id'⟩ := q
      dsimp only
      by_cases e : id' = id
      · rw [if_pos e, if_pos e]; rfl
      · rw [if_neg e, if_neg e]; rfl
  · rename_i id o len sz
    dsimp only
    generalize T.t.get id = q
    cases q <;> try rfl
    dsimp only
    split <;> rfl
  · rename_i cs
    dsimp only
    cases frzA (fun i => T.t.get i) cs with
    | none => rfl
    | some q => rfl

structure OpC where
  f : CallsB → EV → TH → PostB → Bool
structure SetC where
  f : EV → AV → (EV → Bool) → Bool
structure RegC where
  f : CallsB → EV → TH → (EV → TH → Bool) → Bool
structure CodC where
  f : CallsB → EV → TH → (EV → TH → Bool) → (AExit → EV → TH → Bool) → Bool
structure PutC where
  f : EV → List AV → (EV → Bool) → Bool
structure SamC where
  f : EV → TH → Bool → Bool
structure ResC where
  f : EV → TH → (List AV → Bool) → Bool
structure FnC where
  f : CallsB → List AV → TH → PostB → Bool

def ldC (agg : Bool) (x : Option AV) (K : AV → Bool) : Bool := cond agg (DoK x K) (DoR x K)
theorem ldC_eq (agg : Bool) (x : Option AV) (K : AV → Bool) : ldC agg x K = DoB x K := by cases agg <;> simp only [ldC, cond_true, cond_false, DoK_eq, DoR_eq]

/-- Elements' places: what is frozen is handed on as it is. -/
def iaddrK (arr : Option Nat) (sz : Nat) (x i : AV) (K : AV → Bool) : Bool :=
  match x with
  | .lst _ len cells => (match i with
    | .int _ n => (match n with
      | .ofNat m => (match arr with | none => cond (Nat.blt m len) (dropK (Nat.mul m sz) cells fun r => K (.fptr r)) false | some _ => DoK (iaddrF arr sz x i) K)
      | _ => DoK (iaddrF arr sz x i) K)
    | _ => DoK (iaddrF arr sz x i) K)
  | .fptr cells => (match i with
    | .int _ n => (match n with
      | .ofNat m => (match arr with | some l => cond (Nat.blt m l) (dropK (Nat.mul m sz) cells fun r => K (.fptr r)) false | none => DoK (iaddrF arr sz x i) K)
      | _ => DoK (iaddrF arr sz x i) K)
    | _ => DoK (iaddrF arr sz x i) K)
  | _ => DoK (iaddrF arr sz x i) K
theorem iaddrK_eq (arr : Option Nat) (sz : Nat) (x i : AV) (K : AV → Bool) : iaddrK arr sz x i K = DoB (aiaddr arr sz x i) K := by
  rw [← iaddrF_eq, ← DoK_eq]
  cases x <;> try rfl
  · rename_i cells
    cases i <;> try rfl
    rename_i k n
    cases n <;> try rfl
    rename_i m
    cases arr <;> try rfl
    rename_i l
    rw [DoK_eq]
    simp only [iaddrK, iaddrF, asNat, dropK_eq, dropF_eq]
    cases Nat.blt m l <;> rfl
  · rename_i tk len cells
    cases i <;> try rfl
    rename_i k n
    cases n <;> try rfl
    rename_i m
    cases arr <;> try rfl
    rw [DoK_eq]
    simp only [iaddrK, iaddrF, asNat, dropK_eq, dropF_eq]
    cases Nat.blt m len <;> rfl
def faddrK (off : Nat) (x : AV) (K : AV → Bool) : Bool :=
  match x with
  | .ptr i o => natV (Nat.add o off) fun o => K (.ptr i o)
  | .fptr cs => dropK off cs fun r => K (.fptr r)
  | _ => DoK (afaddr off x) K
theorem faddrK_eq (off : Nat) (x : AV) (K : AV → Bool) : faddrK off x K = DoB (afaddr off x) K := by
  unfold faddrK
  split
  · rw [natV_eq]; rfl
  · rw [dropK_eq]; rfl
  · exact DoK_eq _ _

def opC : AOp → OpC
  | .mv x => ⟨fun _ E T K => valK x E fun v => K v T⟩
  | .pick c a b => ⟨fun _ E T K => valK c E fun c => GdB c true (valK a E fun v => K v T) (valK b E fun v => K v T)⟩
  | .bin op x y => ⟨fun _ E T K => valK x E fun x => valK y E fun y => DoK ((binC op).f x y) fun v => K v T⟩
  | .beq neg x y => ⟨fun _ E T K => valK x E fun x => valK y E fun y => DoK (abeq neg x y) fun v => K v T⟩
  | .isnil k neg x => ⟨fun _ E T K => valK x E fun x => DoK (anil k neg x) fun v => K v T⟩
  | .eqagg neg ks x y => ⟨fun _ E T K => valK x E fun x => valK y E fun y => DoK (aeqAgg neg ks x y) fun v => K v T⟩
  | .un op x => ⟨fun _ E T K => valK x E fun x => DoK (aun op x) fun v => K v T⟩
  | .conv k x => ⟨fun _ E T K => valK x E fun x => DoK (convF k x) fun v => K v T⟩
  | .same x => ⟨fun _ E T K => valK x E fun x => DoR (asame x) fun v => K v T⟩
  | .nilck x => ⟨fun _ E T K => valK x E fun x => DoR (anilck x) fun v => K v T⟩
  | .field off sz agg x => ⟨fun _ E T K => valK x E fun x => ldC agg (fieldF off sz agg x) fun v => K v T⟩
  | .idx len sz agg x i => ⟨fun _ E T K => valK x E fun x => valK i E fun i => ldC agg (idxF len sz agg x i) fun v => K v T⟩
  | .idxs x i => ⟨fun _ E T K => valK x E fun x => valK i E fun i => DoK (idxsF x i) fun v => K v T⟩
  | .faddr off x => ⟨fun _ E T K => valK x E fun x => faddrK off x fun v => K v T⟩
  | .iaddr arr sz x i => ⟨fun _ E T K => valK x E fun x => valK i E fun i => iaddrK arr sz x i fun v => K v T⟩
  | .slice sz x lo hi mx => ⟨fun _ E T K => valK x E fun x => ovalK E lo fun lo => ovalK E hi fun hi => ovalK E mx fun mx => DoK (aslice sz x lo hi mx) fun v => K v T⟩
  | .sslice x lo hi => ⟨fun _ E T K => valK x E fun x => ovalK E lo fun lo => ovalK E hi fun hi => DoK (asslice x lo hi) fun v => K v T⟩
  | .mkif t x => ⟨fun _ E T K => valK x E fun v => K (.iface t v) T⟩
  | .mkfn key caps => ⟨fun _ E T K => valsK E caps fun vs => K (.fn key vs) T⟩
  | .extract i x => ⟨fun _ E T K => valK x E fun x => DoR (aextract i x) fun v => K v T⟩
  | .build zero parts => ⟨fun _ E T K => pvalsK E parts fun ps => DoK (abuild zero ps) fun v => K v T⟩
  | .len str x => ⟨fun _ E T K => valK x E fun x => DoK (alen str x) fun v => K v T⟩
  | .lenk n => ⟨fun _ E T K => K (.int .i64 n) T⟩
  | .cap x => ⟨fun _ E T K => valK x E fun x => DoK (acap x) fun v => K v T⟩
  | .minmax mx xs => ⟨fun _ E T K => valsK E xs fun vs => DoK (aminmax mx vs) fun v => K v T⟩
  | .load n agg x => ⟨fun _ E T K => valK x E fun x => ldC agg (loadF T n agg x) fun v => K v T⟩
  | .store n x v => ⟨fun _ E T K => valK x E fun x => valK v E fun v => DoE T (storeE T n x v) K⟩
  | .box mu n x => ⟨fun _ E T K => valK x E fun x => DoE T (boxvE T mu n x) K⟩
  | .alloc mu zero => ⟨fun _ E T K => DoE T (some (boxE T mu zero)) K⟩
  | .bslice mu sz len zero parts => ⟨fun _ E T K => pvalsK E parts fun ps => DoE T (bsliceE T mu sz len zero ps) K⟩
  | .append mu sz bytes x y => ⟨fun _ E T K => valK x E fun x => valK y E fun y => DoE T (appendE T mu sz bytes x y) K⟩
  | .make mu sz bytes zero len cap => ⟨fun _ E T K => valK len E fun l => valK cap E fun c => DoE T (makeE T mu sz bytes zero l c) K⟩
  | .copy sz x y => ⟨fun _ E T K => valK x E fun x => valK y E fun y => DoE T (copyE T sz x y) K⟩
  | .mkmap => ⟨fun _ E T K => DoE T (some (.push (.map T.n) (.map []))) K⟩
  | .lookup kk zero ok m k => ⟨fun _ E T K => valK m E fun m => valK k E fun k => DoK (alookup T.ah kk zero ok m k) fun v => K v T⟩
  | .mapup kk m k v => ⟨fun _ E T K => valK m E fun m => valK k E fun k => valK v E fun v => DoE T (mapupE T kk m k v) K⟩
  | .delete kk m k => ⟨fun _ E T K => DoB (tdelete T kk (m.val E) (k.val E)) fun T => K (.tup []) T⟩
  | .maplen m => ⟨fun _ E T K => valK m E fun m => DoK (amaplen T.ah m) fun v => K v T⟩
  | .sbytes x => ⟨fun _ E T K => valK x E fun x => DoK (asbytes x) fun v => K v T⟩
  | .bstr x => ⟨fun _ E T K => valK x E fun x => DoK (abstr T.ah x) fun v => K v T⟩
  | .srange x => ⟨fun _ E T K => DoHB (tsrange T (x.val E)) K⟩
  | .snext x => ⟨fun _ E T K => DoHB (tsnext T (x.val E)) K⟩
  | .call key args => ⟨fun B E T K => valsK E args fun vs => B key vs T K⟩
  | .callv f args => ⟨fun B E T K => valK f E fun f => valsK E args fun vs => clB B f vs T K⟩
  | .ext e xs => ⟨fun _ E T K => valsK E xs fun vs => DoHB (text T e vs) K⟩
  | .inv tbl x args => ⟨fun B E T K => valK x E fun x => valsK E args fun vs => invB B tbl x vs T K⟩

theorem mapB (x : Option TH) (K : PostB) : DoHB (x.map fun T => (.tup [], T)) K = DoB x fun T => K (.tup []) T := by cases x <;> rfl
theorem opC_eq (B : CallsB) (E : EV) (T : TH) (K : PostB) (op : AOp) : (opC op).f B E T K = opB B [] T K (op.sub E) := by
  cases op <;> simp only [opC, AOp.sub, opB, val_eq, vals_eq, pvals_eq, ovals_eq, valK_eq, valsK_eq, pvalsK_eq, ovalK_eq, DoK_eq, DoR_eq, ldC_eq, iaddrK_eq, faddrK_eq, binC_eq, convF_eq, fieldF_eq, idxF_eq, idxsF_eq, loadF_eq, DoE_eq, storeE_eq, boxvE_eq, bsliceE_eq, appendE_eq, makeE_eq, copyE_eq, mapupE_eq, mapB, Option.map_some, boxE_eq] <;> rfl

def setC (n : Nat) : Option Nat → SetC
  | none => ⟨fun E _ K => K E⟩
  | some d => cond (Nat.blt d n) ⟨fun E v K => K ((d, v) :: E)⟩ ⟨fun E _ K => K E⟩
theorem setC_eq (n : Nat) (d : Option Nat) (E : EV) (v : AV) (K : EV → Bool) : (setC n d).f E v K = K (esetd n E d v) := by
  cases d with
  | none => rfl
  | some d =>
    simp only [setC, esetd, eset]
    cases Nat.blt d n <;> rfl

def oneC (n : Nat) (o : AOper) : RegC :=
  match o.guard with
  | none => ⟨fun B E T K => (opC o.op).f B E T fun v T' => (setC n o.dst).f E v fun E => K E T'⟩
  | some (s, want) => ⟨fun B E T K => getK E s fun g =>
      Gd3B g want ((setC n (some s)).f E (.bool want) fun E => (opC o.op).f B E T fun v T' => (setC n o.dst).f E v fun E => K E T')
        ((setC n (some s)).f E (.bool !want) fun E => (setC n o.dst).f E (.tup []) fun E => K E T) ((setC n (some s)).f E (.tup []) fun E => (setC n o.dst).f E (.tup []) fun E => K E T)⟩
theorem oneC_eq (n : Nat) (o : AOper) (B : CallsB) (E : EV) (T : TH) (K : EV → TH → Bool) : (oneC n o).f B E T K = oneB B n o E T K := by
  unfold oneC oneB
  cases hg : o.guard with
  | none => simp only [opC_eq, setC_eq]
  | some g => simp only [opC_eq, setC_eq, esetd, getK_eq]

def regC (n : Nat) : List AOper → RegC
  | [] => ⟨fun _ E T K => K E T⟩
  | o :: r => ⟨fun B E T K => (oneC n o).f B E T fun E' T' => (regC n r).f B E' T' K⟩
theorem regC_eq (n : Nat) : ∀ (l : List AOper) (B : CallsB) (E : EV) (T : TH) (K : EV → TH → Bool), (regC n l).f B E T K = regB B n l E T K := by
  intro l
  induction l with
  | nil => intro B E T K; rfl
  | cons o r ih =>
    intro B E T K
    simp only [regC, oneC_eq, regB, oneB, ih]

def segC (n : Nat) (ops : List AOper) : List Nat → RegC
  | [] => ⟨fun _ E T K => K E T⟩
  | i :: r => match ops[i]? with
    | some o => ⟨fun B E T K => (oneC n o).f B E T fun E' T' => (segC n ops r).f B E' T' K⟩
    | none => ⟨fun _ _ _ _ => false⟩
theorem segC_eq (n : Nat) (ops : List AOper) : ∀ (l : List Nat) (B : CallsB) (E : EV) (T : TH) (K : EV → TH → Bool), (segC n ops l).f B E T K = segB B n ops l E T K := by
  intro l
  induction l with
  | nil => intro B E T K; rfl
  | cons i r ih =>
    intro B E T K
    simp only [segC, segB]
    cases ops[i]? with
    | none => rfl
    | some o => simp only [oneC_eq, ih]

def readC (o : AOper) : SamC :=
  match o.op with
  | .load n agg x => ⟨fun E T X => valK x E fun x => getK E (o.dst.getD 0) fun d => and (sameV (loadF T n agg x) d) X⟩
  | .lookup kk zero ok m k => ⟨fun E T X => and (sameV (alookup T.ah kk zero ok (m.val E) (k.val E)) (eget E (o.dst.getD 0))) X⟩
  | .maplen m => ⟨fun E T X => and (sameV (amaplen T.ah (m.val E)) (eget E (o.dst.getD 0))) X⟩
  | .bstr x => ⟨fun E T X => and (sameV (abstr T.ah (x.val E)) (eget E (o.dst.getD 0))) X⟩
  | _ => ⟨fun _ _ X => X⟩
theorem readC_eq (o : AOper) (E : EV) (T : TH) (X : Bool) : (readC o).f E T X = (readB T E o && X) := by
  unfold readC readB
  cases o.op <;> simp only [val_eq, Bool.true_and, valK_eq, getK_eq, loadF_eq] <;> rfl
def samC (ops : List AOper) : List Nat → SamC
  | [] => ⟨fun _ _ X => X⟩
  | l :: r => match ops[l]? with
    | some o => (match o.guard with
      | none => ⟨fun E T X => (readC o).f E T ((samC ops r).f E T X)⟩
      | some (s, want) => ⟨fun E T X => and (getK E s fun g => sameW g want ((readC o).f E T true)) ((samC ops r).f E T X)⟩)
    | none => ⟨fun E T X => (samC ops r).f E T X⟩
theorem samC_eq (ops : List AOper) : ∀ (l : List Nat) (E : EV) (T : TH) (X : Bool), (samC ops l).f E T X = samesT ops E T X l := by
  intro l
  induction l with
  | nil => intro E T X; rfl
  | cons i r ih =>
    intro E T X
    simp only [samC, samesT]
    cases ops[i]? with
    | none => simp only [ih, Bool.true_and]
    | some o =>
      simp only [sameGB]
      cases o.guard with
      | none => simp only [ih, readC_eq]
      | some g => simp only [ih, readC_eq, Bool.and_true, getK_eq]

def drawC (n : Nat) (ops : List AOper) (last : List Nat) : List (List Nat × Nat × List Nat) → RegC
  | [] => segC n ops last
  | (seg, e, st) :: r => match ops[e]? with
    | some o => ⟨fun B E T K => (segC n ops seg).f B E T fun E1 T1 => (oneC n o).f B E1 T1 fun E2 T2 => (samC ops st).f E1 T2 ((drawC n ops last r).f B E2 T2 K)⟩
    | none => ⟨fun B E T K => (segC n ops seg).f B E T fun _ _ => false⟩
theorem drawC_eq (n : Nat) (ops : List AOper) (last : List Nat) : ∀ (l : List (List Nat × Nat × List Nat)) (B : CallsB) (E : EV) (T : TH) (K : EV → TH → Bool), (drawC n ops last l).f B E T K = drawB B n ops last l E T K := by
  intro l
  induction l with
  | nil => intro B E T K; exact segC_eq _ _ _ _ _ _ _
  | cons p r ih =>
    obtain ⟨seg, e, st⟩ := p
    intro B E T K
    simp only [drawC, drawB]
    cases ops[e]? with
    | none => simp only [segC_eq]
    | some o => simp only [segC_eq, oneC_eq, samC_eq, ih]

def putC (n : Nat) : List Nat → PutC
  | [] => ⟨fun E _ K => K E⟩
  | t :: r => cond (Nat.blt t n) ⟨fun E s K => List.rec (motive := fun _ => Bool) ((putC n r).f ((t, .bot) :: E) [] K) (fun v q _ => (putC n r).f ((t, v) :: E) q K) s⟩ ⟨fun E s K => (putC n r).f E s.tail K⟩
theorem putC_eq (n : Nat) : ∀ (l : List Nat) (E : EV) (s : List AV) (K : EV → Bool), (putC n l).f E s K = K (eputs n E l s) := by
  intro l
  induction l with
  | nil => intro E s K; cases s <;> rfl
  | cons t r ih =>
    intro E s K
    simp only [putC, eputs, eset]
    cases Nat.blt t n with
    | true => cases s <;> simp only [cond_true, ih, List.headD_nil, List.headD_cons, List.tail_nil, List.tail_cons]
    | false => simp only [cond_false, ih]
def getsK (E : EV) : List Nat → (List AV → Bool) → Bool
  | [], K => K []
  | t :: r, K => getK E t fun v => getsK E r fun vs => K (v :: vs)
theorem getsK_eq (E : EV) : ∀ (l : List Nat) (K : List AV → Bool), getsK E l K = K (egets E l)
  | [], K => rfl
  | t :: r, K => by rw [getsK, getK_eq, getsK_eq E r]; rfl
/-- The slots that are not forgotten. -/
def keepE (ks : List Nat) : EV → EV
  | [] => []
  | (t, v) :: E => cond (memN t ks) (keepE ks E) ((t, v) :: keepE ks E)
def keepK (ks : List Nat) (E : EV) : (EV → Bool) → Bool := List.rec (motive := fun _ => (EV → Bool) → Bool) (fun K => K []) (fun p _ ih K => Prod.rec (motive := fun _ => Bool) (fun t v => cond (memN t ks) (ih K) (ih fun E => K ((t, v) :: E))) p) E
theorem keepK_eq (ks : List Nat) : ∀ (E : EV) (K : EV → Bool), keepK ks E K = K (keepE ks E)
  | [], K => rfl
  | (t, v) :: E, K => by
    show cond (memN t ks) (keepK ks E K) (keepK ks E fun E => K ((t, v) :: E)) = _
    rw [keepK_eq ks E, keepK_eq ks E, keepE]
    cases memN t ks <;> rfl
theorem memN_iff : ∀ (t : Nat) (l : List Nat), memN t l = decide (t ∈ l)
  | t, [] => rfl
  | t, s :: r => by
    rw [memN, nb, memN_iff t r]
    by_cases h : t = s
    · simp [h]
    · simp [h]
theorem keepE_get (ks : List Nat) : ∀ (E : EV) (i : Nat), eget (keepE ks E) i = if i ∈ ks then .bot else eget E i
  | [], i => by simp [keepE, eget]
  | (t, v) :: E, i => by
    rw [keepE, memN_iff, eget_cons]
    by_cases h : t ∈ ks
    · simp only [h, decide_true, cond_true, keepE_get ks E i]
      by_cases hi : i ∈ ks
      · rw [if_pos hi, if_pos hi]
      · rw [if_neg hi, if_neg hi, if_neg (show ¬ t = i from fun e => hi (e ▸ h))]
    · simp only [h, decide_false, cond_false, eget_cons, keepE_get ks E i]
      by_cases e : t = i
      · subst e; rw [if_pos rfl, if_neg h, if_pos rfl]
      · rw [if_neg e, if_neg e]
theorem killsI_get : ∀ (ks : List Nat) (env : Env) (i : Nat), (Rb.kills env ks).getD i .bot = if i ∈ ks then .bot else env.getD i .bot
  | [], env, i => by simp [Rb.kills]
  | t :: r, env, i => by
    rw [Rb.kills, killsI_get r]
    by_cases hr : i ∈ r
    · rw [if_pos hr, if_pos (List.mem_cons_of_mem _ hr)]
    · rw [if_neg hr]
      by_cases e : t = i
      · subst e
        rw [if_pos List.mem_cons_self, List.getD_eq_getElem?_getD, List.getElem?_set]
        simp only [if_true]
        split <;> rfl
      · rw [if_neg (by simp only [List.mem_cons, not_or]; exact ⟨fun h => e h.symm, hr⟩), List.getD_eq_getElem?_getD, List.getElem?_set_ne e, ← List.getD_eq_getElem?_getD]
theorem killsI_length : ∀ (ks : List Nat) (env : Env), (Rb.kills env ks).length = env.length
  | [], env => rfl
  | t :: r, env => by rw [Rb.kills, killsI_length r]; simp
theorem Agree.keep {n : Nat} {E : EV} {env : Env} (h : Agree n E env) (ks : List Nat) : Agree n (keepE ks E) (Rb.kills env ks) :=
  ⟨by rw [killsI_length]; exact h.1, fun i => by rw [keepE_get, killsI_get, h.2 i]⟩

def blockX (id : Nat) (N : EV → TH → Bool) (X : AExit → EV → TH → Bool) : AExit → EV → TH → Bool
  | .exit id', E, T => cond (Nat.beq id' id) (N E T) (X (.exit id') E T)
  | e, E, T => X e E T

def LoopC (F : List AV → TH → (List AV → TH → Bool) → Bool) (n : Nat) : List AV → TH → Bool := Nat.rec (motive := fun _ => List AV → TH → Bool) (fun _ _ => false) (fun _ ih s T => F s T ih) n

def codeC (fuel n : Nat) : ACode → CodC
  | .skip => ⟨fun _ E T N _ => N E T⟩
  | .region ops => ⟨fun B E T N _ => (regC n ops).f B E T N⟩
  | .draw ops _ plan last => ⟨fun B E T N _ => (drawC n ops last plan).f B E T N⟩
  | .seq a b => ⟨fun B E T N X => (codeC fuel n a).f B E T (fun E T => (codeC fuel n b).f B E T N X) X⟩
  | .cond x a b => ⟨fun B E T N X => valK x E fun x => GdB x true ((codeC fuel n a).f B E T N X) ((codeC fuel n b).f B E T N X)⟩
  | .block id a => ⟨fun B E T N X => (codeC fuel n a).f B E T N (blockX id N X)⟩
  | .loop vs ks a => ⟨fun B E T N X => keepK ks E fun E0 => getsK E vs fun s => LoopC (fun s T K => (putC n vs).f E0 s fun E => (codeC fuel n a).f B E T (fun E' T' => getsK E' vs fun s => K s T') X) fuel s T⟩
  | .exit id => ⟨fun _ E T _ X => X (.exit id) E T⟩
  | .ret => ⟨fun _ E T _ X => X .ret E T⟩
  | .freeze t a => ⟨fun B E T N X => getK E t fun v => DoE T (freezeE T v) fun v T' => (setC n (some t)).f E v fun E => (codeC fuel n a).f B E T' N X⟩
  | .join vs ks a b => ⟨fun _ _ _ _ _ => false⟩
  | .rjoin vs ks ops b => ⟨fun _ _ _ _ _ => false⟩

theorem codeC_sound {Φ : Calls'} {B : CallsB} (hB : SoundB Φ B) (hΦ : Mono Φ) (fuel n : Nat) : ∀ (c : ACode) {E : EV} {env : Env} {T : TH} {N : EV → TH → Bool} {X : AExit → EV → TH → Bool} {Q : AExit → Env → AH → Prop}, Agree n E env → (codeC fuel n c).f B E T N X = true →
    (∀ E' env' T', Agree n E' env' → N E' T' = true → Q .normal env' T'.ah) → (∀ x E' env' T', x ≠ .normal → Agree n E' env' → X x E' T' = true → Q x env' T'.ah) → codeSem Φ c env T.ah Q := by
  have reg : ∀ (l : List AOper) {E : EV} {env : Env} {T : TH} {N : EV → TH → Bool} {Q : Env → AH → Prop}, Agree n E env → (regC n l).f B E T N = true → (∀ E' env' T', Agree n E' env' → N E' T' = true → Q env' T'.ah) → regSem Φ l env T.ah Q := by
    intro l E env T N Q ha h hN
    rw [regC_eq] at h
    refine regE_sound hΦ ha (regB_sound (Q := fun E' H' => ∃ T', H' = T'.ah ∧ N E' T' = true) hB h fun e T' h => ⟨T', rfl, h⟩) fun E' env' H' ha' h' => ?_
    obtain ⟨T', rfl, h'⟩ := h'
    exact hN _ _ _ ha' h'
  intro c
  induction c with
  | skip => intro E env T N X Q ha h hN hX; exact hN _ _ _ ha h
  | region ops => intro E env T N X Q ha h hN hX; exact reg ops ha h hN
  | draw ops pr plan last =>
    intro E env T N X Q ha h hN hX
    simp only [codeC, drawC_eq] at h
    refine drawE_sound hΦ ha (drawB_sound (Q := fun E' H' => ∃ T', H' = T'.ah ∧ N E' T' = true) hB h fun e T' h => ⟨T', rfl, h⟩) fun E' env' H' ha' h' => ?_
    obtain ⟨T', rfl, h'⟩ := h'
    exact hN _ _ _ ha' h'
  | seq a b iha ihb =>
    intro E env T N X Q ha h hN hX
    simp only [codeC] at h
    simp only [codeSem]
    refine iha ha h (fun E' env' T' ha' h' => ihb ha' h' hN hX) fun x E' env' T' hx ha' h' => ?_
    cases x with
    | normal => exact absurd rfl hx
    | exit i => exact hX _ _ _ _ hx ha' h'
    | ret => exact hX _ _ _ _ hx ha' h'
  | join vs ks a b iha ihb => intro E env T N X Q ha h hN hX; cases h
  | cond x a b iha ihb =>
    intro E env T N X Q ha h hN hX
    simp only [codeC, valK_eq] at h
    rw [← val_eq, sub_ev ha] at h
    exact GdB_sound h (fun h => iha ha h hN hX) fun h => ihb ha h hN hX
  | block id a ih =>
    intro E env T N X Q ha h hN hX
    simp only [codeC] at h
    simp only [codeSem]
    refine ih ha h hN fun x E' env' T' hx ha' h' => ?_
    cases x with
    | normal => exact absurd rfl hx
    | exit i =>
      simp only [blockX, nb] at h'
      dsimp only
      by_cases hi : i = id
      · rw [if_pos hi]; simp only [hi, decide_true, cond_true] at h'; exact hN _ _ _ ha' h'
      · rw [if_neg hi]; simp only [hi, decide_false, cond_false] at h'; exact hX _ _ _ _ hx ha' h'
    | ret => exact hX _ _ _ _ hx ha' h'
  | loop vs ks a ih =>
    intro E env T N X Q ha h hN hX
    simp only [codeC, keepK_eq, getsK_eq, putC_eq] at h
    simp only [codeSem]
    have main : ∀ (m : Nat) (s : List AV) (T : TH), LoopC (fun s T K => (codeC fuel n a).f B (eputs n (keepE ks E) vs s) T (fun E' T' => K (egets E' vs) T') X) m s T = true →
        LoopP (fun (s : List AV × AH) (K : List AV × AH → Prop) =>
          codeSem Φ a (puts (kills env ks) vs s.1) s.2 fun e env' H' => match e with
            | .normal => K (gets env' vs, H')
            | e => Q e env' H') (s, T.ah) := by
      intro m
      induction m with
      | zero => intro s T h; cases h
      | succ m ihm =>
        intro s T h
        refine LoopP.step ?_
        refine ih ((ha.keep ks).puts vs s) h (fun E' env' T' ha' h' => ?_) fun x E' env' T' hx ha' h' => ?_
        · dsimp only
          rw [← ha'.gets vs]
          exact ihm _ _ h'
        · cases x with
          | normal => exact absurd rfl hx
          | exit i => exact hX _ _ _ _ hx ha' h'
          | ret => exact hX _ _ _ _ hx ha' h'
    rw [← ha.gets vs]
    exact main fuel _ _ h
  | exit id => intro E env T N X Q ha h hN hX; exact hX _ _ _ _ (by intro h; cases h) ha h
  | ret => intro E env T N X Q ha h hN hX; exact hX _ _ _ _ (by intro h; cases h) ha h
  | freeze t a ih =>
    intro E env T N X Q ha h hN hX
    simp only [codeC, getK_eq, DoE_eq, freezeE_eq, setC_eq, esetd] at h
    simp only [codeSem]
    rw [ha.2 t] at h
    exact DoHB_sound (tfreeze_ah _ _) h fun v T' h' => ih (ha.set t v) h' hN hX
  | rjoin vs ks ops b ih => intro E env T N X Q ha h hN hX; cases h

def resC : List ARes → ResC
  | [] => ⟨fun _ _ K => K []⟩
  | .tmp t :: r => ⟨fun E T K => getK E t fun v => (resC r).f E T fun vs => K (v :: vs)⟩
  | .cell t n agg :: r => ⟨fun E T K => getK E t fun x => ldC agg (loadF T n agg x) fun v => (resC r).f E T fun vs => K (v :: vs)⟩
theorem resC_eq : ∀ (rs : List ARes) (E : EV) (T : TH) (K : List AV → Bool), (resC rs).f E T K = resB E T rs K := by
  intro rs
  induction rs with
  | nil => intros; rfl
  | cons r rs ih => intro E T K; cases r <;> simp only [resC, resB, ih, getK_eq, ldC_eq, loadF_eq]

/-- One result, or more. -/
def oneK (vs : List AV) (Q : PostB) (T : TH) : Bool :=
  match vs with
  | [v] => Q v T
  | vs => Q (.tup vs) T
theorem oneK_eq (vs : List AV) (Q : PostB) (T : TH) : oneK vs Q T = Q (oneRes vs) T := by
  cases vs with
  | nil => rfl
  | cons v r => cases r <;> rfl

def retX (rs : List ARes) (Q : PostB) : AExit → EV → TH → Bool
  | .exit _, _, _ => false
  | _, E, T => (resC rs).f E T fun vs => oneK vs Q T

def initK : List AV → Nat → (EV → Bool) → Bool
  | [], _, K => K []
  | a :: r, i, K => initK r (Nat.succ i) fun E => K ((i, a) :: E)
theorem initK_eq : ∀ (l : List AV) (i : Nat) (K : EV → Bool), initK l i K = K (einit l i)
  | [], _, _ => rfl
  | a :: r, i, K => by rw [initK, initK_eq r]; rfl

def fnC (fuel : Nat) (f : AFunc) : FnC :=
  ⟨fun B args T Q => and (Nat.ble args.length f.ntmps) (initK args 0 fun E => (codeC fuel f.ntmps f.body).f B E T (fun E T => (resC f.results).f E T fun vs => oneK vs Q T) (retX f.results Q))⟩
theorem fnC_sound {Φ : Calls'} {B : CallsB} (hB : SoundB Φ B) (hΦ : Mono Φ) {fuel : Nat} {f : AFunc} {args : List AV} {T : TH} {K : PostB} (h : (fnC fuel f).f B args T K = true) {Q : Post} (hK : ∀ v T', K v T' = true → Q v T'.ah) : fnSem Φ f args T.ah Q := by
  simp only [fnC, Bool.and_eq_true, initK_eq] at h
  have hle := Nat.le_of_ble_eq_true h.1
  have ha : Agree f.ntmps (einit args 0) (args ++ List.replicate (f.ntmps - args.length) .bot) := by
    refine ⟨by simp; omega, fun i => ?_⟩
    rw [einit_get]
    simp only [Nat.not_lt_zero, if_false, Nat.sub_zero]
    simp only [List.getD_eq_getElem?_getD]
    by_cases hi : i < args.length
    · rw [List.getElem?_append_left hi]
    · rw [List.getElem?_append_right (by omega), List.getElem?_eq_none (by omega), List.getElem?_replicate]
      split <;> rfl
  have fin : ∀ (E' : EV) (env' : Env) (T' : TH), Agree f.ntmps E' env' → (resC f.results).f E' T' (fun vs => oneK vs K T') = true → resSem env' T'.ah f.results fun vs => Q (oneRes vs) T'.ah := by
    intro E' env' T' ha' h'
    rw [resC_eq] at h'
    rw [← resE_eq ha']
    exact resB_sound h' fun vs h => hK _ _ (by rwa [oneK_eq] at h)
  refine codeC_sound hB hΦ fuel _ f.body ha h.2 (fun E' env' T' ha' h' => fin E' env' T' ha' h') fun x E' env' T' hx ha' h' => ?_
  cases x with
  | normal => exact absurd rfl hx
  | exit i => cases h'
  | ret => exact fin E' env' T' ha' h'

/-- The functions of a table, made once. -/
def dispI (tab : Nat → Option FnC) (B : CallsB) : CallsB := fun k args T Q => match tab k with
  | some c => c.f B args T Q
  | none => false

def tabH (C : Ctx) (fuel : Nat) : List Hint → Nat → Option FnC
  | [], _ => none
  | h :: r, k => cond (Nat.beq h.fid k) (some (fnC fuel (decF C h))) (tabH C fuel r k)

theorem tabH_mem {C : Ctx} {fuel : Nat} : ∀ {L : List Hint} {k : Nat} {c : FnC}, tabH C fuel L k = some c → ∃ h, h ∈ L ∧ h.fid = k ∧ c = fnC fuel (decF C h)
  | [], _, _, h => by cases h
  | p :: r, k, c, h => by
    unfold tabH at h
    cases hb : Nat.beq p.fid k with
    | true =>
      rw [hb] at h
      simp only [cond_true, Option.some.injEq] at h
      exact ⟨p, List.mem_cons_self, Nat.eq_of_beq_eq_true hb, h.symm⟩
    | false =>
      rw [hb] at h
      obtain ⟨f, hf, hc⟩ := tabH_mem (L := r) h
      exact ⟨f, List.mem_cons_of_mem _ hf, hc⟩

theorem dispI_ok {P : Program} {GT : Nat → Option (List AV)} {L : List Hint} (hL : chkH (idC P GT) L = true) (fuel : Nat) : DispOK (ACall (idC P GT)) (dispI (tabH (idC P GT) fuel L)) := by
  intro B hB k args T K h Q hQ
  unfold dispI at h
  split at h
  · rename_i c hc
    obtain ⟨hi, hm, hk, rfl⟩ := tabH_mem hc
    have hs : fnSem (ACall (idC P GT)) (decF (idC P GT) hi) args T.ah Q := fnC_sound hB (ACall_mono _) h hQ
    refine ⟨fnSem_nv (ACall_nv _) hs, fun f hf G w Vs hG hrel hargs => ?_⟩
    have hfk : f = k := by
      simp only [idC] at hf
      cases hg : goodFn P k with
      | true => rw [hg] at hf; simpa using hf.symm
      | false => rw [hg] at hf; cases hf
    subst hfk
    exact fn_sound (idC_fok P GT) (by rw [← hk]; exact chkH_mem hL _ hm) hs hG hrel hargs
  · cases h
end
end Rb

/- Known calls, found by runs; closed runs. -/
set_option linter.unusedVariables false
namespace Rb
open Go
noncomputable section

/-- Reckoned as what is asked for, not as one side of an equation. -/
def forced (b : Bool) : Bool := Bool.rec (motive := fun _ => Bool) false true b
theorem forced_eq (b : Bool) : forced b = b := by cases b <;> rfl
theorem of_forced {b : Bool} (h : forced b = true) : b = true := by rwa [forced_eq] at h

def memL : List (Nat × List AV × AV) → Memo
  | [], _, _ => none
  | e :: r, k, args => cond (Nat.beq e.1 k) (cond (AV.sames e.2.1 args) (some e.2.2) (memL r k args)) (memL r k args)

/-- An entry, run. -/
def entry (B : CallsB) (e : Nat × List AV × AV) : Bool := and (AV.frozs e.2.1) (and e.2.2.froz (B e.1 e.2.1 TH.mt (fun u _ => u.same e.2.2)))

theorem memL_nil {Φ : Calls'} : MemoOK Φ (memL []) := fun _ _ _ h => by cases h
theorem memL_cons {C : Ctx} (hGT : GTok C) {B : CallsB} (hB : SoundB (ACall C) B) {e : Nat × List AV × AV} {L : List (Nat × List AV × AV)} (h : entry B e = true) (hL : MemoOK (ACall C) (memL L)) : MemoOK (ACall C) (memL (e :: L)) := by
  obtain ⟨k0, a0, v0⟩ := e
  simp only [entry, Bool.and_eq_true] at h
  obtain ⟨h1, h2, h3⟩ := h
  intro k args v hm H Q hQ
  unfold memL at hm
  dsimp only at hm
  cases hb : Nat.beq k0 k with
  | false => rw [hb] at hm; exact hL k args v hm H Q hQ
  | true =>
    rw [hb] at hm
    obtain rfl := Nat.eq_of_beq_eq_true hb
    cases hs : AV.sames a0 args with
    | false => rw [hs] at hm; exact hL k0 args v hm H Q hQ
    | true =>
      rw [hs] at hm
      simp only [cond_true, Option.some.injEq] at hm
      subst hm
      obtain rfl := AV.sames_sound _ _ hs
      exact run_any hGT hB h1 h2 h3 H Q hQ
theorem memL_app {C : Ctx} (hGT : GTok C) {B : CallsB} (hB : SoundB (ACall C) B) {L : List (Nat × List AV × AV)} (hL : MemoOK (ACall C) (memL L)) : ∀ {N : List (Nat × List AV × AV)}, N.all (entry B) = true → MemoOK (ACall C) (memL (N ++ L))
  | [], _ => hL
  | e :: N, h => by
    simp only [List.all_cons, Bool.and_eq_true] at h
    exact memL_cons hGT hB h.1 (memL_app hGT hB hL h.2)

/-- What is known, as a table of functions' runs. -/
def runI (fn : Nat → Option FnC) (L : List (Nat × List AV × AV)) : CallsB := runM (memL L) (dispI fn) 100
theorem runI_ok {C : Ctx} {fn : Nat → Option FnC} (hd : DispOK (ACall C) (dispI fn)) {L : List (Nat × List AV × AV)} (hL : MemoOK (ACall C) (memL L)) : SoundB (ACall C) (runI fn L) := runM_sound hL hd 100

theorem run_yes {C : Ctx} {B : CallsB} (hB : SoundB (ACall C) B) {k : Nat} {args : List AV} (h : B k args TH.mt (fun u _ => u.same (.bool true)) = true) : ACall C k args AH.mt (fun v _ => v = .bool true) := by
  have := hB k args TH.mt _ h (fun v _ => v = .bool true) (fun v T' h => AV.same_sound _ _ h)
  rwa [TH.ah_mt] at this
end
end Rb

/- Values told more weakly: which slice may still grow is forgotten. -/
set_option linter.unusedVariables false
set_option linter.unusedSimpArgs false
namespace Rb
open Go
mutual
def AV.weak : AV → AV
  | .fptr cs => .fptr (AV.weaks cs)
  | .lst _ len cs => .lst .dead len (AV.weaks cs)
  | .fn k cs => .fn k (AV.weaks cs)
  | .iface t v => .iface t (AV.weak v)
  | .agg cs => .agg (AV.weaks cs)
  | .tup cs => .tup (AV.weaks cs)
  | v => v
def AV.weaks : List AV → List AV
  | [] => []
  | c :: r => AV.weak c :: AV.weaks r
end
theorem weaks_map : ∀ cs : List AV, AV.weaks cs = cs.map AV.weak
  | [] => rfl
  | c :: r => by rw [AV.weaks, weaks_map r]; rfl
theorem weaks_get {cs : List AV} {j : Nat} {c : AV} (h : (AV.weaks cs)[j]? = some c) : ∃ d, cs[j]? = some d ∧ c = d.weak := by
  rw [weaks_map, List.getElem?_map] at h
  cases hc : cs[j]? with
  | none => rw [hc] at h; cases h
  | some d => rw [hc] at h; simp at h; exact ⟨d, rfl, h.symm⟩
theorem weaks_len (cs : List AV) : (AV.weaks cs).length = cs.length := by rw [weaks_map, List.length_map]

theorem VR.weak {F : FTab} {w : World} {G : Ghost} {c : AV} {V : Value} (h : VR F w G c V) : VR F w G c.weak V := by
  induction h with
  | bot V => exact .bot V
  | bool b => exact .bool b
  | int k n => exact .int k n
  | str s => exact .str s
  | nilp => exact .nilp
  | ptr id off h => exact .ptr id off h
  | fptr cells b o Vs h _ ih =>
    refine .fptr _ b o Vs (fun j c hj => ?_) fun j c hj => ?_
    · obtain ⟨d, hd, rfl⟩ := weaks_get hj; exact h j d hd
    · obtain ⟨d, hd, rfl⟩ := weaks_get hj; exact ih j d hd
  | lstnil => exact .lst0 none 0
  | lst0 a cap => exact .lst0 a cap
  | lst tk len cells b o cap Vs ht hle h _ ih =>
    refine .lst .dead len _ b o cap Vs trivial hle (fun j c hj => ?_) fun j c hj => ?_
    · obtain ⟨d, hd, rfl⟩ := weaks_get hj; exact h j d hd
    · obtain ⟨d, hd, rfl⟩ := weaks_get hj; exact ih j d hd
  | row id off len sz cap h hle hc => exact .row id off len sz cap h hle hc
  | map id h => exact .map id h
  | nilmap => exact .nilmap
  | fn key caps f Vs hk hf hl _ ih =>
    refine .fn key _ f Vs hk hf (by rw [weaks_len]; exact hl) fun j c V hc hV => ?_
    obtain ⟨d, hd, rfl⟩ := weaks_get hc; exact ih j d V hd hV
  | bfn key k caps f Vs hk hf hl _ ih =>
    refine .bfn key k _ f Vs hk hf (by rw [weaks_len]; exact hl) fun j c V hc hV => ?_
    obtain ⟨d, hd, rfl⟩ := weaks_get hc; exact ih j d V hd hV
  | nilfn => exact .nilfn
  | iface t v V _ ih => exact .iface t _ V ih
  | nilif => exact .nilif
  | agg cs Vs hl _ ih =>
    refine .agg _ Vs (by rw [weaks_len]; exact hl) fun j c V hc hV => ?_
    obtain ⟨d, hd, rfl⟩ := weaks_get hc; exact ih j d V hd hV
  | tup cs Vs hl _ ih =>
    refine .tup _ Vs (by rw [weaks_len]; exact hl) fun j c V hc hV => ?_
    obtain ⟨d, hd, rfl⟩ := weaks_get hc; exact ih j d V hd hV

/-- A result may be told more weakly. -/
theorem ACall.weak {C : Ctx} {key : Nat} {args : List AV} {H : AH} {Q : Post} (h : ACall C key args H (fun v H' => Q v.weak H')) : ACall C key args H Q := by
  refine ⟨by obtain ⟨v, H', hq⟩ := h.1; exact ⟨_, _, hq⟩, fun f hf G w Vs hG hrel hargs => ?_⟩
  refine Calls.mono (h.2 f hf G w Vs hG hrel hargs) fun e w' he => ?_
  obtain ⟨V, v, H', G', e1, hQ, hv, r⟩ := he
  exact ⟨V, v.weak, H', G', e1, hQ, hv.weak, r⟩

/-- What holds of arguments told weakly holds of them told strongly. -/
theorem ACall.weak_args {C : Ctx} {key : Nat} {args : List AV} {H : AH} {Q : Post} (h : ACall C key (AV.weaks args) H Q) : ACall C key args H Q := by
  refine ⟨h.1, fun f hf G w Vs hG hrel hargs => ?_⟩
  refine h.2 f hf G w Vs hG hrel ⟨by rw [weaks_len]; exact hargs.1, fun j c V hc hV => ?_⟩
  obtain ⟨d, hd, rfl⟩ := weaks_get hc
  exact (hargs.2 j d V hd hV).weak
end Rb

/- Known calls, found by function first; results and arguments told weakly. -/
set_option linter.unusedVariables false
namespace Rb
open Go
noncomputable section

def lookA : List (List AV × AV) → List AV → Option AV
  | [], _ => none
  | e :: r, a => cond (AV.sames e.1 a) (some e.2) (lookA r a)
def grp (k : Nat) : List (Nat × List AV × AV) → List (List AV × AV)
  | [] => []
  | e :: r => cond (Nat.beq e.1 k) ((e.2.1, e.2.2) :: grp k r) (grp k r)
theorem look_grp (k : Nat) (args : List AV) : ∀ L : List (Nat × List AV × AV), lookA (grp k L) args = memL L k args
  | [] => rfl
  | e :: r => by
    have ih := look_grp k args r
    unfold grp memL
    cases Nat.beq e.1 k with
    | false => exact ih
    | true =>
      simp only [cond_true, lookA]
      cases AV.sames e.2.1 args with
      | false => exact ih
      | true => rfl
def memG (L : List (Nat × List AV × AV)) : Memo := fun k args => match grp k L with
  | [] => none
  | l => lookA l (AV.weaks args)
theorem memG_ok {C : Ctx} {L : List (Nat × List AV × AV)} (h : MemoOK (ACall C) (memL L)) : MemoOK (ACall C) (memG L) := by
  intro k args v hm H Q hQ
  have : lookA (grp k L) (AV.weaks args) = some v := by
    unfold memG at hm
    split at hm
    · cases hm
    · exact hm
  rw [look_grp] at this
  exact ACall.weak_args (h k _ v this H Q hQ)

theorem run_anyW {C : Ctx} (hGT : GTok C) {B : CallsB} (hB : SoundB (ACall C) B) {k : Nat} {args : List AV} {v : AV} (ha : AV.frozs args = true) (hv : v.froz = true) (h : B k args TH.mt (fun u _ => u.weak.same v) = true) (H : AH) (Q : Post) (hQ : Q v H) : ACall C k args H Q :=
  ACall.frame2 hGT (ACall.weak (Q := fun u _ => u.same v = true) (run_closed hB (K := fun u => u.weak.same v) h)) ha H Q fun u _ hu => by rw [AV.same_sound _ _ hu]; exact ⟨hv, hQ⟩

/-- An entry, run; its result may be told more weakly. -/
def entryW (B : CallsB) (e : Nat × List AV × AV) : Bool := and (AV.frozs e.2.1) (and e.2.2.froz (B e.1 e.2.1 TH.mt (fun u _ => u.weak.same e.2.2)))
def allW (B : CallsB) : List (Nat × List AV × AV) → Bool
  | [] => true
  | e :: r => and (entryW B e) (allW B r)
theorem memL_consW {C : Ctx} (hGT : GTok C) {B : CallsB} (hB : SoundB (ACall C) B) {e : Nat × List AV × AV} {L : List (Nat × List AV × AV)} (h : entryW B e = true) (hL : MemoOK (ACall C) (memL L)) : MemoOK (ACall C) (memL (e :: L)) := by
  obtain ⟨k0, a0, v0⟩ := e
  simp only [entryW, Bool.and_eq_true] at h
  obtain ⟨h1, h2, h3⟩ := h
  intro k args v hm H Q hQ
  unfold memL at hm
  dsimp only at hm
  cases hb : Nat.beq k0 k with
  | false => rw [hb] at hm; exact hL k args v hm H Q hQ
  | true =>
    rw [hb] at hm
    obtain rfl := Nat.eq_of_beq_eq_true hb
    cases hs : AV.sames a0 args with
    | false => rw [hs] at hm; exact hL k0 args v hm H Q hQ
    | true =>
      rw [hs] at hm
      simp only [cond_true, Option.some.injEq] at hm
      subst hm
      obtain rfl := AV.sames_sound _ _ hs
      exact run_anyW hGT hB h1 h2 h3 H Q hQ
theorem memL_appW {C : Ctx} (hGT : GTok C) {B : CallsB} (hB : SoundB (ACall C) B) {L : List (Nat × List AV × AV)} (hL : MemoOK (ACall C) (memL L)) : ∀ {N : List (Nat × List AV × AV)}, allW B N = true → MemoOK (ACall C) (memL (N ++ L))
  | [], _ => hL
  | e :: N, h => by
    simp only [allW, Bool.and_eq_true] at h
    exact memL_consW hGT hB h.1 (memL_appW hGT hB hL h.2)
end
end Rb

/- The powers of ten, as a table of the library. -/
namespace Rb
open Go
/-- The powers of ten. -/
def tenTab : List Int := [1, 10, 100, 1000, 10000, 100000, 1000000, 10000000, 100000000, 1000000000, 10000000000, 100000000000, 1000000000000, 10000000000000, 100000000000000, 1000000000000000, 10000000000000000, 100000000000000000, 1000000000000000000, 10000000000000000000]
def pow10tab : List AV := tenTab.map (AV.int .u64)
end Rb

/- The seat's functions: what a text of them needs that the program does not say. By hints.py. -/
set_option linter.unusedVariables false
namespace Go.Proofs.YtgejcelgofmbgaaDoor.rb
open Rb
noncomputable def gt (g : Nat) : Option (List AV) := if g = 2 then some pow10tab else if g = 7 then some deBruijn64tab else if g = 0 then some [.iface 90 (.fptr [])] else if g = 1 then some [.iface 90 (.fptr [])] else none
noncomputable def C : Ctx := idC Tryd.prog gt
noncomputable def hs0 : List Hint := [
  ⟨3,[7],[],none,[],[]⟩,
  ⟨4,[3],[],none,[],[]⟩,
  ⟨5,[],[[5,6],[12]],none,[],[]⟩,
  ⟨6,[],[],none,[],[]⟩,
  ⟨7,[],[],none,[],[]⟩,
  ⟨8,[1],[],none,[],[]⟩,
  ⟨9,[2,8],[[5]],none,[],[]⟩,
  ⟨11,[],[],none,[],[]⟩,
  ⟨12,[],[],none,[],[]⟩,
  ⟨13,[],[[3,4]],none,[],[]⟩,
  ⟨14,[],[],none,[],[]⟩,
  ⟨15,[],[],none,[],[]⟩,
  ⟨18,[],[],none,[],[]⟩,
  ⟨19,[31],[[0,10]],none,[],[(18,[9])]⟩,
  ⟨20,[],[[6,49]],none,[],[]⟩,
  ⟨21,[],[],none,[],[]⟩,
  ⟨25,[5],[],none,[],[]⟩,
  ⟨26,[21],[[0,7]],none,[],[]⟩,
  ⟨27,[],[[0,5]],none,[],[]⟩,
  ⟨28,[],[],none,[],[]⟩,
  ⟨29,[],[],none,[],[]⟩,
  ⟨32,[15],[],none,[],[]⟩,
  ⟨33,[15],[],none,[],[]⟩,
  ⟨34,[],[],none,[],[]⟩,
  ⟨36,[],[],none,[],[]⟩,
  ⟨37,[],[],none,[],[]⟩,
  ⟨38,[],[[1,4]],none,[],[]⟩,
  ⟨39,[12],[[1,13],[1,13]],none,[],[]⟩,
  ⟨40,[],[[2]],none,[],[]⟩,
  ⟨41,[],[],none,[],[]⟩,
  ⟨43,[],[[8,10]],none,[],[]⟩,
  ⟨44,[],[[12,13,101]],none,[],[]⟩,
  ⟨45,[9],[],none,[],[]⟩,
  ⟨46,[5],[],none,[],[]⟩,
  ⟨48,[],[],none,[],[]⟩,
  ⟨49,[],[],none,[],[]⟩,
  ⟨50,[],[],none,[],[]⟩,
  ⟨51,[],[],none,[],[]⟩,
  ⟨52,[],[],none,[],[]⟩,
  ⟨53,[9],[],none,[],[]⟩]
theorem ok0 : chkH C hs0 = true := by kernel_rfl
noncomputable def hs1 : List Hint := [
  ⟨55,[],[],none,[],[]⟩,
  ⟨56,[],[[8,9],[8,10]],none,[],[]⟩,
  ⟨57,[],[],none,[],[]⟩,
  ⟨58,[],[[3,4]],none,[],[]⟩,
  ⟨59,[],[],none,[],[]⟩,
  ⟨60,[],[],none,[],[]⟩,
  ⟨61,[],[[4,5],[6,7,8]],none,[],[]⟩]
theorem ok1 : chkH C hs1 = true := by kernel_rfl
noncomputable def hs : List Hint := hs0 ++ (hs1)
theorem okAll : chkH C hs = true := chkH_app ok0 (ok1)
end Go.Proofs.YtgejcelgofmbgaaDoor.rb

/- The seat's functions, run. By hints.py. -/
set_option linter.unusedVariables false
namespace Go.Proofs.YtgejcelgofmbgaaDoor.rb
open Rb
theorem gtok : ∀ g l, gt g = some l → AV.frozs l = true := by
  intro g l h
  unfold gt at h
  split at h
  · cases h; kernel_rfl
  split at h
  · cases h; kernel_rfl
  split at h
  · cases h; kernel_rfl
  split at h
  · cases h; kernel_rfl
  cases h
theorem gtC : GTok C := gtok
noncomputable def fn : Nat → Option FnC := tabH C 4096 hs
theorem dispOK : DispOK (ACall C) (dispI fn) := dispI_ok okAll 4096
end Go.Proofs.YtgejcelgofmbgaaDoor.rb

/- A function of the library that is not in the small language: it asks the machine where a byte stands. -/
set_option linter.unusedVariables false
namespace Go.Proofs.YtgejcelgofmbgaaDoor.rb
open Rb Go.RowKit

set_option maxRecDepth 100000 in
theorem indexByte_calls (s : ByteArray) (c : Int) (w : World) : Calls Tryd.prog 34 #[.string s, .int .u8 c] w fun e w' => e = .returned (.int .i64 (Go.Lib.indexByte s.data.toList c.toNat.toUInt8)) ∧ w' = w := by
  go_enter Tryd.func34, Tryd.ntmps34
  go_wp2
  rw [run_callFunc_extern Tryd.func47 (by kernel_rfl) (by kernel_rfl) (by kernel_rfl) (e := Extern.BytealgIndexByte.indexByte) (by kernel_rfl), Go.Lib.run_indexByteString]
  simp only [Result.andThen]
  rw [Oper.upon_value]
  go_wp2
  go_ret
  exact ⟨rfl, rfl⟩

theorem indexByte (s : List UInt8) (c : Int) (H : AH) (Q : Post) (hQ : Q (.int .i64 (Go.Lib.indexByte s c.toNat.toUInt8)) H) : ACall C 34 [.str s, .int .u8 c] H Q := by
  refine ⟨⟨_, _, hQ⟩, fun f hf G w Vs hG hrel hargs => ?_⟩
  obtain rfl : f = 34 := by
    have : C.F 34 = some 34 := by kernel_rfl
    rw [this] at hf; exact (Option.some.inj hf).symm
  obtain ⟨hl, hv⟩ := hargs
  obtain ⟨Vl⟩ := Vs
  match Vl, hl with
  | [V0, V1], _ =>
    have h0 := (hv 0 _ V0 rfl rfl).str_inv
    have h1 := (hv 1 _ V1 rfl rfl).int_inv
    subst h0 h1
    refine (indexByte_calls ⟨s.toArray⟩ c w).mono fun e w' ⟨he, hw⟩ => ?_
    subst hw
    exact ⟨_, _, H, G, he, hQ, .int _ _, hrel, Step.refl _ _ _⟩

noncomputable def MxG (L : List (Nat × List AV × AV)) : Memo := fun k a => cond (Nat.beq k 34) (match a with | [.str s, .int .u8 c] => some (.int .i64 (Go.Lib.indexByte s c.toNat.toUInt8)) | _ => none) (memG L k a)
theorem MxG_ok {L : List (Nat × List AV × AV)} (hL : MemoOK (ACall C) (memL L)) : MemoOK (ACall C) (MxG L) := by
  intro k a v h H Q hQ
  unfold MxG at h
  cases hb : Nat.beq k 34 with
  | false => rw [hb] at h; exact memG_ok hL k a v h H Q hQ
  | true =>
    rw [hb] at h
    obtain rfl := Nat.eq_of_beq_eq_true hb
    simp only [cond_true] at h
    split at h
    · cases h; exact indexByte _ _ H Q hQ
    · cases h
noncomputable def runG (L : List (Nat × List AV × AV)) : CallsB := runM (MxG L) (dispI fn) 100
theorem runG_ok {L : List (Nat × List AV × AV)} (hL : MemoOK (ACall C) (memL L)) : SoundB (ACall C) (runG L) := runM_sound (MxG_ok hL) dispOK 100
end Go.Proofs.YtgejcelgofmbgaaDoor.rb

/- From what a law's function does to the statement. -/
set_option linter.unusedVariables false
namespace Rb
open Go Go.RowKit

/-- All that is there may be read, and nothing is written: frozen. -/
def allFz (W : World) : Nat → Nat → Prop := fun b o => ∃ V, W.cell? ⟨b, o, none⟩ = some V

theorem law_calls {C : Ctx} {key : Nat} {f : FuncId} {args : List AV} {Vs : Array Value} {W : World} (hf : C.F key = some f) (h : ACall C key args AH.mt (fun v _ => v = .bool true)) (hG : GOX C W (Ghost.mt (allFz W)) AH.mt)
    (hargs : VRs C.F W (Ghost.mt (allFz W)) args Vs) : Calls C.P f Vs W fun e W' => e = .returned (.bool true) ∧ Below W.heap.size W W' := by
  refine Calls.mono (h.2 f hf _ W Vs hG (Rel.mt fun _ _ h => h) hargs) fun e w' he => ?_
  obtain ⟨V, v, H', G', rfl, rfl, hv, _, hst⟩ := he
  obtain rfl := hv.bool_inv
  exact ⟨rfl, hst.below⟩

/-- A variable that holds small numbers. -/
theorem fptr_of_tab {F : FTab} {W : World} {g : Nat} {k : IntKind} {zs : List Int} (h : ∀ i, i < zs.length → W.cell? ⟨g, i, none⟩ = some (.int k (zs.getD i 0))) : VR F W (Ghost.mt (allFz W)) (.fptr (zs.map (.int k))) (.pointer (some ⟨g, 0, none⟩)) := by
  refine .fptr _ g 0 (fun j => .int k (zs.getD j 0)) (fun j c hj => ?_) fun j c hj => ?_
  · have hl : j < zs.length := by simpa using (List.getElem?_eq_some_iff.1 hj).1
    rw [Nat.zero_add]
    exact ⟨⟨_, h j hl⟩, h j hl⟩
  · have hl : j < zs.length := by simpa using (List.getElem?_eq_some_iff.1 hj).1
    have : c = .int k (zs.getD j 0) := by
      rw [List.getElem?_map, List.getElem?_eq_getElem hl] at hj
      simp only [Option.map_some, Option.some.injEq] at hj
      rw [← hj, List.getD_eq_getElem?_getD, List.getElem?_eq_getElem hl]; rfl
    rw [this]
    exact .int _ _

theorem VRs.two {F : FTab} {w : World} {G : Ghost} {c d : AV} {V U : Value} (h : VR F w G c V) (h' : VR F w G d U) : VRs F w G [c, d] #[V, U] := ⟨rfl, fun j c' V' hc hV => by
  rcases j with _ | _ | j
  · simp at hc hV; subst hc; subst hV; exact h
  · simp at hc hV; subst hc; subst hV; exact h'
  · simp at hc⟩
theorem VRs.three {F : FTab} {w : World} {G : Ghost} {c d e : AV} {V U X : Value} (h : VR F w G c V) (h' : VR F w G d U) (h'' : VR F w G e X) : VRs F w G [c, d, e] #[V, U, X] := ⟨rfl, fun j c' V' hc hV => by
  rcases j with _ | _ | _ | j
  · simp at hc hV; subst hc; subst hV; exact h
  · simp at hc hV; subst hc; subst hV; exact h'
  · simp at hc hV; subst hc; subst hV; exact h''
  · simp at hc⟩

theorem VR_string {F : FTab} {w : World} {G : Ghost} (b : ByteArray) : VR F w G (.str b.data.toList) (.string b) := by
  have h : (⟨b.data.toList.toArray⟩ : ByteArray) = b := by cases b; simp
  have := VR.str (F := F) (w := w) (G := G) b.data.toList
  rwa [h] at this

theorem asciiSpace_eq : asciiSpace = (Go.Lib.asciiSpaceTab.map (AV.int .u8)) := by kernel_rfl
theorem size_of_var {P : Program} {W : World} {name : String} {g : Nat} {cs : Array Value} (hg : P.globalNamed name = some g) (h : W.var? P name = some cs) : ∃ cs' t fr, W.heap[g]? = some (.cells cs' t fr) ∧ cs'.size = cs.size := by
  unfold World.var? at h
  rw [hg] at h
  simp only [Option.bind_some] at h
  split at h
  · rename_i cs' t fr heq
    cases h
    exact ⟨_, _, _, heq, rfl⟩
  · cases h
end Rb

/- What comes in as data, as abstract values: typed readings. -/
set_option linter.unusedVariables false
set_option linter.unusedSimpArgs false
namespace Rb
open Go Go.RowKit

section
variable {H : Type} {enc : TypeId × Value → H} {P : Program} {w : World} {sp : Nat → Bool} {held : Bool} {F : FTab}

/-- A type's cells, read as data with so much fuel, are those of a typed value. -/
def Dec (F : FTab) (enc : TypeId × Value → H) (P : Program) (w : World) (sp : Nat → Bool) (held : Bool) (n : Nat) (t : TypeId) {α : Type} (cells : α → List AV) (ok : α → Prop) : Prop :=
  ∀ fuel, fuel ≤ n → ∀ cs d ps, DataW.trod enc P w 0 sp held fuel t cs = some (d, ps) → ∃ x, ok x ∧ VRs F w (Ghost.mt (allFz w)) (cells x) cs.toArray

theorem Dec.mono {n m : Nat} {t : TypeId} {α : Type} {cells : α → List AV} {ok : α → Prop} (h : Dec F enc P w sp held n t cells ok) (hm : m ≤ n) : Dec F enc P w sp held m t cells ok :=
  fun fuel hf cs d ps ht => h fuel (Nat.le_trans hf hm) cs d ps ht

theorem Dec.zero {t : TypeId} {α : Type} {cells : α → List AV} {ok : α → Prop} : Dec F enc P w sp held 0 t cells ok := by
  intro fuel hf cs d ps h
  obtain rfl : fuel = 0 := by omega
  simp [DataW.trod] at h

theorem Dec.int {n : Nat} {t : TypeId} {k : IntKind} (ht : P.underlying t = some (.int k)) : Dec F enc P w sp held n t (fun z : Int => [.int k z]) (fun z => k.min ≤ z ∧ z ≤ k.max) := by
  intro fuel _ cs d ps h
  obtain ⟨z, rfl, _, hw⟩ := DataW.trod_int ht h
  exact ⟨z, by simpa [Lit.wf] using hw, VRs.one (.int _ _)⟩

theorem Dec.bool {n : Nat} {t : TypeId} (ht : P.underlying t = some .bool) : Dec F enc P w sp held n t (fun z : Bool => [.bool z]) (fun _ => True) := by
  intro fuel _ cs d ps h
  obtain ⟨z, rfl, _⟩ := DataW.trod_bool ht h
  exact ⟨z, trivial, VRs.one (.bool _)⟩

theorem Dec.string {n : Nat} {t : TypeId} (ht : P.underlying t = some .string) : Dec F enc P w sp held n t (fun z : List UInt8 => [.str z]) (fun z => z.length ≤ maxLen) := by
  intro fuel _ cs d ps h
  obtain ⟨s, rfl, _, hl⟩ := DataW.trod_string ht h
  exact ⟨s.data.toList, by simpa using hl, VRs.one (VR_string s)⟩

/-- A slice of such. -/
def lstA {α : Type} (cells : α → List AV) (xs : List α) : AV := .lst .dead xs.length (xs.flatMap cells)

theorem exists_list {α : Type} {p : Nat → α → Prop} : ∀ (n : Nat), (∀ i, i < n → ∃ x, p i x) → ∃ xs : List α, xs.length = n ∧ ∀ i x, xs[i]? = some x → p i x := by
  intro n
  induction n with
  | zero => intro _; exact ⟨[], rfl, fun i x h => by simp at h⟩
  | succ n ih =>
    intro h
    obtain ⟨xs, hl, hx⟩ := ih fun i hi => h i (by omega)
    obtain ⟨y, hy⟩ := h n (by omega)
    refine ⟨xs ++ [y], by simp [hl], fun i x hi => ?_⟩
    by_cases hlt : i < n
    · rw [List.getElem?_append_left (by omega)] at hi
      exact hx i x hi
    · rw [List.getElem?_append_right (by omega)] at hi
      have : i - xs.length = 0 := by
        rcases Nat.eq_zero_or_pos (i - xs.length) with h | h
        · exact h
        · rw [List.getElem?_eq_none (by simp; omega)] at hi; cases hi
      rw [this] at hi
      simp at hi
      subst hi
      have : i = n := by omega
      rw [this]; exact hy

theorem flat_get {α : Type} {cells : α → List AV} {sz : Nat} (hc : ∀ x, (cells x).length = sz) : ∀ (xs : List α) (j : Nat) (c : AV), (xs.flatMap cells)[j]? = some c → ∃ i k x, j = i * sz + k ∧ k < sz ∧ xs[i]? = some x ∧ (cells x)[k]? = some c := by
  intro xs
  induction xs with
  | nil => intro j c h; simp at h
  | cons y ys ih =>
    intro j c h
    rw [List.flatMap_cons] at h
    by_cases hj : j < sz
    · rw [List.getElem?_append_left (by rw [hc]; exact hj)] at h
      exact ⟨0, j, y, by omega, hj, rfl, h⟩
    · rw [List.getElem?_append_right (by rw [hc]; omega), hc] at h
      obtain ⟨i, k, x, h1, h2, h3, h4⟩ := ih _ _ h
      refine ⟨i + 1, k, x, ?_, h2, by simpa using h3, h4⟩
      rw [Nat.add_mul]; omega

theorem add_at {b o m : Nat} : (Addr.mk b o none).add m = ⟨b, o + m, none⟩ := by
  unfold Addr.add
  split
  · rename_i h; subst h; rfl
  · rfl

theorem Dec.slice {n : Nat} {t e : TypeId} {α : Type} {cells : α → List AV} {ok : α → Prop} (ht : P.underlying t = some (.slice e)) {sz : Nat} (hs : P.cellsOf e = sz) (hz : 0 < sz) (hc : ∀ x, (cells x).length = sz) (h : Dec F enc P w sp held n e cells ok) :
    Dec F enc P w sp held (n + 1) t (fun xs : List α => [lstA cells xs]) (fun xs => xs.length ≤ maxLen ∧ ∀ x ∈ xs, ok x) := by
  intro fuel hf cs d ps hd
  rcases DataW.trod_slice ht hd with ⟨rfl, _⟩ | ⟨a, len, cap, elems, rest, m, rfl, rfl, _, _, hle, hcap, hel, helems, _⟩
  · exact ⟨[], ⟨Nat.zero_le _, by simp⟩, VRs.one (.lst0 _ _)⟩
  · have each : ∀ i, i < len → ∃ x, ok x ∧ ∃ ci, w.cells? 0 (a.add (i * sz)) sz = some ci ∧ VRs F w (Ghost.mt (allFz w)) (cells x) ci.toArray := by
      intro i hi
      have h1 := helems i hi
      rw [List.getElem?_eq_getElem (by omega), hs] at h1
      obtain ⟨ci, h2, h3⟩ := Option.bind_eq_some_iff.1 h1
      obtain ⟨x, hx, hv⟩ := h m (by omega) ci _ _ h3
      exact ⟨x, hx, ci, h2, hv⟩
    obtain ⟨xs, hl, hx⟩ := exists_list len each
    refine ⟨xs, ⟨by omega, fun x hxm => ?_⟩, VRs.one ?_⟩
    · obtain ⟨i, hi, e⟩ := List.mem_iff_getElem.1 hxm
      exact (hx i x (by rw [List.getElem?_eq_getElem hi, e])).1
    · rcases Nat.eq_zero_or_pos len with h0 | h0
      · subst h0
        obtain rfl := List.length_eq_zero_iff.1 hl
        exact .lst0 _ _
      · -- the address is plain
        have hsp : a.spot = none := by
          obtain ⟨x, _, ci, h2, _⟩ := each 0 h0
          obtain ⟨_, h3, h4⟩ := World.cells?_some h2
          have h5 := h4 0 hz
          rw [List.getElem?_eq_getElem (by omega)] at h5
          rw [Nat.zero_mul] at h5
          have e0 : (a.add 0).add 0 = a := by simp [Addr.add]
          rw [e0] at h5
          unfold World.cell? at h5
          split at h5
          · split at h5
            · cases h5
            · rename_i hn; cases ha : a.spot with
              | none => rfl
              | some _ => rw [ha] at hn; simp at hn
          · cases h5
        obtain ⟨b, o, spt⟩ := a
        simp only at hsp
        subst hsp
        have key : ∀ (j : Nat) (c : AV), (xs.flatMap cells)[j]? = some c → ∃ V, w.cell? ⟨b, o + j, none⟩ = some V ∧ VR F w (Ghost.mt (allFz w)) c V := by
          intro j c hj
          obtain ⟨i, k, x, rfl, hk, hxi, hck⟩ := flat_get hc xs j c hj
          obtain ⟨_, ci, h2, hv⟩ := hx i x hxi
          obtain ⟨_, h3, h4⟩ := World.cells?_some h2
          have h5 := h4 k hk
          rw [add_at, add_at, List.getElem?_eq_getElem (by omega)] at h5
          refine ⟨ci[k], by rw [← Nat.add_assoc]; exact h5, hv.2 k c _ hck (by simp [List.getElem?_eq_getElem (show k < ci.length by omega)])⟩
        unfold lstA
        rw [hl]
        refine .lst .dead len _ b o cap (fun j => (w.cell? ⟨b, o + j, none⟩).getD undef) trivial hle (fun j c hj => ?_) fun j c hj => ?_
        · obtain ⟨V, h1, _⟩ := key j c hj
          exact ⟨⟨V, h1⟩, by rw [h1]; rfl⟩
        · obtain ⟨V, h1, h2⟩ := key j c hj
          rw [h1]; exact h2

/-! Structs: their fields, one behind the other -/
def chainB (P : Program) : Nat → List (TypeId × Nat) → Bool
  | _, [] => true
  | off, (t, o) :: r => o == off && chainB P (off + P.cellsOf t) r
def totC (P : Program) : List (TypeId × Nat) → Nat
  | [] => 0
  | (t, _) :: r => P.cellsOf t + totC P r

def DecL (F : FTab) (enc : TypeId × Value → H) (P : Program) (w : World) (sp : Nat → Bool) (held : Bool) (n : Nat) (L : List (TypeId × Nat)) {α : Type} (cells : α → List AV) (ok : α → Prop) : Prop :=
  ∀ m, m ≤ n → ∀ (off : Nat) (cs : List Value), chainB P off L = true → (∀ f ∈ L, ∃ y, DataW.trod enc P w 0 sp held m f.1 ((cs.drop f.2).take (P.cellsOf f.1)) = some y) →
    ∃ x, ok x ∧ VRs F w (Ghost.mt (allFz w)) (cells x) ((cs.drop off).take (totC P L)).toArray

theorem DecL.nil {n : Nat} : DecL F enc P w sp held n [] (fun _ : Unit => []) (fun _ => True) := by
  intro m _ off cs _ _
  exact ⟨(), trivial, by simp only [totC, List.take_zero]; exact VRs.nil⟩

theorem DecL.cons {n : Nat} {t : TypeId} {o : Nat} {L : List (TypeId × Nat)} {α β : Type} {c1 : α → List AV} {c2 : β → List AV} {o1 : α → Prop} {o2 : β → Prop} (h1 : Dec F enc P w sp held n t c1 o1) (h2 : DecL F enc P w sp held n L c2 o2) :
    DecL F enc P w sp held n ((t, o) :: L) (fun x : α × β => c1 x.1 ++ c2 x.2) (fun x => o1 x.1 ∧ o2 x.2) := by
  intro m hm off cs hch hf
  simp only [chainB, Bool.and_eq_true, beq_iff_eq] at hch
  obtain ⟨rfl, hch⟩ := hch
  obtain ⟨⟨d, ps⟩, hy⟩ := hf (t, o) (by simp)
  obtain ⟨x, hx, hv⟩ := h1 m hm _ _ _ hy
  obtain ⟨y, hy2, hv2⟩ := h2 m hm _ cs hch fun f hfm => hf f (by simp [hfm])
  refine ⟨(x, y), ⟨hx, hy2⟩, ?_⟩
  have e : ((cs.drop o).take (totC P ((t, o) :: L))) = (cs.drop o).take (P.cellsOf t) ++ (cs.drop (o + P.cellsOf t)).take (totC P L) := by
    simp only [totC]
    rw [List.take_add, List.drop_drop]
  rw [e]
  have := hv.app hv2
  simpa using this

theorem Dec.struct {n : Nat} {t : TypeId} {fs : Array Field} (ht : P.underlying t = some (.struct fs)) {L : List (TypeId × Nat)} (hL : fs.toList.map (fun f => (f.type, f.offset)) = L) (hch : chainB P 0 L = true) (htot : P.cellsOf t = totC P L)
    {α : Type} {cells : α → List AV} {ok : α → Prop} (h : DecL F enc P w sp held n L cells ok) : Dec F enc P w sp held (n + 1) t cells ok := by
  intro fuel hf cs d ps hd
  obtain ⟨xs, m, rfl, _, hlen, hxl, hfs⟩ := DataW.trod_struct ht hd
  obtain ⟨x, hx, hv⟩ := h m (by omega) 0 cs hch fun f hfm => by
    rw [← hL] at hfm
    obtain ⟨g, hg, rfl⟩ := List.mem_map.1 hfm
    obtain ⟨i, hi, e⟩ := List.mem_iff_getElem.1 hg
    have hi' : i < fs.size := by simpa using hi
    have h1 := hfs i g (by rw [Array.getElem?_eq_getElem hi']; congr 1)
    rw [List.getElem?_eq_getElem (by omega)] at h1
    exact ⟨_, h1⟩
  refine ⟨x, hx, ?_⟩
  rw [List.drop_zero, ← htot, ← hlen, List.take_length] at hv
  exact hv

/-- The same values, told otherwise. -/
theorem Dec.map {n : Nat} {t : TypeId} {α β : Type} {c1 : α → List AV} {c2 : β → List AV} {o1 : α → Prop} {o2 : β → Prop} (g : α → β) (hc : ∀ x, c2 (g x) = c1 x) (ho : ∀ x, o1 x → o2 (g x)) (h : Dec F enc P w sp held n t c1 o1) : Dec F enc P w sp held n t c2 o2 := by
  intro fuel hf cs d ps hd
  obtain ⟨x, hx, hv⟩ := h fuel hf cs d ps hd
  exact ⟨g x, ho x hx, by rw [hc]; exact hv⟩

/-- An argument of a law. -/
theorem Dec.arg {t : TypeId} {α : Type} {cells : α → List AV} {ok : α → Prop} (h : ∀ n, Dec F enc P w sp held n t cells ok) {v : Value} {d : DataW H} {ps : List MemPlace} (hd : DataW.Trod enc P w 0 sp held t v d ps) : ∃ x, ok x ∧ VRs F w (Ghost.mt (allFz w)) (cells x) v.cells := by
  obtain ⟨fuel, hf⟩ := hd
  obtain ⟨x, hx, hv⟩ := h fuel fuel (Nat.le_refl _) _ _ _ hf
  exact ⟨x, hx, by simpa using hv⟩
end
end Rb

/- The types of the api, as Lean's: types and their fields. -/
set_option linter.unusedVariables false
set_option linter.unusedSimpArgs false
namespace Rb
open Go
mutual
structure GType where
  kind : Int
  size : Int
  packed : Bool
  fields : List GField
  count : Int
  elem : List GType
structure GField where
  name : List UInt8
  type : GType
  bits : Bool
  width : Int
end
mutual
def GType.cells : GType → List AV
  | .mk kind size packed fields count elem => [.int .i64 kind, .int .i64 size, .bool packed, .lst .dead fields.length (GField.all fields), .int .i64 count, .lst .dead elem.length (GType.all elem)]
def GType.all : List GType → List AV
  | [] => []
  | x :: r => GType.cells x ++ GType.all r
def GField.cells : GField → List AV
  | .mk name type bits width => .str name :: (GType.cells type ++ [.bool bits, .int .i64 width])
def GField.all : List GField → List AV
  | [] => []
  | x :: r => GField.cells x ++ GField.all r
end
theorem GType.all_eq : ∀ xs : List GType, GType.all xs = xs.flatMap GType.cells
  | [] => rfl
  | x :: r => by rw [GType.all, GType.all_eq r, List.flatMap_cons]
theorem GField.all_eq : ∀ xs : List GField, GField.all xs = xs.flatMap GField.cells
  | [] => rfl
  | x :: r => by rw [GField.all, GField.all_eq r, List.flatMap_cons]
theorem GType.cells_eq (x : GType) : x.cells = [.int .i64 x.kind, .int .i64 x.size, .bool x.packed, lstA GField.cells x.fields, .int .i64 x.count, lstA GType.cells x.elem] := by
  cases x; simp only [GType.cells, GType.all_eq, GField.all_eq, lstA]
theorem GField.cells_eq (x : GField) : x.cells = .str x.name :: (x.type.cells ++ [.bool x.bits, .int .i64 x.width]) := by
  cases x; rfl
theorem GType.len (x : GType) : x.cells.length = 6 := by rw [GType.cells_eq]; rfl
theorem GField.len (x : GField) : x.cells.length = 9 := by rw [GField.cells_eq]; simp [GType.len]

def i64ok (z : Int) : Prop := -9223372036854775808 ≤ z ∧ z ≤ 9223372036854775807
mutual
/-- Numbers are such as the machine holds, lists not too long. -/
def GType.ok : GType → Prop
  | .mk kind size packed fields count elem => i64ok kind ∧ i64ok size ∧ fields.length ≤ maxLen ∧ GField.oks fields ∧ i64ok count ∧ elem.length ≤ maxLen ∧ GType.oks elem
def GType.oks : List GType → Prop
  | [] => True
  | x :: r => GType.ok x ∧ GType.oks r
def GField.ok : GField → Prop
  | .mk name type bits width => name.length ≤ maxLen ∧ GType.ok type ∧ i64ok width
def GField.oks : List GField → Prop
  | [] => True
  | x :: r => GField.ok x ∧ GField.oks r
end
theorem GType.oks_iff : ∀ {xs : List GType}, GType.oks xs ↔ ∀ x ∈ xs, x.ok
  | [] => by simp [GType.oks]
  | x :: r => by simp [GType.oks, GType.oks_iff (xs := r)]
theorem GField.oks_iff : ∀ {xs : List GField}, GField.oks xs ↔ ∀ x ∈ xs, x.ok
  | [] => by simp [GField.oks]
  | x :: r => by simp [GField.oks, GField.oks_iff (xs := r)]

section
variable {H : Type} {enc : TypeId × Value → H} {P : Program} {w : World} {sp : Nat → Bool} {held : Bool} {F : FTab}

/-- What a program must say of its types. -/
structure TyOK (P : Program) (ti tb ts tT tF sT sF : TypeId) (fT fF : Array Field) : Prop where
  int : P.underlying ti = some (.int .i64)
  bool : P.underlying tb = some .bool
  str : P.underlying ts = some .string
  typ : P.underlying tT = some (.struct fT)
  fld : P.underlying tF = some (.struct fF)
  slT : P.underlying sT = some (.slice tT)
  slF : P.underlying sF = some (.slice tF)
  lT : fT.toList.map (fun f => (f.type, f.offset)) = [(ti, 0), (ti, 1), (tb, 2), (sF, 3), (ti, 4), (sT, 5)]
  lF : fF.toList.map (fun f => (f.type, f.offset)) = [(ts, 0), (tT, 1), (tb, 7), (ti, 8)]
  cT : P.cellsOf tT = 6
  cF : P.cellsOf tF = 9
  c1 : ∀ t ∈ [ti, tb, ts, sT, sF], P.cellsOf t = 1

theorem Dec_type {ti tb ts tT tF sT sF : TypeId} {fT fF : Array Field} (h : TyOK P ti tb ts tT tF sT sF fT fF) : ∀ n, Dec F enc P w sp held n tT GType.cells GType.ok := by
  have c1 : P.cellsOf ti = 1 := h.c1 _ (by simp)
  have c2 : P.cellsOf tb = 1 := h.c1 _ (by simp)
  have c3 : P.cellsOf ts = 1 := h.c1 _ (by simp)
  have c4 : P.cellsOf sT = 1 := h.c1 _ (by simp)
  have c5 : P.cellsOf sF = 1 := h.c1 _ (by simp)
  have int : ∀ n, Dec F enc P w sp held n ti (fun z : Int => [.int .i64 z]) i64ok := fun n => Dec.map id (fun _ => rfl) (fun x hx => by
    simp only [IntKind.min, IntKind.max, IntKind.signed, IntKind.bits, if_true] at hx
    show -9223372036854775808 ≤ x ∧ x ≤ 9223372036854775807
    omega) (Dec.int h.int)
  intro n
  induction n using Nat.strongRecOn with
  | _ n ih =>
    cases n with
    | zero => exact Dec.zero
    | succ n =>
      have ihT : Dec F enc P w sp held n tT GType.cells GType.ok := ih n (by omega)
      have ihF : Dec F enc P w sp held n tF GField.cells GField.ok := by
        cases n with
        | zero => exact Dec.zero
        | succ n =>
          refine Dec.map (fun (x : List UInt8 × GType × Bool × Int × Unit) => (⟨x.1, x.2.1, x.2.2.1, x.2.2.2.1⟩ : GField)) (fun x => ?_) (fun x hx => ?_)
            (Dec.struct h.fld h.lF (by simp [chainB, c1, c2, c3, h.cT]) (by simp [totC, c1, c2, c3, h.cT, h.cF])
              (DecL.cons (Dec.string h.str) (DecL.cons (ih n (by omega)) (DecL.cons (Dec.bool h.bool) (DecL.cons (int n) DecL.nil)))))
          · simp [GField.cells]
          · exact ⟨hx.1, hx.2.1, hx.2.2.2.1⟩
      refine Dec.map (fun (x : Int × Int × Bool × List GField × Int × List GType × Unit) => (⟨x.1, x.2.1, x.2.2.1, x.2.2.2.1, x.2.2.2.2.1, x.2.2.2.2.2.1⟩ : GType)) (fun x => ?_) (fun x hx => ?_)
        (Dec.struct h.typ h.lT (by simp [chainB, c1, c2, c4, c5]) (by simp [totC, c1, c2, c4, c5, h.cT])
          (DecL.cons (int n) (DecL.cons (int n) (DecL.cons (Dec.bool h.bool) (DecL.cons (Dec.mono (Dec.slice h.slF h.cF (by decide) GField.len ihF) (Nat.le_succ n)) (DecL.cons (int n) (DecL.cons (Dec.mono (Dec.slice h.slT h.cT (by decide) GType.len ihT) (Nat.le_succ n)) DecL.nil)))))))
      · rw [GType.cells_eq]; rfl
      · obtain ⟨h1, h2, _, ⟨h3, h4⟩, h5, ⟨h6, h7⟩, _⟩ := hx
        exact ⟨h1, h2, h3, GField.oks_iff.2 h4, h5, h6, GType.oks_iff.2 h7⟩
end
end Rb

/- The types of the api, as Lean's: expressions, places, variables. -/
set_option linter.unusedVariables false
set_option linter.unusedSimpArgs false
namespace Rb
open Go
mutual
structure GExpr where
  kind : Int
  n : Int
  name : List UInt8
  op : Int
  order : Int
  place : GPlace
  kids : List GExpr
structure GPlace where
  var : List UInt8
  parts : List GPart
structure GPart where
  field : List UInt8
  index : List GExpr
end
mutual
def GExpr.cells : GExpr → List AV
  | .mk kind n name op order place kids => .int .i64 kind :: .int .u64 n :: .str name :: .int .i64 op :: .int .i64 order :: (GPlace.cells place ++ [.lst .dead kids.length (GExpr.all kids)])
def GExpr.all : List GExpr → List AV
  | [] => []
  | x :: r => GExpr.cells x ++ GExpr.all r
def GPlace.cells : GPlace → List AV
  | .mk var parts => [.str var, .lst .dead parts.length (GPart.all parts)]
def GPart.cells : GPart → List AV
  | .mk field index => [.str field, .lst .dead index.length (GExpr.all index)]
def GPart.all : List GPart → List AV
  | [] => []
  | x :: r => GPart.cells x ++ GPart.all r
end
theorem GExpr.all_eq : ∀ xs : List GExpr, GExpr.all xs = xs.flatMap GExpr.cells
  | [] => rfl
  | x :: r => by rw [GExpr.all, GExpr.all_eq r, List.flatMap_cons]
theorem GPart.all_eq : ∀ xs : List GPart, GPart.all xs = xs.flatMap GPart.cells
  | [] => rfl
  | x :: r => by rw [GPart.all, GPart.all_eq r, List.flatMap_cons]
theorem GPlace.cells_eq (x : GPlace) : x.cells = [.str x.var, lstA GPart.cells x.parts] := by
  cases x; simp only [GPlace.cells, GPart.all_eq, lstA]
theorem GPart.cells_eq (x : GPart) : x.cells = [.str x.field, lstA GExpr.cells x.index] := by
  cases x; simp only [GPart.cells, GExpr.all_eq, lstA]
theorem GExpr.cells_eq (x : GExpr) : x.cells = .int .i64 x.kind :: .int .u64 x.n :: .str x.name :: .int .i64 x.op :: .int .i64 x.order :: (x.place.cells ++ [lstA GExpr.cells x.kids]) := by
  cases x; simp only [GExpr.cells, GExpr.all_eq, lstA]
theorem GPlace.len (x : GPlace) : x.cells.length = 2 := by rw [GPlace.cells_eq]; rfl
theorem GPart.len (x : GPart) : x.cells.length = 2 := by rw [GPart.cells_eq]; rfl
theorem GExpr.len (x : GExpr) : x.cells.length = 8 := by rw [GExpr.cells_eq]; simp [GPlace.len]

def u64ok (z : Int) : Prop := 0 ≤ z ∧ z ≤ 18446744073709551615
mutual
def GExpr.ok : GExpr → Prop
  | .mk kind n name op order place kids => i64ok kind ∧ u64ok n ∧ name.length ≤ maxLen ∧ i64ok op ∧ i64ok order ∧ GPlace.ok place ∧ kids.length ≤ maxLen ∧ GExpr.oks kids
def GExpr.oks : List GExpr → Prop
  | [] => True
  | x :: r => GExpr.ok x ∧ GExpr.oks r
def GPlace.ok : GPlace → Prop
  | .mk var parts => var.length ≤ maxLen ∧ parts.length ≤ maxLen ∧ GPart.oks parts
def GPart.ok : GPart → Prop
  | .mk field index => field.length ≤ maxLen ∧ index.length ≤ maxLen ∧ GExpr.oks index
def GPart.oks : List GPart → Prop
  | [] => True
  | x :: r => GPart.ok x ∧ GPart.oks r
end
theorem GExpr.oks_iff : ∀ {xs : List GExpr}, GExpr.oks xs ↔ ∀ x ∈ xs, x.ok
  | [] => by simp [GExpr.oks]
  | x :: r => by simp [GExpr.oks, GExpr.oks_iff (xs := r)]
theorem GPart.oks_iff : ∀ {xs : List GPart}, GPart.oks xs ↔ ∀ x ∈ xs, x.ok
  | [] => by simp [GPart.oks]
  | x :: r => by simp [GPart.oks, GPart.oks_iff (xs := r)]

structure GVar where
  name : List UInt8
  type : GType
def GVar.cells (x : GVar) : List AV := .str x.name :: x.type.cells
theorem GVar.len (x : GVar) : x.cells.length = 7 := by simp [GVar.cells, GType.len]
def GVar.ok (x : GVar) : Prop := x.name.length ≤ maxLen ∧ x.type.ok

section
variable {H : Type} {enc : TypeId × Value → H} {P : Program} {w : World} {sp : Nat → Bool} {held : Bool} {F : FTab}

theorem Dec.i64 {n : Nat} {ti : TypeId} (h : P.underlying ti = some (.int .i64)) : Dec F enc P w sp held n ti (fun z : Int => [.int .i64 z]) i64ok := Dec.map id (fun _ => rfl) (fun x hx => by
    simp only [IntKind.min, IntKind.max, IntKind.signed, IntKind.bits, if_true] at hx
    show -9223372036854775808 ≤ x ∧ x ≤ 9223372036854775807
    omega) (Dec.int h)
theorem Dec.u64 {n : Nat} {ti : TypeId} (h : P.underlying ti = some (.int .u64)) : Dec F enc P w sp held n ti (fun z : Int => [.int .u64 z]) u64ok := Dec.map id (fun _ => rfl) (fun x hx => by
    simp [IntKind.min, IntKind.max, IntKind.signed, IntKind.bits] at hx
    show 0 ≤ x ∧ x ≤ 18446744073709551615
    omega) (Dec.int h)

structure ExOK (P : Program) (ti tu ts tE tL tR sE sR : TypeId) (fE fL fR : Array Field) : Prop where
  int : P.underlying ti = some (.int .i64)
  u64 : P.underlying tu = some (.int .u64)
  str : P.underlying ts = some .string
  exp : P.underlying tE = some (.struct fE)
  pla : P.underlying tL = some (.struct fL)
  par : P.underlying tR = some (.struct fR)
  slE : P.underlying sE = some (.slice tE)
  slR : P.underlying sR = some (.slice tR)
  lE : fE.toList.map (fun f => (f.type, f.offset)) = [(ti, 0), (tu, 1), (ts, 2), (ti, 3), (ti, 4), (tL, 5), (sE, 7)]
  lL : fL.toList.map (fun f => (f.type, f.offset)) = [(ts, 0), (sR, 1)]
  lR : fR.toList.map (fun f => (f.type, f.offset)) = [(ts, 0), (sE, 1)]
  cE : P.cellsOf tE = 8
  cL : P.cellsOf tL = 2
  cR : P.cellsOf tR = 2
  c1 : ∀ t ∈ [ti, tu, ts, sE, sR], P.cellsOf t = 1

theorem Dec_exprs {ti tu ts tE tL tR sE sR : TypeId} {fE fL fR : Array Field} (h : ExOK P ti tu ts tE tL tR sE sR fE fL fR) :
    ∀ n, Dec F enc P w sp held n tE GExpr.cells GExpr.ok ∧ Dec F enc P w sp held n tL GPlace.cells GPlace.ok ∧ Dec F enc P w sp held n tR GPart.cells GPart.ok := by
  have c1 : P.cellsOf ti = 1 := h.c1 _ (by simp)
  have c2 : P.cellsOf tu = 1 := h.c1 _ (by simp)
  have c3 : P.cellsOf ts = 1 := h.c1 _ (by simp)
  have c4 : P.cellsOf sE = 1 := h.c1 _ (by simp)
  have c5 : P.cellsOf sR = 1 := h.c1 _ (by simp)
  intro n
  induction n with
  | zero => exact ⟨Dec.zero, Dec.zero, Dec.zero⟩
  | succ n ih =>
    obtain ⟨iE, iL, iR⟩ := ih
    have kE := Dec.mono (Dec.slice h.slE h.cE (by decide) GExpr.len iE) (Nat.le_succ n)
    have kR := Dec.mono (Dec.slice h.slR h.cR (by decide) GPart.len iR) (Nat.le_succ n)
    refine ⟨?_, ?_, ?_⟩
    · refine Dec.map (fun (x : Int × Int × List UInt8 × Int × Int × GPlace × List GExpr × Unit) => (⟨x.1, x.2.1, x.2.2.1, x.2.2.2.1, x.2.2.2.2.1, x.2.2.2.2.2.1, x.2.2.2.2.2.2.1⟩ : GExpr)) (fun x => ?_) (fun x hx => ?_)
        (Dec.struct h.exp h.lE (by simp [chainB, c1, c2, c3, c4, h.cL]) (by simp [totC, c1, c2, c3, c4, h.cL, h.cE])
          (DecL.cons (Dec.i64 h.int) (DecL.cons (Dec.u64 h.u64) (DecL.cons (Dec.string h.str) (DecL.cons (Dec.i64 h.int) (DecL.cons (Dec.i64 h.int) (DecL.cons iL (DecL.cons kE DecL.nil))))))))
      · rw [GExpr.cells_eq]; simp
      · obtain ⟨h1, h2, h3, h4, h5, h6, ⟨h7, h8⟩, _⟩ := hx
        exact ⟨h1, h2, h3, h4, h5, h6, h7, GExpr.oks_iff.2 h8⟩
    · refine Dec.map (fun (x : List UInt8 × List GPart × Unit) => (⟨x.1, x.2.1⟩ : GPlace)) (fun x => ?_) (fun x hx => ?_)
        (Dec.struct h.pla h.lL (by simp [chainB, c3, c5]) (by simp [totC, c3, c5, h.cL]) (DecL.cons (Dec.string h.str) (DecL.cons kR DecL.nil)))
      · rw [GPlace.cells_eq]; rfl
      · obtain ⟨h1, ⟨h2, h3⟩, _⟩ := hx
        exact ⟨h1, h2, GPart.oks_iff.2 h3⟩
    · refine Dec.map (fun (x : List UInt8 × List GExpr × Unit) => (⟨x.1, x.2.1⟩ : GPart)) (fun x => ?_) (fun x hx => ?_)
        (Dec.struct h.par h.lR (by simp [chainB, c3, c4]) (by simp [totC, c3, c4, h.cR]) (DecL.cons (Dec.string h.str) (DecL.cons kE DecL.nil)))
      · rw [GPart.cells_eq]; rfl
      · obtain ⟨h1, ⟨h2, h3⟩, _⟩ := hx
        exact ⟨h1, h2, GExpr.oks_iff.2 h3⟩
end
end Rb

/- The types of the api, as Lean's: statements, programs. -/
set_option linter.unusedVariables false
set_option linter.unusedSimpArgs false
namespace Rb
open Go
structure GStmt where
  kind : Int
  line : Int
  name : List UInt8
  name2 : List UInt8
  order : Int
  place : GPlace
  exprs : List GExpr
  thn : List GStmt
  els : List GStmt
mutual
def GStmt.cells : GStmt → List AV
  | .mk kind line name name2 order place exprs thn els => .int .i64 kind :: .int .i64 line :: .str name :: .str name2 :: .int .i64 order :: (GPlace.cells place ++ [lstA GExpr.cells exprs, .lst .dead thn.length (GStmt.all thn), .lst .dead els.length (GStmt.all els)])
def GStmt.all : List GStmt → List AV
  | [] => []
  | x :: r => GStmt.cells x ++ GStmt.all r
end
theorem GStmt.all_eq : ∀ xs : List GStmt, GStmt.all xs = xs.flatMap GStmt.cells
  | [] => rfl
  | x :: r => by rw [GStmt.all, GStmt.all_eq r, List.flatMap_cons]
theorem GStmt.cells_eq (x : GStmt) : x.cells = .int .i64 x.kind :: .int .i64 x.line :: .str x.name :: .str x.name2 :: .int .i64 x.order :: (x.place.cells ++ [lstA GExpr.cells x.exprs, lstA GStmt.cells x.thn, lstA GStmt.cells x.els]) := by
  cases x; simp only [GStmt.cells, GStmt.all_eq, lstA]
theorem GStmt.len (x : GStmt) : x.cells.length = 10 := by rw [GStmt.cells_eq]; simp [GPlace.len]
mutual
def GStmt.ok : GStmt → Prop
  | .mk kind line name name2 order place exprs thn els => i64ok kind ∧ i64ok line ∧ name.length ≤ maxLen ∧ name2.length ≤ maxLen ∧ i64ok order ∧ GPlace.ok place ∧ exprs.length ≤ maxLen ∧ GExpr.oks exprs ∧ thn.length ≤ maxLen ∧ GStmt.oks thn ∧ els.length ≤ maxLen ∧ GStmt.oks els
def GStmt.oks : List GStmt → Prop
  | [] => True
  | x :: r => GStmt.ok x ∧ GStmt.oks r
end
theorem GStmt.oks_iff : ∀ {xs : List GStmt}, GStmt.oks xs ↔ ∀ x ∈ xs, x.ok
  | [] => by simp [GStmt.oks]
  | x :: r => by simp [GStmt.oks, GStmt.oks_iff (xs := r)]

structure GProg where
  vars : List GVar
  threads : List (List GStmt)
def thrCells (l : List GStmt) : List AV := [lstA GStmt.cells l]
def GProg.cells (x : GProg) : List AV := [lstA GVar.cells x.vars, lstA thrCells x.threads]
def GProg.ok (x : GProg) : Prop := (x.vars.length ≤ maxLen ∧ ∀ v ∈ x.vars, v.ok) ∧ x.threads.length ≤ maxLen ∧ ∀ t ∈ x.threads, t.length ≤ maxLen ∧ ∀ s ∈ t, s.ok

section
variable {H : Type} {enc : TypeId × Value → H} {P : Program} {w : World} {sp : Nat → Bool} {held : Bool} {F : FTab}

theorem Dec_var {ts tT tV : TypeId} {fV : Array Field} (hs : P.underlying ts = some .string) (c3 : P.cellsOf ts = 1) (cT : P.cellsOf tT = 6) (hT : ∀ n, Dec F enc P w sp held n tT GType.cells GType.ok)
    (hV : P.underlying tV = some (.struct fV)) (lV : fV.toList.map (fun f => (f.type, f.offset)) = [(ts, 0), (tT, 1)]) (cV : P.cellsOf tV = 7) : ∀ n, Dec F enc P w sp held n tV GVar.cells GVar.ok := by
  intro n
  refine Dec.mono (n := n + 1) ?_ (Nat.le_succ n)
  refine Dec.map (fun (x : List UInt8 × GType × Unit) => (⟨x.1, x.2.1⟩ : GVar)) (fun x => ?_) (fun x hx => ?_)
    (Dec.struct hV lV (by simp [chainB, c3]) (by simp [totC, c3, cT, cV]) (DecL.cons (Dec.string hs) (DecL.cons (hT n) DecL.nil)))
  · simp [GVar.cells]
  · exact ⟨hx.1, hx.2.1⟩

theorem Dec_stmt {ti tu ts tE tL tR sE sR tS sS : TypeId} {fE fL fR fS : Array Field} (h : ExOK P ti tu ts tE tL tR sE sR fE fL fR) (hS : P.underlying tS = some (.struct fS)) (slS : P.underlying sS = some (.slice tS))
    (lS : fS.toList.map (fun f => (f.type, f.offset)) = [(ti, 0), (ti, 1), (ts, 2), (ts, 3), (ti, 4), (tL, 5), (sE, 7), (sS, 8), (sS, 9)]) (cS : P.cellsOf tS = 10) (csS : P.cellsOf sS = 1) :
    ∀ n, Dec F enc P w sp held n tS GStmt.cells GStmt.ok := by
  have c1 : P.cellsOf ti = 1 := h.c1 _ (by simp)
  have c3 : P.cellsOf ts = 1 := h.c1 _ (by simp)
  have c4 : P.cellsOf sE = 1 := h.c1 _ (by simp)
  intro n
  induction n with
  | zero => exact Dec.zero
  | succ n ih =>
    have kE := Dec.mono (Dec.slice h.slE h.cE (by decide) GExpr.len (Dec_exprs (F := F) (enc := enc) (w := w) (sp := sp) (held := held) h n).1) (Nat.le_succ n)
    have kS := Dec.mono (Dec.slice slS cS (by decide) GStmt.len ih) (Nat.le_succ n)
    refine Dec.map (fun (x : Int × Int × List UInt8 × List UInt8 × Int × GPlace × List GExpr × List GStmt × List GStmt × Unit) => (⟨x.1, x.2.1, x.2.2.1, x.2.2.2.1, x.2.2.2.2.1, x.2.2.2.2.2.1, x.2.2.2.2.2.2.1, x.2.2.2.2.2.2.2.1, x.2.2.2.2.2.2.2.2.1⟩ : GStmt)) (fun x => ?_) (fun x hx => ?_)
      (Dec.struct hS lS (by simp [chainB, c1, c3, c4, csS, h.cL]) (by simp [totC, c1, c3, c4, csS, h.cL, cS])
        (DecL.cons (Dec.i64 h.int) (DecL.cons (Dec.i64 h.int) (DecL.cons (Dec.string h.str) (DecL.cons (Dec.string h.str) (DecL.cons (Dec.i64 h.int) (DecL.cons (Dec_exprs h n).2.1 (DecL.cons kE (DecL.cons kS (DecL.cons kS DecL.nil))))))))))
    · rw [GStmt.cells_eq]; simp
    · obtain ⟨h1, h2, h3, h4, h5, h6, ⟨h7, h8⟩, ⟨h9, h10⟩, ⟨h11, h12⟩, _⟩ := hx
      exact ⟨h1, h2, h3, h4, h5, h6, h7, GExpr.oks_iff.2 h8, h9, GStmt.oks_iff.2 h10, h11, GStmt.oks_iff.2 h12⟩

theorem Dec_prog {tV sV tS sS ssS tP : TypeId} {fP : Array Field} (hV : ∀ n, Dec F enc P w sp held n tV GVar.cells GVar.ok) (hS : ∀ n, Dec F enc P w sp held n tS GStmt.cells GStmt.ok)
    (slV : P.underlying sV = some (.slice tV)) (slS : P.underlying sS = some (.slice tS)) (slSS : P.underlying ssS = some (.slice sS)) (cV : P.cellsOf tV = 7) (cS : P.cellsOf tS = 10) (csS : P.cellsOf sS = 1) (csV : P.cellsOf sV = 1) (cssS : P.cellsOf ssS = 1)
    (hP : P.underlying tP = some (.struct fP)) (lP : fP.toList.map (fun f => (f.type, f.offset)) = [(sV, 0), (ssS, 1)]) (cP : P.cellsOf tP = 2) : ∀ n, Dec F enc P w sp held n tP GProg.cells GProg.ok := by
  intro n
  refine Dec.mono (n := n + 2 + 1) ?_ (by omega)
  have k1 : Dec F enc P w sp held (n + 2) sV (fun xs : List GVar => [lstA GVar.cells xs]) (fun xs => xs.length ≤ maxLen ∧ ∀ x ∈ xs, x.ok) := Dec.slice slV cV (by decide) GVar.len (hV (n + 1))
  have k2 : Dec F enc P w sp held (n + 1) sS thrCells (fun xs => xs.length ≤ maxLen ∧ ∀ x ∈ xs, x.ok) := Dec.slice slS cS (by decide) GStmt.len (hS n)
  have k3 : Dec F enc P w sp held (n + 2) ssS (fun xs : List (List GStmt) => [lstA thrCells xs]) (fun xs => xs.length ≤ maxLen ∧ ∀ x ∈ xs, x.length ≤ maxLen ∧ ∀ y ∈ x, y.ok) := Dec.slice slSS csS (by decide) (fun _ => rfl) k2
  refine Dec.map (fun (x : List GVar × List (List GStmt) × Unit) => (⟨x.1, x.2.1⟩ : GProg)) (fun x => ?_) (fun x hx => ?_)
    (Dec.struct hP lP (by simp [chainB, csV]) (by simp [totC, csV, cssS, cP]) (DecL.cons k1 (DecL.cons k3 DecL.nil)))
  · simp [GProg.cells]
  · exact ⟨hx.1, hx.2.1⟩
end
end Rb

/- Laws for reading what a function means, by simp. -/
set_option linter.unusedVariables false
namespace Rb
open Go

@[simp] theorem Do_of {α : Type} (a : α) (K : α → Prop) : Do (some a) K ↔ K a := ⟨fun ⟨b, h, k⟩ => by cases h; exact k, fun h => ⟨a, rfl, h⟩⟩
@[simp] theorem DoH_some (v : AV) (H : AH) (K : Post) : DoH (some (v, H)) K ↔ K v H := ⟨fun ⟨a, b, h, k⟩ => by cases h; exact k, fun h => ⟨v, H, rfl, h⟩⟩
@[simp] theorem Gd_true (b : Bool) (A B : Prop) : Gd (.bool b) true A B ↔ if b = true then A else B := Iff.rfl
@[simp] theorem Gd_false (b : Bool) (A B : Prop) : Gd (.bool b) false A B ↔ if b = false then A else B := Iff.rfl
@[simp] theorem JoinP_def (K : List AV → AH → Prop) (st : List AV) (H : AH) : JoinP K st H ↔ K st H := Iff.rfl
@[simp] theorem sl_zero (a : AV) (l : List AV) : sl (a :: l) 0 = a := rfl
@[simp] theorem sl_succ (a : AV) (l : List AV) (i : Nat) : sl (a :: l) (i + 1) = sl l i := rfl

section
variable (k : IntKind) (a b : Int)
@[simp] theorem abin_add : abin .add (.int k a) (.int k b) = some (.int k (k.wrap (a + b))) := by simp [abin, abinInt]
@[simp] theorem abin_sub : abin .sub (.int k a) (.int k b) = some (.int k (k.wrap (a - b))) := by simp [abin, abinInt]
@[simp] theorem abin_mul : abin .mul (.int k a) (.int k b) = some (.int k (k.wrap (a * b))) := by simp [abin, abinInt]
@[simp] theorem abin_eql : abin .eql (.int k a) (.int k b) = some (.bool (a == b)) := by simp [abin, abinInt]
@[simp] theorem abin_neq : abin .neq (.int k a) (.int k b) = some (.bool (a != b)) := by simp [abin, abinInt]
@[simp] theorem abin_lss : abin .lss (.int k a) (.int k b) = some (.bool (decide (a < b))) := by simp [abin, abinInt]
@[simp] theorem abin_leq : abin .leq (.int k a) (.int k b) = some (.bool (decide (a ≤ b))) := by simp [abin, abinInt]
@[simp] theorem abin_gtr : abin .gtr (.int k a) (.int k b) = some (.bool (decide (a > b))) := by simp [abin, abinInt]
@[simp] theorem abin_geq : abin .geq (.int k a) (.int k b) = some (.bool (decide (a ≥ b))) := by simp [abin, abinInt]
theorem abin_rem (h : b ≠ 0) : abin .rem (.int k a) (.int k b) = some (.int k (a.tmod b)) := by simp [abin, abinInt, h]
theorem abin_quo (h : b ≠ 0) : abin .quo (.int k a) (.int k b) = some (.int k (k.wrap (a.tdiv b))) := by simp [abin, abinInt, h]
@[simp] theorem abin_and : abin .and (.int k a) (.int k b) = some (.int k (k.wrap (BitVec.ofInt k.bits a &&& BitVec.ofInt k.bits b).toNat)) := by simp [abin, abinInt, bitsOp]
@[simp] theorem abin_or : abin .or (.int k a) (.int k b) = some (.int k (k.wrap (BitVec.ofInt k.bits a ||| BitVec.ofInt k.bits b).toNat)) := by simp [abin, abinInt, bitsOp]
@[simp] theorem abin_xor : abin .xor (.int k a) (.int k b) = some (.int k (k.wrap (BitVec.ofInt k.bits a ^^^ BitVec.ofInt k.bits b).toNat)) := by simp [abin, abinInt, bitsOp]
theorem abin_shr (k' : IntKind) (h : 0 ≤ b) : abin .shr (.int k a) (.int k' b) = some (.int k (a.fdiv (2 ^ (min b.toNat k.bits)))) := by simp [abin, abinInt, Int.not_lt.2 h]
theorem abin_shl (k' : IntKind) (h : 0 ≤ b) : abin .shl (.int k a) (.int k' b) = some (.int k (k.wrap (a * 2 ^ (min b.toNat k.bits)))) := by simp [abin, abinInt, Int.not_lt.2 h]
@[simp] theorem aconv_int (k' : IntKind) : aconv k' (.int k a) = some (.int k' (k'.wrap a)) := rfl
@[simp] theorem abeq_def (neg : Bool) (x y : Bool) : abeq neg (.bool x) (.bool y) = some (.bool (if neg then !(x == y) else x == y)) := rfl
@[simp] theorem aun_not (x : Bool) : aun .not (.bool x) = some (.bool !x) := rfl
end
@[simp] theorem alen_lst (tk : Tok) (n : Nat) (cs : List AV) : alen false (.lst tk n cs) = some (.int .i64 n) := rfl
@[simp] theorem alen_row (id o n sz : Nat) : alen false (.row id o n sz) = some (.int .i64 n) := rfl
@[simp] theorem alen_str (s : List UInt8) : alen true (.str s) = some (.int .i64 s.length) := rfl

end Rb

/- Memory that only grew; numbers. -/
set_option linter.unusedVariables false
namespace Rb
open Go

/-- What was there is as it was. -/
def AH.Ext (H H' : AH) : Prop := H.n ≤ H'.n ∧ ∀ i, i < H.n → H'.o i = H.o i
theorem AH.Ext.refl (H : AH) : AH.Ext H H := ⟨Nat.le_refl _, fun _ _ => rfl⟩
theorem AH.Ext.trans {a b c : AH} (h : AH.Ext a b) (k : AH.Ext b c) : AH.Ext a c := ⟨Nat.le_trans h.1 k.1, fun i hi => (k.2 i (Nat.lt_of_lt_of_le hi h.1)).trans (h.2 i hi)⟩
theorem AH.Ext.push (H : AH) (x : AObj) : AH.Ext H (H.push x) := ⟨Nat.le_succ _, fun i hi => if_neg (Nat.ne_of_lt hi)⟩
theorem AH.Ext.set {H H' : AH} (h : AH.Ext H H') {i : Nat} (hi : H.n ≤ i) (x : AObj) : AH.Ext H (H'.set i x) := ⟨h.1, fun j hj => by
  simp only [AH.set]; rw [if_neg (by omega)]; exact h.2 j hj⟩
@[simp] theorem AH.push_n (H : AH) (x : AObj) : (H.push x).n = H.n + 1 := rfl
@[simp] theorem AH.set_n (H : AH) (i : Nat) (x : AObj) : (H.set i x).n = H.n := rfl
theorem AH.push_self (H : AH) (x : AObj) : (H.push x).o H.n = x := if_pos rfl
theorem AH.push_ne (H : AH) (x : AObj) {i : Nat} (h : i ≠ H.n) : (H.push x).o i = H.o i := if_neg h
theorem AH.set_self (H : AH) (i : Nat) (x : AObj) : (H.set i x).o i = x := if_pos rfl
theorem AH.set_ne (H : AH) {i j : Nat} (x : AObj) (h : j ≠ i) : (H.set i x).o j = H.o j := if_neg h

theorem wrap_i64 {n : Int} (h1 : -9223372036854775808 ≤ n) (h2 : n ≤ 9223372036854775807) : IntKind.wrap .i64 n = n := by
  simp [IntKind.wrap, IntKind.signed, IntKind.bits]; omega
theorem wrap_u64 {n : Int} (h1 : 0 ≤ n) (h2 : n < 18446744073709551616) : IntKind.wrap .u64 n = n := by
  simp [IntKind.wrap, IntKind.signed, IntKind.bits]; omega
theorem wrap_u8 {n : Int} (h1 : 0 ≤ n) (h2 : n < 256) : IntKind.wrap .u8 n = n := by
  simp [IntKind.wrap, IntKind.signed, IntKind.bits]; omega
theorem wrap_u32 {n : Int} (h1 : 0 ≤ n) (h2 : n < 4294967296) : IntKind.wrap .u32 n = n := by
  simp [IntKind.wrap, IntKind.signed, IntKind.bits]; omega

/-- A list that grows at its end, and that nobody else holds. -/
def Lst (H0 H : AH) (sz : Nat) (x : AV) (len : Nat) (cells : List AV) : Prop :=
  AH.Ext H0 H ∧ ∃ tk, x = .lst tk len cells ∧ cells.length = len * sz ∧ ((tk = .nil ∧ len = 0) ∨ ∃ t, tk = .own t ∧ H0.n ≤ t ∧ t < H.n ∧ H.o t = .tok (len * sz) sz)

theorem Lst.nil (H : AH) (sz : Nat) : Lst H H sz (.lst .nil 0 []) 0 [] := ⟨AH.Ext.refl H, .nil, rfl, by simp, .inl ⟨rfl, rfl⟩⟩

theorem Lst.append {H0 H : AH} {sz bytes len m : Nat} {x y : AV} {cells news : List AV} {K : Post} (h : Lst H0 H sz x len cells) (hy : acells H sz y = some (m, news)) (hn : news.length = m * sz) (hs : news.all AV.scalar = true) (hm : m ≠ 0)
    (hb : (len + m) * bytes ≤ 140737488355328) (hl : len + m ≤ 9223372036854775807) (hK : ∀ x' H', Lst H0 H' sz x' (len + m) (cells ++ news) → K x' H') : DoH (aappend H false sz bytes x y) K := by
  obtain ⟨hx, tk, rfl, hc, htk⟩ := h
  have hlen : (cells ++ news).length = (len + m) * sz := by simp [hc, hn, Nat.add_mul]
  rcases htk with ⟨rfl, rfl⟩ | ⟨t, rfl, h1, h2, h3⟩
  · refine ⟨.lst (.own H.n) (0 + m) (cells ++ news), H.push (.tok ((0 + m) * sz) sz), ?_, hK _ _ ⟨hx.trans (AH.Ext.push _ _), _, rfl, hlen, .inr ⟨H.n, rfl, hx.1, Nat.lt_succ_self _, AH.push_self _ _⟩⟩⟩
    simp only [aappend, hy, hs, not_true_eq_false, if_false, if_neg hm]
    rw [if_neg (by simp only [Decidable.not_not]; exact ⟨hc, hb, hl⟩)]
  · refine ⟨.lst (.own H.n) (len + m) (cells ++ news), (H.set t .gone).push (.tok ((len + m) * sz) sz), ?_, hK _ _ ⟨(hx.set h1 _).trans (AH.Ext.push _ _), _, rfl, hlen, .inr ⟨H.n, rfl, hx.1, Nat.lt_succ_self _, AH.push_self _ _⟩⟩⟩
    simp only [aappend, hy, hs, not_true_eq_false, if_false, if_neg hm]
    rw [if_neg (by simp only [Decidable.not_not]; exact ⟨hc, hb, hl⟩)]
    simp [h3]

/-- What stands at a place. -/
def At (H : AH) (id : Nat) (x : AObj) : Prop := id < H.n ∧ H.o id = x
theorem At.new (H : AH) (x : AObj) : At (H.push x) H.n x := ⟨Nat.lt_succ_self _, AH.push_self H x⟩
theorem At.ext {H H' : AH} {id : Nat} {x : AObj} (h : At H id x) (hE : AH.Ext H H') : At H' id x := ⟨Nat.lt_of_lt_of_le h.1 hE.1, (hE.2 id h.1).trans h.2⟩
theorem At.push {H : AH} {id : Nat} {x : AObj} (h : At H id x) (y : AObj) : At (H.push y) id x := h.ext (AH.Ext.push H y)
theorem At.set_ne {H : AH} {id i : Nat} {x : AObj} (h : At H id x) (hne : id ≠ i) (y : AObj) : At (H.set i y) id x := ⟨h.1, (AH.set_ne H y hne).trans h.2⟩
theorem At.set {H : AH} {id : Nat} {x : AObj} (h : At H id x) (y : AObj) : At (H.set id y) id y := ⟨h.1, AH.set_self H id y⟩
theorem At.ne {H : AH} {id i : Nat} {x y : AObj} (h : At H id x) (k : At H i y) (hxy : x ≠ y) : id ≠ i := fun e => hxy (by rw [← h.2, ← k.2, e])
theorem At.lt_new {H : AH} {id : Nat} {x : AObj} (h : At H id x) : id ≠ H.n := Nat.ne_of_lt h.1

theorem At.load {H : AH} {id : Nat} {cs : List AV} (h : At H id (.row cs)) (n o : Nat) (agg : Bool) : aload H n agg (.ptr id o) = takeCells cs o n agg := by simp [aload, h.2]
theorem At.store {H : AH} {id : Nat} {cs : List AV} (h : At H id (.row cs)) (n o : Nat) (v : AV) : astore H n (.ptr id o) v = if v.known ∧ v.cells.length = n ∧ v.cells.all AV.scalar ∧ o + n ≤ cs.length then some (H.set id (.row (setCells cs o v.cells))) else none := by simp [astore, h.2]

end Rb

/- More laws for reading. -/
set_option linter.unusedVariables false
namespace Rb
open Go
@[simp] theorem Gd3_true (b : Bool) (A B C : Prop) : Gd3 (.bool b) true A B C ↔ if b = true then A else B := Iff.rfl
@[simp] theorem Gd3_false (b : Bool) (A B C : Prop) : Gd3 (.bool b) false A B C ↔ if b = false then A else B := Iff.rfl
@[simp] theorem Gd3_tup (want : Bool) (A B C : Prop) : Gd3 (.tup []) want A B C ↔ C := Iff.rfl
theorem ite_both {c : Prop} [Decidable c] {A B : Prop} (h1 : c → A) (h2 : ¬ c → B) : if c then A else B := by
  split
  · exact h1 ‹_›
  · exact h2 ‹_›
theorem drop_nil_le {α : Type} {xs : List α} {i : Nat} (h : xs.drop i = []) : xs.length ≤ i := by simpa using h
theorem drop_cons_lt {α : Type} {xs ys : List α} {i : Nat} {y : α} (h : xs.drop i = y :: ys) : i < xs.length ∧ xs[i]? = some y ∧ xs.drop (i + 1) = ys := by
  have hlt : i < xs.length := by
    rcases Nat.lt_or_ge i xs.length with h' | h'
    · exact h'
    · rw [List.drop_eq_nil_of_le h'] at h; cases h
  refine ⟨hlt, ?_, ?_⟩
  · have := congrArg (fun l => l[0]?) h
    simpa using this
  · have := congrArg List.tail h
    simpa using this
end Rb

/- Slices of typed values: reading an element; slices.IndexFunc. -/
set_option linter.unusedVariables false
set_option linter.unusedSimpArgs false
namespace Rb
open Go

section
variable {α : Type} {cells : α → List AV} {sz : Nat}

theorem flatMap_drop (hc : ∀ x, (cells x).length = sz) : ∀ (xs : List α) (i : Nat), (xs.flatMap cells).drop (i * sz) = (xs.drop i).flatMap cells := by
  intro xs i
  induction i generalizing xs with
  | zero => simp
  | succ i ih =>
    cases xs with
    | nil => simp
    | cons x xs =>
      rw [List.flatMap_cons, List.drop_succ_cons, ← ih]
      rw [show (i + 1) * sz = (cells x).length + i * sz by rw [hc, Nat.add_mul, Nat.one_mul, Nat.add_comm], ← List.drop_drop, List.drop_left]

theorem flatMap_len (hc : ∀ x, (cells x).length = sz) (xs : List α) : (xs.flatMap cells).length = xs.length * sz := by
  induction xs with
  | nil => simp
  | cons x xs ih => rw [List.flatMap_cons, List.length_append, ih, hc, List.length_cons, Nat.add_mul]; omega

/-- The address of an element. -/
def elA (cells : α → List AV) (sz : Nat) (xs : List α) (i : Nat) : AV := .fptr ((xs.flatMap cells).drop (i * sz))

theorem lstA_addr {xs : List α} {i : Nat} (hi : i < xs.length) : aiaddr none sz (lstA cells xs) (.int .i64 i) = some (elA cells sz xs i) := by
  simp only [lstA, aiaddr]
  rw [if_pos ⟨by omega, by omega⟩]; rfl

theorem elA_load (hc : ∀ x, (cells x).length = sz) (hz : 0 < sz) (H : AH) {xs : List α} {i : Nat} {x : α} (hx : xs[i]? = some x) : aload H sz true (elA cells sz xs i) = some (.agg (cells x)) := by
  have hlt := (List.getElem?_eq_some_iff.1 hx).1
  have hd : xs.drop i = x :: xs.drop (i + 1) := by
    rw [List.drop_eq_getElem_cons hlt]
    rw [List.getElem?_eq_getElem hlt] at hx
    simp at hx
    rw [hx]
  show takeCells ((xs.flatMap cells).drop (i * sz)) 0 sz true = _
  rw [flatMap_drop hc, hd, List.flatMap_cons]
  unfold takeCells
  rw [if_pos (by rw [List.length_append, hc]; omega)]
  simp only [if_true, List.drop_zero]
  rw [List.take_append_of_le_length (by rw [hc]; omega), List.take_of_length_le (by rw [hc]; omega)]

def IndexFuncL (sz : Nat) (Φ : Calls') (a0 : AV) (a1 : AV) (x1 : AV) (Q : Post) : (List AV × AH) → ((List AV × AH) → Prop) → Prop := fun s2 L3 =>
  Do (abin .lss (sl s2.1 0) x1) fun x4 =>
  Gd x4 true (
  Do (aiaddr none sz a0 (sl s2.1 0)) fun x5 =>
  Do (aload s2.2 sz true x5) fun x6 =>
  ∃ k9 c10, a1 = .fn k9 c10 ∧ Φ k9 ([x6] ++ c10) s2.2 fun x7 H8 =>
  Gd x7 true (
  Q (sl s2.1 0) H8) (
  Do (abin .add (sl s2.1 0) (.int .i64 1)) fun x11 =>
  L3 ([x11], H8))) (
  Q (.int .i64 (-1)) s2.2)
def IndexFunc (sz : Nat) (Φ : Calls') (a0 : AV) (a1 : AV) (H : AH) (Q : Post) : Prop :=
  Do (alen false a0) fun x1 =>
  LoopP (IndexFuncL sz Φ a0 a1 x1 Q) ([(.int .i64 0)], H)

def idxI : Option Nat → Int
  | some i => i
  | none => -1

theorem IndexFunc_spec {Φ : Calls'} (hc : ∀ x, (cells x).length = sz) (hz : 0 < sz) {p : α → Bool} {key : Nat} {caps : List AV} {xs : List α} {H : AH} (hf : ∀ x ∈ xs, ∀ (R : Post), R (.bool (p x)) H → Φ key ([.agg (cells x)] ++ caps) H R) (hl : xs.length ≤ 9223372036854775807) {Q : Post}
    (hQ : Q (.int .i64 (idxI (xs.findIdx? p))) H) : IndexFunc sz Φ (lstA cells xs) (.fn key caps) H Q := by
  unfold IndexFunc
  have hlen : alen false (lstA cells xs) = some (.int .i64 xs.length) := rfl
  rw [hlen]
  simp only [Do_of]
  have main : ∀ (ys : List α) (i : Nat), xs.drop i = ys → Q (.int .i64 (idxI ((ys.findIdx? p).map (· + i)))) H → LoopP (IndexFuncL sz Φ (lstA cells xs) (.fn key caps) (.int .i64 xs.length) Q) ([.int .i64 i], H) := by
    intro ys
    induction ys with
    | nil =>
      intro i hi hq
      have hle := drop_nil_le hi
      refine LoopP.step ?_
      simp only [IndexFuncL, sl_zero, abin_lss, Do_of, Gd_true]
      rw [if_neg (by simp only [decide_eq_true_eq]; omega)]
      simpa [idxI] using hq
    | cons y ys ih =>
      intro i hi hq
      obtain ⟨hlt, hy, hd⟩ := drop_cons_lt hi
      refine LoopP.step ?_
      simp only [IndexFuncL, sl_zero, abin_lss, Do_of, Gd_true]
      rw [if_pos (by simp only [decide_eq_true_eq]; omega), lstA_addr hlt]
      simp only [Do_of]
      rw [elA_load hc hz H hy]
      simp only [Do_of]
      refine ⟨key, caps, rfl, hf y (List.mem_of_getElem? hy) _ ?_⟩
      simp only [Gd_true]
      rw [List.findIdx?_cons] at hq
      by_cases he : p y = true
      · rw [if_pos he]
        rw [if_pos he] at hq
        simpa [idxI] using hq
      · rw [if_neg he]
        rw [if_neg he] at hq
        simp only [abin_add, Do_of]
        rw [wrap_i64 (by omega) (by omega), show ((i : Int) + 1) = ((i + 1 : Nat) : Int) by simp]
        refine ih (i + 1) hd ?_
        have : (List.findIdx? p ys).map (· + (i + 1)) = ((List.findIdx? p ys).map (· + 1)).map (· + i) := by
          rw [Option.map_map]; congr 1; funext k; simp only [Function.comp]; omega
        rw [this]; exact hq
  refine main xs 0 rfl ?_
  simpa using hQ
end
end Rb

/- Typed values are frozen. -/
set_option linter.unusedVariables false
set_option linter.unusedSimpArgs false
namespace Rb
open Go

theorem frozs_app (a b : List AV) : AV.frozs (a ++ b) = (AV.frozs a && AV.frozs b) := by
  rw [frozs_all, frozs_all, frozs_all, List.all_append]

mutual
theorem GType.froz : ∀ x : GType, AV.frozs x.cells = true
  | .mk kind size packed fields count elem => by
    simp only [GType.cells, AV.frozs, AV.froz, Tok.free, GField.allFroz fields, GType.allFroz elem, Bool.and_self]
theorem GType.allFroz : ∀ xs : List GType, AV.frozs (GType.all xs) = true
  | [] => rfl
  | x :: r => by rw [GType.all, frozs_app, GType.froz x, GType.allFroz r]; rfl
theorem GField.froz : ∀ x : GField, AV.frozs x.cells = true
  | .mk name type bits width => by
    simp only [GField.cells, AV.frozs, AV.froz, frozs_app, GType.froz type, Bool.and_self]
theorem GField.allFroz : ∀ xs : List GField, AV.frozs (GField.all xs) = true
  | [] => rfl
  | x :: r => by rw [GField.all, frozs_app, GField.froz x, GField.allFroz r]; rfl
end
mutual
theorem GExpr.froz : ∀ x : GExpr, AV.frozs x.cells = true
  | .mk kind n name op order place kids => by
    simp only [GExpr.cells, AV.frozs, AV.froz, frozs_app, Tok.free, GPlace.froz place, GExpr.allFroz kids, Bool.and_self]
theorem GExpr.allFroz : ∀ xs : List GExpr, AV.frozs (GExpr.all xs) = true
  | [] => rfl
  | x :: r => by rw [GExpr.all, frozs_app, GExpr.froz x, GExpr.allFroz r]; rfl
theorem GPlace.froz : ∀ x : GPlace, AV.frozs x.cells = true
  | .mk var parts => by simp only [GPlace.cells, AV.frozs, AV.froz, Tok.free, GPart.allFroz parts, Bool.and_self]
theorem GPart.froz : ∀ x : GPart, AV.frozs x.cells = true
  | .mk field index => by simp only [GPart.cells, AV.frozs, AV.froz, Tok.free, GExpr.allFroz index, Bool.and_self]
theorem GPart.allFroz : ∀ xs : List GPart, AV.frozs (GPart.all xs) = true
  | [] => rfl
  | x :: r => by rw [GPart.all, frozs_app, GPart.froz x, GPart.allFroz r]; rfl
end
theorem lstA_froz {α : Type} {cells : α → List AV} (h : ∀ x, AV.frozs (cells x) = true) (xs : List α) : (lstA cells xs).froz = true := by
  have : AV.frozs (xs.flatMap cells) = true := by
    induction xs with
    | nil => rfl
    | cons x xs ih => rw [List.flatMap_cons, frozs_app, h, ih]; rfl
  simp only [lstA, AV.froz, Tok.free, this, Bool.and_self]
theorem GVar.froz (x : GVar) : AV.frozs x.cells = true := by simp only [GVar.cells, AV.frozs, AV.froz, GType.froz, Bool.and_self]
mutual
theorem GStmt.froz : ∀ x : GStmt, AV.frozs x.cells = true
  | .mk kind line name name2 order place exprs thn els => by
    simp only [GStmt.cells, AV.frozs, AV.froz, frozs_app, Tok.free, GPlace.froz place, lstA_froz GExpr.froz exprs, GStmt.allFroz thn, GStmt.allFroz els, Bool.and_self]
theorem GStmt.allFroz : ∀ xs : List GStmt, AV.frozs (GStmt.all xs) = true
  | [] => rfl
  | x :: r => by rw [GStmt.all, frozs_app, GStmt.froz x, GStmt.allFroz r]; rfl
end
theorem thr_froz (l : List GStmt) : AV.frozs (thrCells l) = true := by simp only [thrCells, AV.frozs, lstA_froz GStmt.froz, Bool.and_self]
theorem GProg.froz (x : GProg) : AV.frozs x.cells = true := by simp only [GProg.cells, AV.frozs, lstA_froz GVar.froz, lstA_froz thr_froz, Bool.and_self]
end Rb

/- New variables, and what is read of them. -/
set_option linter.unusedVariables false
set_option linter.unusedSimpArgs false
namespace Rb
open Go

@[simp] theorem AH.push_set (H : AH) (x y : AObj) : (H.push x).set H.n y = H.push y := by
  simp only [AH.push, AH.set]
  congr 1
  funext j
  split <;> rfl
@[simp] theorem load_push (H : AH) (cs : List AV) (n o : Nat) (agg : Bool) : aload (H.push (.row cs)) n agg (.ptr H.n o) = takeCells cs o n agg := by
  simp [aload, AH.push_self]
theorem store_push (H : AH) (cs : List AV) (n o : Nat) (v : AV) (h1 : v.known = true) (h2 : v.cells.length = n) (h3 : v.cells.all AV.scalar = true) (h4 : o + n ≤ cs.length) : astore (H.push (.row cs)) n (.ptr H.n o) v = some (H.push (.row (setCells cs o v.cells))) := by
  rw [(At.new H (.row cs)).store, if_pos ⟨h1, h2, h3, h4⟩, AH.push_set]
theorem setCells_all {xs ys : List AV} : ∀ {k : Nat}, k + ys.length = xs.length → setCells xs k ys = xs.take k ++ ys := by
  induction ys generalizing xs with
  | nil => intro k h; simp only [setCells]; rw [List.append_nil, List.take_of_length_le (by simp at h; omega)]
  | cons y ys ih =>
    intro k h
    simp only [setCells]
    rw [ih (by simp at h ⊢; omega)]
    have hk : k < xs.length := by simp at h; omega
    rw [List.take_add_one, List.getElem?_set_self hk, List.take_set_of_le (by omega)]
    simp
/-- A new variable gets a struct. -/
theorem store_new (H : AH) (zs cs : List AV) (n : Nat) (h2 : cs.length = n) (h3 : cs.all AV.scalar = true) (h4 : zs.length = n) : astore (H.push (.row zs)) n (.ptr H.n 0) (.agg cs) = some (H.push (.row cs)) := by
  rw [store_push H zs n 0 (.agg cs) rfl h2 h3 (by omega)]
  congr 3
  show setCells zs 0 cs = cs
  rw [setCells_all (by omega)]; rfl

theorem takeCells_app {a b : List AV} {n : Nat} (h : a.length = n) : takeCells (a ++ b) 0 n true = some (.agg a) := by
  unfold takeCells
  rw [if_pos (by rw [List.length_append]; omega)]
  simp only [if_true, List.drop_zero]
  rw [List.take_append_of_le_length (by omega), List.take_of_length_le (by omega)]
theorem takeCells_whole {a : List AV} {n : Nat} (h : a.length = n) : takeCells a 0 n true = some (.agg a) := by
  have := takeCells_app (a := a) (b := []) h
  rwa [List.append_nil] at this
theorem takeCells_drop {cs : List AV} {o n : Nat} {agg : Bool} (h : o ≤ cs.length) : takeCells cs o n agg = takeCells (cs.drop o) 0 n agg := by
  by_cases hl : o + n ≤ cs.length
  · have hl' : 0 + n ≤ (cs.drop o).length := by rw [List.length_drop]; omega
    unfold takeCells
    simp only [hl, hl', if_true]
    cases agg <;> simp
  · have hl' : ¬ 0 + n ≤ (cs.drop o).length := by rw [List.length_drop]; omega
    unfold takeCells
    simp only [hl, hl', if_false]

/-- Frozen values may lie in a cell. -/
theorem froz_scalar : ∀ {cs : List AV}, (∀ c ∈ cs, c.scalar = true) → cs.all AV.scalar = true := fun h => List.all_eq_true.2 h
mutual
theorem GType.scalar : ∀ x : GType, x.cells.all AV.scalar = true
  | .mk kind size packed fields count elem => by simp [GType.cells, AV.scalar]
theorem GField.scalar : ∀ x : GField, x.cells.all AV.scalar = true
  | .mk name type bits width => by simp only [GField.cells, List.all_cons, List.all_append, GType.scalar type]; rfl
end
theorem GPlace.scalar (x : GPlace) : x.cells.all AV.scalar = true := by rw [GPlace.cells_eq]; rfl
theorem GPart.scalar (x : GPart) : x.cells.all AV.scalar = true := by rw [GPart.cells_eq]; rfl
theorem GExpr.scalar (x : GExpr) : x.cells.all AV.scalar = true := by rw [GExpr.cells_eq]; simp only [List.all_cons, List.all_append, GPlace.scalar]; rfl
theorem GStmt.scalar (x : GStmt) : x.cells.all AV.scalar = true := by rw [GStmt.cells_eq]; simp only [List.all_cons, List.all_append, GPlace.scalar]; rfl
theorem GVar.scalar (x : GVar) : x.cells.all AV.scalar = true := by simp only [GVar.cells, List.all_cons, GType.scalar]; rfl
end Rb

/- Slices of numbers held against one another. -/
set_option linter.unusedVariables false
set_option linter.unusedSimpArgs false
namespace Rb
open Go

/-- A number's cell. -/
def i1 (k : IntKind) (z : Int) : List AV := [.int k z]
theorem i1_len (k : IntKind) (z : Int) : (i1 k z).length = 1 := rfl

section
variable {α : Type} {c : α → AV}
theorem one_load (H : AH) {xs : List α} {i : Nat} {x : α} (hx : xs[i]? = some x) : aload H 1 false (elA (fun x => [c x]) 1 xs i) = some (c x) := by
  have hlt := (List.getElem?_eq_some_iff.1 hx).1
  have hd : xs.drop i = x :: xs.drop (i + 1) := by
    rw [List.drop_eq_getElem_cons hlt]
    rw [List.getElem?_eq_getElem hlt] at hx
    simp at hx
    rw [hx]
  show takeCells ((xs.flatMap fun x => [c x]).drop (i * 1)) 0 1 false = _
  rw [flatMap_drop (sz := 1) (fun _ => rfl), hd, List.flatMap_cons]
  rfl
end
theorem num_load {k : IntKind} (H : AH) {xs : List Int} {i : Nat} {x : Int} (hx : xs[i]? = some x) : aload H 1 false (elA (i1 k) 1 xs i) = some (.int k x) := one_load H hx

def EqualL (a0 : AV) (a1 : AV) (x4 : AV) (Q : Post) : (List AV × AH) → ((List AV × AH) → Prop) → Prop := fun s5 L6 =>
 Do (abin .lss (sl s5.1 0) x4) fun x7 =>
 Gd x7 true (
 Do (aiaddr none 1 a0 (sl s5.1 0)) fun x8 =>
 Do (aload s5.2 1 false x8) fun x9 =>
 Do (aiaddr none 1 a1 (sl s5.1 0)) fun x10 =>
 Do (aload s5.2 1 false x10) fun x11 =>
 Do (abin .neq x9 x11) fun x12 =>
 Gd x12 true (
 Q (.bool false) s5.2) (
 Do (abin .add (sl s5.1 0) (.int .i64 1)) fun x13 =>
 L6 ([x13], s5.2))) (
 Q (.bool true) s5.2)
/-- slices.Equal of numbers. -/
def Equal (a0 : AV) (a1 : AV) (H : AH) (Q : Post) : Prop :=
 Do (alen false a0) fun x1 =>
 Do (alen false a1) fun x2 =>
 Do (abin .neq x1 x2) fun x3 =>
 Gd x3 true (
 Q (.bool false) H) (
 Do (alen false a0) fun x4 =>
 LoopP (EqualL a0 a1 x4 Q) ([(.int .i64 0)], H))

theorem lstA_len' {α : Type} (cells : α → List AV) (xs : List α) : alen false (lstA cells xs) = some (.int .i64 xs.length) := rfl
theorem ne_len {α : Type} {xs ys : List α} [BEq α] [LawfulBEq α] (h : xs.length ≠ ys.length) : (xs == ys) = false := by
  rw [beq_eq_false_iff_ne]; intro e; exact h (by rw [e])

theorem Equal_spec {k : IntKind} {xs ys : List Int} {H : AH} {Q : Post} (hl : xs.length ≤ 9223372036854775807) (hQ : Q (.bool (xs == ys)) H) : Equal (lstA (i1 k) xs) (lstA (i1 k) ys) H Q := by
  unfold Equal
  simp only [lstA_len', Do_of, abin_neq, Gd_true]
  by_cases he : xs.length = ys.length
  · rw [if_neg (by simp [he])]
    have main : ∀ (us vs : List Int) (i : Nat), xs.drop i = us → ys.drop i = vs → us.length = vs.length → Q (.bool (us == vs)) H → LoopP (EqualL (lstA (i1 k) xs) (lstA (i1 k) ys) (.int .i64 xs.length) Q) ([.int .i64 i], H) := by
      intro us
      induction us with
      | nil =>
        intro vs i hu hv hlen hq
        have hle := drop_nil_le hu
        obtain rfl : vs = [] := by cases vs with | nil => rfl | cons _ _ => cases hlen
        refine LoopP.step ?_
        simp only [EqualL, sl_zero, abin_lss, Do_of, Gd_true]
        rw [if_neg (by simp only [decide_eq_true_eq]; omega)]
        exact hq
      | cons u us ih =>
        intro vs i hu hv hlen hq
        cases vs with
        | nil => cases hlen
        | cons v vs =>
          obtain ⟨hlt, hu1, hu2⟩ := drop_cons_lt hu
          obtain ⟨hlt', hv1, hv2⟩ := drop_cons_lt hv
          refine LoopP.step ?_
          simp only [EqualL, sl_zero, abin_lss, Do_of, Gd_true]
          rw [if_pos (by simp only [decide_eq_true_eq]; omega), lstA_addr hlt, lstA_addr hlt']
          simp only [Do_of]
          rw [num_load H hu1, num_load H hv1]
          simp only [Do_of, abin_neq, Gd_true]
          by_cases hx : u = v
          · subst hx
            rw [if_neg (by simp)]
            simp only [abin_add, Do_of]
            rw [wrap_i64 (by omega) (by omega), show ((i : Int) + 1) = ((i + 1 : Nat) : Int) by simp]
            refine ih vs (i + 1) hu2 hv2 (by simpa using hlen) ?_
            simpa using hq
          · rw [if_pos (by simpa using hx)]
            have : (u :: us == v :: vs) = false := by rw [beq_eq_false_iff_ne]; intro e; cases e; exact hx rfl
            rw [this] at hq; exact hq
    exact main xs ys 0 rfl rfl he hQ
  · rw [if_pos (by simpa using fun e => he (by omega))]
    rw [ne_len he] at hQ; exact hQ

def SameL (a0 : AV) (a1 : AV) (Q : Post) : (List AV × AH) → ((List AV × AH) → Prop) → Prop := fun s4 L5 =>
 Do (alen false a0) fun x6 =>
 Do (abin .lss (sl s4.1 0) x6) fun x7 =>
 Gd x7 true (
 Do (aiaddr none 1 a0 (sl s4.1 0)) fun x8 =>
 Do (aload s4.2 1 false x8) fun x9 =>
 Do (aiaddr none 1 a1 (sl s4.1 0)) fun x10 =>
 Do (aload s4.2 1 false x10) fun x11 =>
 Do (abin .neq x9 x11) fun x12 =>
 Gd x12 true (
 Q (.bool false) s4.2) (
 Do (abin .add (sl s4.1 0) (.int .i64 1)) fun x13 =>
 L5 ([x13], s4.2))) (
 Q (.bool true) s4.2)
def SameD (a0 : AV) (a1 : AV) (H : AH) (Q : Post) : Prop :=
 Do (alen false a0) fun x1 =>
 Do (alen false a1) fun x2 =>
 Do (abin .neq x1 x2) fun x3 =>
 Gd x3 true (
 Q (.bool false) H) (
 LoopP (SameL a0 a1 Q) ([(.int .i64 0)], H))
theorem SameD_spec {k : IntKind} {xs ys : List Int} {H : AH} {Q : Post} (hl : xs.length ≤ 9223372036854775807) (hQ : Q (.bool (xs == ys)) H) : SameD (lstA (i1 k) xs) (lstA (i1 k) ys) H Q := by
  have e : SameL (lstA (i1 k) xs) (lstA (i1 k) ys) Q = EqualL (lstA (i1 k) xs) (lstA (i1 k) ys) (.int .i64 xs.length) Q := by
    funext s L
    unfold SameL EqualL
    rw [lstA_len']
    simp only [Do_of]
  have := Equal_spec (k := k) (ys := ys) hl hQ
  unfold Equal at this
  unfold SameD
  rw [e]
  simp only [lstA_len', Do_of] at this ⊢
  exact this

/-- Bytes as a text. -/
theorem bytes_str {H : AH} : ∀ {xs : List Int}, (∀ x ∈ xs, 0 ≤ x ∧ x ≤ 255) → abstr H (lstA (i1 .u8) xs) = some (.str (xs.map fun x => UInt8.ofNat x.toNat)) := by
  intro xs hx
  have h1 : ∀ ys : List Int, cellBytes (ys.flatMap (i1 .u8)) = some (ys.map fun x => UInt8.ofNat x.toNat) := by
    intro ys
    induction ys with
    | nil => rfl
    | cons y ys ih =>
      rw [List.flatMap_cons]
      show cellBytes (.int .u8 y :: ys.flatMap (i1 .u8)) = _
      unfold cellBytes
      rw [ih]; rfl
  simp only [abstr, lstA, acells]
  rw [if_pos (by rw [flatMap_len (i1_len _)])]
  simp only [h1, Option.map_some]
theorem bytes_eq {xs ys : List Int} (hx : ∀ x ∈ xs, 0 ≤ x ∧ x ≤ 255) (hy : ∀ x ∈ ys, 0 ≤ x ∧ x ≤ 255) : ((xs.map fun x => UInt8.ofNat x.toNat) == ys.map fun x => UInt8.ofNat x.toNat) = (xs == ys) := by
  rw [Bool.eq_iff_iff]
  simp only [beq_iff_eq]
  constructor
  · intro h
    induction xs generalizing ys with
    | nil => cases ys with | nil => rfl | cons _ _ => cases h
    | cons x xs ih =>
      cases ys with
      | nil => cases h
      | cons y ys =>
        simp only [List.map_cons, List.cons.injEq] at h
        obtain ⟨h1, h2⟩ := h
        have h3 := hx x (by simp)
        have h4 := hy y (by simp)
        have h5 := congrArg UInt8.toNat h1
        simp only [UInt8.toNat_ofNat'] at h5
        rw [ih (fun z hz => hx z (by simp [hz])) (fun z hz => hy z (by simp [hz])) h2]
        congr 1
        omega
  · intro h; rw [h]
end Rb

/- A call that leaves all that was there: the relation to the world stands. -/
set_option linter.unusedVariables false
set_option linter.unusedSimpArgs false
namespace Rb
open Go Go.RowKit

theorem cell_lt {w : World} {b o : Nat} {V : Value} (h : w.cell? ⟨b, o, none⟩ = some V) : b < w.heap.size := by
  unfold World.cell? at h
  split at h
  · rename_i hb
    exact (Array.getElem?_eq_some_iff.1 hb).1
  · cases h
theorem gle_below {w w' : World} {G : Ghost} (hb : Below w.heap.size w w') : GLe w G w' G :=
  ⟨Nat.le_refl _, fun _ _ => rfl, fun _ _ => rfl, fun _ _ h => h, fun b o V _ hc => by rw [hb.cell (p := ⟨b, o, none⟩) (cell_lt hc)]; exact hc⟩
theorem obj_below {F : FTab} {w w' : World} {G : Ghost} (hb : Below w.heap.size w w') {i : Nat} {x : AObj} (h : ObjR F w G i x) : ObjR F w' G i x := by
  have hg := gle_below (G := G) hb
  cases x with
  | row cs =>
    obtain ⟨c, e, h1, h2, h3, h4⟩ := h
    refine ⟨c, e, by rw [hb.block _ (Array.getElem?_eq_some_iff.1 h1).1]; exact h1, h2, h3, fun j c hj => ?_⟩
    obtain ⟨V, h5, h6⟩ := h4 j c hj
    exact ⟨V, h5, h6.mono hg⟩
  | tok k sz =>
    obtain ⟨c, e, h1, h2, h3, h4⟩ := h
    exact ⟨c, e, by rw [hb.block _ (Array.getElem?_eq_some_iff.1 h1).1]; exact h1, h2, h3, h4⟩
  | map es =>
    obtain ⟨c, e, h1, h2, h3, h4⟩ := h
    refine ⟨c, e, by rw [hb.block _ (Array.getElem?_eq_some_iff.1 h1).1]; exact h1, h2, h3, fun j k v hj => ?_⟩
    obtain ⟨m, h5, h6, h7⟩ := h4 j k v hj
    exact ⟨m, h5, h6.mono hg, h7.mono hg⟩
  | siter s pos =>
    obtain ⟨h1, h2⟩ := h
    exact ⟨by rw [hb.block _ (Array.getElem?_eq_some_iff.1 h1).1]; exact h1, h2⟩
  | gone => trivial
theorem obj_lt {F : FTab} {w : World} {G : Ghost} {i : Nat} {x : AObj} (h : ObjR F w G i x) (hl : x.live = true) : G.loc i < w.heap.size := by
  cases x with
  | row cs => obtain ⟨c, e, h1, _⟩ := h; exact (Array.getElem?_eq_some_iff.1 h1).1
  | tok k sz => obtain ⟨c, e, h1, _⟩ := h; exact (Array.getElem?_eq_some_iff.1 h1).1
  | map es => obtain ⟨c, e, h1, _⟩ := h; exact (Array.getElem?_eq_some_iff.1 h1).1
  | siter s pos => exact (Array.getElem?_eq_some_iff.1 h.1).1
  | gone => cases hl
theorem rel_below {F : FTab} {w w' : World} {G : Ghost} {H : AH} (hb : Below w.heap.size w w') (h : Rel F w G H) : Rel F w' G H :=
  ⟨h.n, h.over, fun i => obj_below hb (h.obj i), h.dist, fun b o hf => by
    obtain ⟨V, hV⟩ := h.fzc b o hf
    exact ⟨V, by rw [hb.cell (p := ⟨b, o, none⟩) (cell_lt hV)]; exact hV⟩⟩
theorem step_below {F : FTab} {w w' : World} {G : Ghost} {H : AH} (hb : Below w.heap.size w w') (h : Rel F w G H) : Step w G H w' G H :=
  { gle_below hb with
    size := hb.size
    os := hb.os
    tape := hb.tape
    output := hb.output
    old := fun k hk _ => hb.block k hk
    owned := fun i hl _ => ⟨i, hl, rfl⟩
    fznew := fun _ _ hf => .inl hf }
end Rb

/- A block that a library's call has made is taken on as an object. -/
set_option linter.unusedVariables false
set_option linter.unusedSimpArgs false
namespace Rb
open Go Go.RowKit

theorem gle_more {w w' : World} {G : Ghost} (hb : Below w.heap.size w w') (b c : Nat) : GLe w G w' (G.more b c) :=
  ⟨Nat.le_succ _, fun i hi => if_neg (Nat.ne_of_lt hi), fun i hi => if_neg (Nat.ne_of_lt hi), fun _ _ hf => hf, (gle_below (G := G) hb).cell⟩
theorem obj_more {F : FTab} {w w' : World} {G : Ghost} (hb : Below w.heap.size w w') (b c : Nat) {i : Nat} {x : AObj} (h : ObjR F w G i x) (hi : x.live = true → i < G.n) : ObjR F w' (G.more b c) i x :=
  h.keep (gle_more hb b c) hi (fun hl => hb.block _ (h.lt hl)) fun _ _ hj => hj
theorem adopt {F : FTab} {w w' : World} {G : Ghost} {H : AH} (hb : Below w.heap.size w w') (h : Rel F w G H) {b : Nat} {C : Array Value} {e : TypeId} (hB : w.heap.size ≤ b) (hC : w'.heap[b]? = some (.cells C e (0, 0)))
    {cs : List AV} (hv : ∀ (j : Nat) (c : AV), cs[j]? = some c → ∃ V, C[j]? = some V ∧ VR F w' (G.more b C.size) c V) :
    Rel F w' (G.more b C.size) (H.push (.row cs)) ∧ Step w G H w' (G.more b C.size) (H.push (.row cs)) ∧ ∀ n cap sz, n ≤ cap → C.size = cap * sz → VR F w' (G.more b C.size) (.row H.n 0 n sz) (.slice (some ⟨b, 0, none⟩) n cap) := by
  have hn := h.n
  have hg := gle_more (G := G) hb b C.size
  have hloc : ∀ i, i ≠ H.n → (G.more b C.size).loc i = G.loc i := fun i hi => if_neg (show ¬ i = G.n by omega)
  have hlocn : (G.more b C.size).loc H.n = b := if_pos hn.symm
  have hcapn : (G.more b C.size).cap H.n = C.size := if_pos hn.symm
  have ho : ∀ i, i ≠ H.n → (H.push (.row cs)).o i = H.o i := fun i hi => if_neg hi
  have hnew : ∀ i, (H.o i).live = true → G.loc i ≠ b := fun i hl => Nat.ne_of_lt (Nat.lt_of_lt_of_le ((h.obj i).lt hl) hB)
  have hnf : ∀ j, ¬ G.fz b j := fun j hj => by
    obtain ⟨V, hV⟩ := h.fzc b j hj
    have := cell_lt hV
    omega
  refine ⟨⟨by show G.n + 1 = H.n + 1; omega, fun i hi' => ?_, fun i => ?_, fun i j hij h1 h2 => ?_, fun b' o hf => ?_⟩, ?_, fun n cap sz hle hsz => ?_⟩
  · have hlt : H.n + 1 ≤ i := hi'
    rw [ho i (by omega)]; exact h.over i (by omega)
  · by_cases hin : i = H.n
    · subst hin
      show ObjR F w' _ H.n (if H.n = H.n then .row cs else H.o H.n)
      rw [if_pos rfl]
      exact ⟨C, e, by rw [hlocn]; exact hC, hcapn.symm, by rw [hlocn]; exact hnf, hv⟩
    · rw [ho i hin]
      exact obj_more hb b C.size (h.obj i) fun hl => h.idlt hl
  · by_cases hi' : i = H.n <;> by_cases hj' : j = H.n
    · omega
    · rw [hi', hlocn, hloc j hj']; rw [ho j hj'] at h2; exact (hnew j h2).symm
    · rw [hj', hlocn, hloc i hi']; rw [ho i hi'] at h1; exact hnew i h1
    · rw [hloc i hi', hloc j hj']; rw [ho i hi'] at h1; rw [ho j hj'] at h2; exact h.dist i j hij h1 h2
  · obtain ⟨V, hV⟩ := h.fzc b' o hf
    exact ⟨V, by rw [hb.cell (p := ⟨b', o, none⟩) (cell_lt hV)]; exact hV⟩
  · refine { hg with size := hb.size, os := hb.os, tape := hb.tape, output := hb.output, old := fun k hk _ => hb.block k hk, owned := fun i hl hlt => ?_, fznew := fun _ _ hf => .inl hf }
    by_cases hin : i = H.n
    · rw [hin, hlocn] at hlt; omega
    · rw [ho i hin] at hl
      exact ⟨i, hl, (hloc i hin).symm⟩
  · have := VR.row (F := F) (w := w') (G := G.more b C.size) H.n 0 n sz cap (by show H.n < G.n + 1; omega) hle (by rw [hcapn, hsz]; omega)
    rw [hlocn] at this
    exact this
end Rb

/- A block that a library's call has made is taken on as a list that is written no more. -/
set_option linter.unusedVariables false
set_option linter.unusedSimpArgs false
namespace Rb
open Go Go.RowKit

theorem adoptF {F : FTab} {w w' : World} {G : Ghost} {H : AH} (hb : Below w.heap.size w w') (h : Rel F w G H) {b : Nat} {C : Array Value} {e : TypeId} (hB : w.heap.size ≤ b) (hC : w'.heap[b]? = some (.cells C e (0, 0)))
    {cs : List AV} (hv : ∀ (j : Nat) (c : AV), cs[j]? = some c → ∃ V, C[j]? = some V ∧ VR F w' G c V) :
    ∃ G', Rel F w' G' H ∧ Step w G H w' G' H ∧ ∀ n cap, n ≤ cap → VR F w' G' (.lst .dead n cs) (.slice (some ⟨b, 0, none⟩) n cap) := by
  let G2 : Ghost := { G with fz := fun b' o => G.fz b' o ∨ (b' = b ∧ o < C.size) }
  have hcell : ∀ b o V, G.fz b o → w.cell? ⟨b, o, none⟩ = some V → w'.cell? ⟨b, o, none⟩ = some V := fun b o V hf hc => by
    rw [World.cell?_of_block (w := w) (hb.block b (World.block_lt_of_cell? w _ hc))]; exact hc
  have hg : GLe w G w' G2 := ⟨Nat.le_refl _, fun _ _ => rfl, fun _ _ => rfl, fun _ _ h => .inl h, hcell⟩
  have hnew : ∀ i, (H.o i).live = true → G.loc i ≠ b := fun i hl => Nat.ne_of_lt (Nat.lt_of_lt_of_le ((h.obj i).lt hl) hB)
  have cellC : ∀ o V, C[o]? = some V → w'.cell? ⟨b, o, none⟩ = some V := fun o V hV => by
    simp [World.cell?, hC, hV]
  have hgl : GLe w' G w' G2 := ⟨Nat.le_refl _, fun _ _ => rfl, fun _ _ => rfl, fun _ _ h => .inl h, fun _ _ _ _ h => h⟩
  refine ⟨G2, ⟨h.n, h.over, fun j => (h.obj j).keep hg (fun hl => h.idlt hl) (fun hl => hb.block _ ((h.obj j).lt hl)) fun hl o hj => ?_, h.dist, fun b' o hf => ?_⟩, ?_, fun n cap hle => ?_⟩
  · rcases hj with hj | ⟨hj, _⟩
    · exact hj
    · exact absurd hj (hnew j hl)
  · rcases hf with hf | ⟨rfl, hlt⟩
    · obtain ⟨V, hV⟩ := h.fzc b' o hf
      exact ⟨V, hcell b' o V hf hV⟩
    · exact ⟨C[o], cellC o _ (Array.getElem?_eq_getElem hlt)⟩
  · exact { hg with size := hb.size, os := hb.os, tape := hb.tape, output := hb.output, old := fun k hk _ => hb.block k hk, owned := fun i hl _ => ⟨i, hl, rfl⟩, fznew := fun b' o hf => Or.elim hf (fun h => .inl h) (fun e => .inr (.inl (e.1 ▸ hB))) }
  · refine .lst _ _ _ b 0 cap (fun j => (C[j]?).getD undef) trivial hle (fun j c hj => ?_) fun j c hj => ?_
    · obtain ⟨V, hV, _⟩ := hv j c hj
      rw [Nat.zero_add]
      simp only [hV, Option.getD_some]
      exact ⟨.inr ⟨rfl, (Array.getElem?_eq_some_iff.1 hV).1⟩, cellC j V hV⟩
    · obtain ⟨V, hV, hr⟩ := hv j c hj
      simp only [hV, Option.getD_some]
      exact hr.mono hgl
end Rb

/- Lists that grow beside other objects; texts held against one another. -/
set_option linter.unusedVariables false
set_option linter.unusedSimpArgs false
namespace Rb
open Go

theorem str_eql (s t : List UInt8) : abin .eql (.str s) (.str t) = some (.bool (s == t)) := rfl
theorem str_neq (s t : List UInt8) : abin .neq (.str s) (.str t) = some (.bool (!(s == t))) := rfl
theorem Lst.app2 {H0 H : AH} {sz bytes len m : Nat} {x y : AV} {cells news : List AV} {K : Post} (h : Lst H0 H sz x len cells) (hy : acells H sz y = some (m, news)) (hn : news.length = m * sz) (hs : news.all AV.scalar = true) (hm : m ≠ 0)
    (hb : (len + m) * bytes ≤ 140737488355328) (hl : len + m ≤ 9223372036854775807) (hK : ∀ x' H', Lst H0 H' sz x' (len + m) (cells ++ news) → (∀ i o, At H i o → (∀ a b, o ≠ .tok a b) → At H' i o) → K x' H') : DoH (aappend H false sz bytes x y) K := by
  obtain ⟨hx, tk, rfl, hc, htk⟩ := h
  have hlen : (cells ++ news).length = (len + m) * sz := by simp [hc, hn, Nat.add_mul]
  rcases htk with ⟨rfl, rfl⟩ | ⟨t, rfl, h1, h2, h3⟩
  · refine ⟨.lst (.own H.n) (0 + m) (cells ++ news), H.push (.tok ((0 + m) * sz) sz), ?_, hK _ _ ⟨hx.trans (AH.Ext.push _ _), _, rfl, hlen, .inr ⟨H.n, rfl, hx.1, Nat.lt_succ_self _, AH.push_self _ _⟩⟩ fun i o ho _ => ho.push _⟩
    simp only [aappend, hy, hs, not_true_eq_false, if_false, if_neg hm]
    rw [if_neg (by simp only [Decidable.not_not]; exact ⟨hc, hb, hl⟩)]
  · refine ⟨.lst (.own H.n) (len + m) (cells ++ news), (H.set t .gone).push (.tok ((len + m) * sz) sz), ?_, hK _ _ ⟨(hx.set h1 _).trans (AH.Ext.push _ _), _, rfl, hlen, .inr ⟨H.n, rfl, hx.1, Nat.lt_succ_self _, AH.push_self _ _⟩⟩ fun i o ho hno => ?_⟩
    · simp only [aappend, hy, hs, not_true_eq_false, if_false, if_neg hm]
      rw [if_neg (by simp only [Decidable.not_not]; exact ⟨hc, hb, hl⟩)]
      simp [h3]
    · exact (ho.set_ne (fun e => by subst e; rw [ho.2] at h3; exact hno _ _ h3) _).push _
theorem Lst.oth {H0 H : AH} {sz len : Nat} {x : AV} {cells : List AV} (h : Lst H0 H sz x len cells) {id : Nat} {cs : List AV} (ha : At H id (.row cs)) (hid : H0.n ≤ id) (y : AObj) : Lst H0 (H.set id y) sz x len cells := by
  obtain ⟨hx, tk, rfl, hc, htk⟩ := h
  refine ⟨hx.set hid y, tk, rfl, hc, ?_⟩
  rcases htk with h | ⟨t, rfl, h1, h2, h3⟩
  · exact .inl h
  · exact .inr ⟨t, rfl, h1, h2, by rw [AH.set_ne _ _ (fun e => by subst e; rw [ha.2] at h3; cases h3)]; exact h3⟩
theorem Lst.psh {H0 H : AH} {sz len : Nat} {x : AV} {cells : List AV} (h : Lst H0 H sz x len cells) (y : AObj) : Lst H0 (H.push y) sz x len cells := by
  obtain ⟨hx, tk, rfl, hc, htk⟩ := h
  refine ⟨hx.trans (AH.Ext.push _ _), tk, rfl, hc, ?_⟩
  rcases htk with h | ⟨t, rfl, h1, h2, h3⟩
  · exact .inl h
  · exact .inr ⟨t, rfl, h1, Nat.lt_succ_of_lt h2, by rw [AH.push_ne _ _ (by omega)]; exact h3⟩

end Rb

/- Package tale: lines of steps; plain. -/
set_option linter.unusedVariables false
set_option linter.unusedSimpArgs false
namespace Rb
open Go

/-! A number in digits is read again -/
theorem parse_app : ∀ (l r : List UInt8) (acc u : Nat), Go.Lib.parseUint10 acc l = .ok u → Go.Lib.parseUint10 acc (l ++ r) = Go.Lib.parseUint10 u r
  | [], r, acc, u, h => by
    simp only [Go.Lib.parseUint10] at h
    injection h with h
    subst h
    rfl
  | c :: l, r, acc, u, h => by
    rw [List.cons_append]
    simp only [Go.Lib.parseUint10] at h ⊢
    split at h
    · rename_i hc
      rw [if_pos hc]
      split at h
      · cases h
      · rename_i h1
        rw [if_neg h1]
        split at h
        · cases h
        · rename_i h2
          rw [if_neg h2]
          exact parse_app l r _ u h
    · cases h
theorem digit_byte {d : Nat} (h : d < 10) : (UInt8.ofNat (48 + d)).toNat = 48 + d := by
  rw [UInt8.toNat_ofNat']; omega
theorem parse_dec : ∀ (u : Nat), u < 18446744073709551616 → Go.Lib.parseUint10 0 (Go.Lib.decDigits u) = .ok u := by
  intro u
  induction u using Nat.strongRecOn with
  | _ u ih =>
    intro hu
    rw [Go.Lib.decDigits]
    split
    · rename_i h
      simp only [Go.Lib.parseUint10]
      rw [digit_byte h, if_pos (by omega), if_neg (by omega), if_neg (by omega)]
      congr 1; omega
    · rename_i h
      rw [parse_app _ _ _ _ (ih (u / 10) (by omega) (by omega))]
      simp only [Go.Lib.parseUint10]
      rw [digit_byte (by omega), if_pos (by omega), if_neg (by omega), if_neg (by omega)]
      congr 1; omega
theorem dec_head (u : Nat) : ∃ c r, Go.Lib.decDigits u = c :: r ∧ 48 ≤ c.toNat ∧ c.toNat ≤ 57 := by
  induction u using Nat.strongRecOn with
  | _ u ih =>
    rw [Go.Lib.decDigits]
    split
    · rename_i h
      exact ⟨_, [], rfl, by rw [digit_byte h]; omega, by rw [digit_byte h]; omega⟩
    · rename_i h
      obtain ⟨c, r, e, h1, h2⟩ := ih (u / 10) (by omega)
      exact ⟨c, r ++ _, by rw [e]; rfl, h1, h2⟩
theorem atoi_itoa {n : Int} (h0 : -9223372036854775808 ≤ n) (h1 : n ≤ 9223372036854775807) : Go.Lib.atoiAll (Go.Lib.itoa n) = .ok n := by
  unfold Go.Lib.itoa
  split
  · rename_i hn
    have hp := parse_dec n.natAbs (by omega)
    obtain ⟨c, r, e, _, _⟩ := dec_head n.natAbs
    unfold Go.Lib.atoiAll
    simp only
    have h45 : (45 : UInt8).toNat = 45 := rfl
    rw [h45]
    rw [if_pos (Or.inr rfl)]
    have hm : Go.Lib.parseMag (Go.Lib.decDigits n.natAbs) = .ok n.natAbs := by
      unfold Go.Lib.parseMag
      rw [if_neg (by rw [e]; simp), hp]
    rw [hm]
    simp only [not_true_eq_false, false_and, if_false, true_and, if_true]
    rw [if_neg (by omega)]
    all_goals (congr 1; omega)
  · rename_i hn
    have hp := parse_dec n.toNat (by omega)
    obtain ⟨c, r, e, c1, c2⟩ := dec_head n.toNat
    have hm : Go.Lib.parseMag (Go.Lib.decDigits n.toNat) = .ok n.toNat := by
      unfold Go.Lib.parseMag
      rw [if_neg (by rw [e]; simp), hp]
    rw [e] at hm ⊢
    unfold Go.Lib.atoiAll
    simp only
    rw [if_neg (by omega), hm]
    simp only
    rw [if_neg (by omega), if_neg (by omega), if_neg (by omega)]
    congr 1; omega
/-- No blank stands in a number. -/
theorem dec_dig : ∀ (u : Nat), ∀ c ∈ Go.Lib.decDigits u, c ≠ 32 ∧ c ≠ 10 := by
  intro u
  induction u using Nat.strongRecOn with
  | _ u ih =>
    intro c hc
    rw [Go.Lib.decDigits] at hc
    have one : ∀ d : Nat, d < 10 → UInt8.ofNat (48 + d) ≠ 32 ∧ UInt8.ofNat (48 + d) ≠ 10 := by
      intro d hd
      refine ⟨fun e => ?_, fun e => ?_⟩
      · have := congrArg UInt8.toNat e
        rw [digit_byte hd] at this
        have h2 : (32 : UInt8).toNat = 32 := rfl
        omega
      · have := congrArg UInt8.toNat e
        rw [digit_byte hd] at this
        have h2 : (10 : UInt8).toNat = 10 := rfl
        omega
    split at hc
    · rename_i h
      obtain rfl := List.mem_singleton.1 hc
      exact one u h
    · rename_i h
      rcases List.mem_append.1 hc with hc | hc
      · exact ih (u / 10) (by omega) c hc
      · obtain rfl := List.mem_singleton.1 hc
        exact one _ (by omega)
theorem itoa_dig {n : Int} : ∀ c ∈ Go.Lib.itoa n, c ≠ 32 ∧ c ≠ 10 := by
  intro c hc
  unfold Go.Lib.itoa at hc
  split at hc
  · rcases List.mem_cons.1 hc with rfl | hc
    · exact ⟨by decide, by decide⟩
    · exact dec_dig _ c hc
  · exact dec_dig _ c hc

/-! Words between blanks -/
def splitB : List UInt8 → List (List UInt8)
  | [] => [[]]
  | c :: r => if c = 32 then [] :: splitB r else match splitB r with
    | [] => [[c]]
    | w :: ws => (c :: w) :: ws
theorem splitB_ne (s : List UInt8) : splitB s ≠ [] := by
  cases s with
  | nil => simp [splitB]
  | cons c r =>
    unfold splitB
    split
    · simp
    · split <;> simp
theorem splitB_app : ∀ (w r : List UInt8), (∀ c ∈ w, c ≠ 32) → splitB (w ++ 32 :: r) = w :: splitB r
  | [], r, _ => by simp [splitB]
  | c :: w, r, h => by
    rw [List.cons_append, splitB, if_neg (h c (by simp)), splitB_app w r fun x hx => h x (by simp [hx])]
theorem splitB_one : ∀ (w : List UInt8), (∀ c ∈ w, c ≠ 32) → splitB w = [w]
  | [], _ => rfl
  | c :: w, h => by
    rw [splitB, if_neg (h c (by simp)), splitB_one w fun x hx => h x (by simp [hx])]

/-- Of a kind of step: its word, and how many numbers it has. -/
def stepW (k : Int) : List UInt8 × Int := if k = 1 then ([114, 117, 110], 2) else if k = 2 then ([102, 97, 105, 108], 1) else if k = 3 then ([97, 108, 108], 1) else ([], 0)
/-- A step as a line; none: there is none. -/
def lineM (k a b : Int) : Option (List UInt8) :=
  if k = 1 then some ([114, 117, 110] ++ 32 :: (Go.Lib.itoa a ++ 32 :: Go.Lib.itoa b))
  else if k = 2 then (if b = 0 then some ([102, 97, 105, 108] ++ 32 :: Go.Lib.itoa a) else none)
  else if k = 3 then (if b = 0 then some ([97, 108, 108] ++ 32 :: Go.Lib.itoa a) else none)
  else none
end Rb

/- The lines of a text; plain. -/
set_option linter.unusedVariables false
set_option linter.unusedSimpArgs false
namespace Rb
open Go

/-- The first line, with its end; and the rest. -/
def cutL : List UInt8 → List UInt8 × List UInt8
  | [] => ([], [])
  | c :: r => if c = 10 then ([c], r) else (c :: (cutL r).1, (cutL r).2)

theorem cutL_app : ∀ s : List UInt8, (cutL s).1 ++ (cutL s).2 = s
  | [] => rfl
  | c :: r => by
    unfold cutL
    split
    · rfl
    · simp [cutL_app r]
theorem cutL_lt : ∀ s : List UInt8, s ≠ [] → (cutL s).2.length < s.length
  | [], h => absurd rfl h
  | c :: r, _ => by
    unfold cutL
    split
    · simp
    · dsimp only
      by_cases hr : r = []
      · subst hr; simp [cutL]
      · have := cutL_lt r hr; simp; omega
theorem cutL_idx : ∀ s : List UInt8, (Go.Lib.indexByte s 10 = -1 ∧ cutL s = (s, [])) ∨ ∃ k : Nat, Go.Lib.indexByte s 10 = k ∧ k < s.length ∧ cutL s = (s.take (k + 1), s.drop (k + 1))
  | [] => .inl ⟨rfl, rfl⟩
  | c :: r => by
    unfold Go.Lib.indexByte cutL
    by_cases hc : c = 10
    · subst hc
      exact .inr ⟨0, by simp, by simp, by simp⟩
    · have hb : (c == 10) = false := by simpa using hc
      rw [hb, if_neg hc]
      simp only [Bool.false_eq_true, if_false]
      rcases cutL_idx r with ⟨h1, h2⟩ | ⟨k, h1, h2, h3⟩
      · left
        rw [h1, h2]
        exact ⟨by simp, rfl⟩
      · right
        refine ⟨k + 1, ?_, by simp; omega, ?_⟩
        · rw [h1]
          have : ((k : Int) == -1) = false := by
            rw [beq_eq_false_iff_ne]; omega
          rw [this]; simp
        · rw [h3]; simp

def linesN : Nat → List UInt8 → List (List UInt8)
  | 0, _ => []
  | n + 1, [] => []
  | n + 1, c :: r => (cutL (c :: r)).1 :: linesN n (cutL (c :: r)).2
/-- The lines. -/
def linesOf (s : List UInt8) : List (List UInt8) := linesN s.length s
theorem linesN_nil (n : Nat) : linesN n [] = [] := by cases n <;> rfl
theorem linesN_eq : ∀ (n m : Nat) (s : List UInt8), s.length ≤ n → s.length ≤ m → linesN n s = linesN m s
  | 0, m, s, h, _ => by
    obtain rfl : s = [] := List.length_eq_zero_iff.1 (by omega)
    rw [linesN_nil, linesN_nil]
  | n + 1, 0, s, _, h => by
    obtain rfl : s = [] := List.length_eq_zero_iff.1 (by omega)
    rw [linesN_nil, linesN_nil]
  | n + 1, m + 1, [], _, _ => rfl
  | n + 1, m + 1, c :: r, h1, h2 => by
    have hl := cutL_lt (c :: r) (by simp)
    simp only [linesN]
    rw [linesN_eq n m _ (by simp at h1 hl ⊢; omega) (by simp at h2 hl ⊢; omega)]
theorem linesOf_nil : linesOf [] = [] := rfl
theorem linesOf_cons {s : List UInt8} (h : s ≠ []) : linesOf s = (cutL s).1 :: linesOf (cutL s).2 := by
  cases s with
  | nil => exact absurd rfl h
  | cons c r =>
    have hl := cutL_lt (c :: r) (by simp)
    unfold linesOf
    show linesN (r.length + 1) (c :: r) = _
    rw [linesN, linesN_eq r.length _ _ (by simp at hl ⊢; omega) (Nat.le_refl _)]
end Rb

/- Calls into the library that the script's texts make: where a byte stands, how often. -/
set_option linter.unusedVariables false
set_option linter.unusedSimpArgs false
namespace Go.Proofs.YtgejcelgofmbgaaDoor.rb
open Rb Go.RowKit

set_option maxRecDepth 100000 in
theorem count_calls (s : ByteArray) (w : World) : Calls Tryd.prog 27 #[.string s, .string ⟨#[32]⟩] w fun e w' => e = .returned (.int .i64 (Go.Lib.countByte s.data.toList 32)) ∧ w' = w := by
  go_enter Tryd.func27, Tryd.ntmps27
  go_wp2
  rw [run_callFunc_extern Tryd.func42 (by kernel_rfl) (by kernel_rfl) (by kernel_rfl) (e := Extern.BytealgCount.count) (by kernel_rfl), Go.Lib.run_countString]
  simp only [Result.andThen]
  rw [Oper.upon_value]
  go_wp2
  refine bodyPost_ret (results_tmp rfl _ _ _) rfl ?_
  exact ⟨rfl, rfl⟩
set_option maxRecDepth 100000 in
theorem nl_calls (s : ByteArray) (w : World) : Calls Tryd.prog 23 #[.string s, .int .u8 10] w fun e w' => e = .returned (.int .i64 (Go.Lib.indexByte s.data.toList 10)) ∧ w' = w := by
  go_enter Tryd.func23, Tryd.ntmps23
  go_wp2
  rw [run_callFunc_extern Tryd.func47 (by kernel_rfl) (by kernel_rfl) (by kernel_rfl) (e := Extern.BytealgIndexByte.indexByte) (by kernel_rfl), Go.Lib.run_indexByteString]
  simp only [Result.andThen]
  rw [Oper.upon_value]
  go_wp2
  go_ret
  exact ⟨rfl, rfl⟩
set_option maxRecDepth 100000 in
theorem index_calls (s : ByteArray) (w : World) : Calls Tryd.prog 28 #[.string s, .string ⟨#[32]⟩] w fun e w' => e = .returned (.int .i64 (Go.Lib.indexByte s.data.toList 32)) ∧ w' = w := by
  go_enter Tryd.func28, Tryd.ntmps28
  have hsz : (⟨#[32]⟩ : ByteArray).size = 1 := rfl
  cases hb : ([32] == s.toList) with
  | true =>
    have hs : s.data.toList = [32] := by
      have := eq_of_beq hb
      rw [Lib.toList_data] at this
      exact this.symm
    go_wp2
    refine bodyPost_ret (results_tmp rfl _ _ _) rfl ?_
    exact ⟨by rw [hs]; rfl, rfl⟩
  | false =>
    go_wp2
    rw [run_callFunc_extern Tryd.func47 (by kernel_rfl) (by kernel_rfl) (by kernel_rfl) (e := Extern.BytealgIndexByte.indexByte) (by kernel_rfl), Go.Lib.run_indexByteString]
    simp only [Result.andThen]
    rw [Oper.upon_value]
    go_wp2
    refine bodyPost_ret (results_tmp rfl _ _ _) rfl ?_
    exact ⟨rfl, rfl⟩
end Go.Proofs.YtgejcelgofmbgaaDoor.rb

/- A loop over a function that keeps a variable of its own between the rounds: an own law, at the widest fence. -/
set_option linter.unusedVariables false
namespace Rb
open Go Go.RowKit

/-- What such a function does to the world between two rounds: the block b alone is turned (it holds cells), and new blocks come. -/
def Turn (b : Nat) (A B : World) : Prop := A.grownBy B (some b) ∧ ∃ o : Obj, A.heap[b]? = some o ∧ o.isCells = true
/-- What the rounds must leave to it. -/
def Left (b : Nat) (A B : World) : Prop := A.heap.size ≤ B.heap.size ∧ B.heap[b]? = A.heap[b]?
theorem Left.refl (b : Nat) (A : World) : Left b A A := ⟨Nat.le_refl _, rfl⟩
theorem Left.trans {b : Nat} {A B C : World} (h : Left b A B) (k : Left b B C) : Left b A C := ⟨Nat.le_trans h.1 k.1, k.2.trans h.2⟩
theorem Left.putObj {b : Nat} {W : World} {l : Nat} (o' : Obj) (hl : l < W.heap.size) (h : b ≠ l) : Left b W (W.putObj l o') := ⟨by simp, World.putObj_heap_other h⟩
theorem Left.alloc {b : Nat} {W : World} (o : Obj) (h : b < W.heap.size) : Left b W (W.alloc o) := ⟨by simp, Below.heap_alloc W o b h⟩

/-- The function's contract: it gives xs, one behind the other, whatever the rounds do that leaves its block. -/
def SeqTurns {α : Type} (n : Nat) (P : Program) (g : Nat) (lb : Array Value) (encs : α → Array Value) (b : Nat) (xs : List α) (w : World) : Prop :=
  ∀ (l : Nat) (J : List α → World → Prop) (W : World), Left b w W → (∀ s A B, J s A → Turn b A B → J s B) →
    (∀ pre x W1, J pre W1 → (pre ++ [x]) <+: xs → YieldAt Fence.wide (n - 1) P l (encs x) W1 fun e W' => e = .returned (.bool true) ∧ J (pre ++ [x]) W' ∧ Left b W1 W') →
    J [] W →
    CallsIn Fence.wide n P g (#[.func (.yield l) #[] #[]] ++ lb) W fun e W' => (∃ v, e = .returned v) ∧ J xs W'

theorem wpIn_rangeFunc_turns {α : Type} {P : Program} {n : Nat} {w : World} {g : Operand} {ps : Array Tmp} {assign body : Code} {Q : Exit → Act → World → Prop} {a : Act}
    (h1 : 1 ≤ n) {gf : Nat} {lb : Array Value} (hg : a.eval g = .func (.func gf) #[] lb) (eg : ∀ args w, (callFunc gf args).run P w = .ok (.enter gf args) w)
    {encs : α → Array Value} {b : Nat} {xs : List α} (hb : b < w.heap.size) (hseq : SeqTurns (n - 1) P gf lb encs b xs w) (hps : ∀ x, (encs x).size = ps.size)
    (I : List α → World → Prop) (hI : OwnFrom w.heap.size I) (hT : ∀ s A B, I s A → Turn b A B → I s B) (h0 : I [] w) (a₁ : α → Act)
    (hassign : ∀ (l : Nat) (x : α) (W : World) (K : Act → World → Prop), K (a₁ x) W →
      assign.wpIn (Fence.wide.inRound l) (n - 1 - 1) P (Exit.then K (fun _ _ _ => False)) { tmps := (ps.zip (encs x)).foldl (fun t (p, v) => t.setIfInBounds p v) a.tmps, defers := [] } W)
    (hbody : ∀ (l : Nat) (pre : List α) (x : α) (W : World), w.heap.size ≤ W.heap.size → I pre W → (pre ++ [x]) <+: xs →
      body.wpIn (Fence.wide.inRound l) (n - 1 - 1) P (fun e _ W' => e = .normal ∧ KeepsFrom w.heap.size W W' ∧ Left b W W' ∧ I (pre ++ [x]) W') (a₁ x) W)
    (hdone : ∀ (D : Nat) (W : World), w.heap.size ≤ D → I xs W → W.heap[D]? = some (.deferred (some [])) → Q .normal { a with defers := { target := .collected D, args := #[] } :: a.defers } W) :
    (Code.rangeFunc g ps assign body).wpIn Fence.wide n P Q a w := by
  refine wpIn_rangeFunc ?_
  intro fn hfn
  let rec0 : LoopState → Option Code → Loop := fun st pe => { state := st, pending := pe, fn, tmps := a.tmps, params := ps, assign, body, defers := w.heap.size }
  let W1 : World := (w.alloc (.deferred (some []))).alloc (.loop (rec0 .ready none))
  have hL1 : W1.heap[w.heap.size + 1]? = some (.loop (rec0 .ready none)) := by
    have := World.alloc_heap_new (w.alloc (.deferred (some []))) (.loop (rec0 .ready none))
    rwa [World.size_alloc] at this
  have hK1 : W1.heap[w.heap.size]? = some (.deferred (some [])) := (Below.heap_alloc _ _ _ (by simp)).trans (World.alloc_heap_new w _)
  have hI1 : I [] W1 := hI.alloc _ (hI.alloc _ h0)
  have hb1 : Left b w W1 := (Left.alloc _ hb).trans (Left.alloc _ (by simp; omega))
  have hsz1 : w.heap.size ≤ W1.heap.size := hb1.1
  refine ⟨w.heap.size + 1, [{ target := .collected w.heap.size, args := #[] }], W1, { target := .fn (.func gf) lb, args := #[.func (.yield (w.heap.size + 1)) #[] #[]] }, W1, gf,
    #[.func (.yield (w.heap.size + 1)) #[] #[]] ++ lb, W1, ?_, ?_, fun _ _ => trivial, ?_, fun _ => h1, ?_⟩
  · exact run_enterLoop_outer _ _ _ _ _
  · simp only [resolve, hg]
    simp [go_sem]
  · simp [invoke, go_sem, eg]
  · -- what a turn of the block leaves
    have turn : ∀ {A B : World} {k : Nat} {o : Obj}, Turn b A B → A.heap[k]? = some o → o.isCells = false → B.heap[k]? = some o := by
      intro A B k o ht hk ho
      obtain ⟨hgr, o', ho', hc⟩ := ht
      refine (hgr.block k (Array.getElem?_eq_some_iff.1 hk).1 (fun e => ?_)).trans hk
      cases e
      rw [hk] at ho'
      cases ho'
      rw [ho] at hc
      cases hc
    refine (hseq (w.heap.size + 1)
      (fun pre W => w.heap.size ≤ W.heap.size ∧ I pre W ∧ W.heap[w.heap.size + 1]? = some (.loop (rec0 .ready none)) ∧ W.heap[w.heap.size]? = some (.deferred (some [])))
      W1 hb1 (fun s A B hs ht => ⟨Nat.le_trans hs.1 ht.1.size, hT s A B hs.2.1 ht, turn ht hs.2.2.1 rfl, turn ht hs.2.2.2 rfl⟩) ?_ ⟨hsz1, hI1, hL1, hK1⟩).mono ?_
    · -- one round
      rintro pre x W ⟨hsz, hi, hl, hk⟩ hpx
      have hlt : w.heap.size + 1 < W.heap.size := (Array.getElem?_eq_some_iff.1 hl).1
      have hy := run_yield (P := P) (args := encs x) hl (hps x)
      refine ⟨fn, _, assign, body, hy, roundIn_of_wpIn hfn (hassign _ x W _ ?_)⟩
      refine ⟨_, run_beginRound hl rfl, ?_⟩
      have hl2 : (W.putObj (w.heap.size + 1) (.loop { rec0 .ready none with state := .busy })).heap[w.heap.size + 1]? = some (.loop { rec0 .ready none with state := .busy }) := World.putObj_heap_same hlt
      have hk2 : (W.putObj (w.heap.size + 1) (.loop { rec0 .ready none with state := .busy })).heap[w.heap.size]? = some (.deferred (some [])) := (World.putObj_heap_other (by omega)).trans hk
      have hw2 : Left b W (W.putObj (w.heap.size + 1) (.loop { rec0 .ready none with state := .busy })) := Left.putObj _ hlt (by omega)
      refine wpIn_mono (hbody _ pre x _ (by simp; omega) (hI.putObj _ hi (by omega) hl rfl) hpx) ?_
      rintro e a3 W3 ⟨rfl, hk3, hb3, hi3⟩
      have hl3 := hk3.same _ _ (by omega) hl2 rfl
      have hr := run_endRound (P := P) none hl3
      have hlt3 : w.heap.size + 1 < W3.heap.size := (Array.getElem?_eq_some_iff.1 hl3).1
      refine ⟨_, _, hr, rfl, ⟨by simp; omega, hI.putObj _ hi3 (by omega) hl3 rfl, World.putObj_heap_same hlt3, (World.putObj_heap_other (by omega)).trans (hk3.same _ _ (Nat.le_refl _) hk2 rfl)⟩, ?_⟩
      exact hw2.trans (hb3.trans (Left.putObj _ hlt3 (by omega)))
    · -- behind the function
      rintro e W2 ⟨⟨v, rfl⟩, hsz, hi, hl, hk⟩
      exact ⟨none, _, run_endLoop (P := P) hl (by simp [rec0]), hdone _ _ (Nat.le_refl _) (hI.putObj _ hi (by omega) hl rfl) ((World.putObj_heap_other (by omega)).trans hk)⟩
end Rb

/- strings.Lines's function: the lines, one behind the other. -/
set_option linter.unusedVariables false
set_option linter.unusedSimpArgs false
namespace Go.Proofs.YtgejcelgofmbgaaDoor.rb
open Go Go.Proofs Go.RowKit Go.Shelf Rb
attribute [local go_sem] Oper.semAt_some

def encB (x : List UInt8) : Array Value := #[.string ⟨x.toArray⟩]
def strSz (W : World) (b : Nat) : Nat := match W.cell? ⟨b, 0, none⟩ with | some (.string r) => r.size | _ => 0

theorem turn_set {W : World} {b : Nat} {t : TypeId} {v : Value} (u : Value) (h : Boxed W b t v) : Turn b W (W.setCell ⟨b, 0, none⟩ u) := ⟨grownBy_setCell' W b u, _, h, rfl⟩

set_option maxRecDepth 100000 in
set_option maxHeartbeats 4000000 in
theorem lines_seq (n : Nat) (hn : 1 ≤ n) (Bs : Nat) (s : ByteArray) (hlen : s.size ≤ 9223372036854775800) (W0 : World) (hB0 : Boxed W0 Bs 9 (.string s))
    (hIB : ∀ (r : ByteArray) (W : World), CallsIn Fence.wide (n - 1) Tryd.prog 23 #[.string r, .int .u8 10] W fun e W' => e = .returned (.int .i64 (Go.Lib.indexByte r.data.toList 10)) ∧ W' = W) :
    SeqTurns n Tryd.prog 22 #[.pointer (some ⟨Bs, 0, none⟩)] encB Bs (linesOf s.data.toList) W0 := by
  intro l J W hW hJT hY h0
  have hBW : Boxed W Bs 9 (.string s) := hW.2.trans hB0
  refine callsIn_of_wp Tryd.func22 rfl trivial ?_ rfl
  simp only [Tryd.ntmps22, List.size_toArray, List.length_cons, List.length_nil, Nat.reduceAdd, Nat.reduceSub, Array.replicate_succ, Array.replicate_zero, List.push_toArray, List.append_toArray, List.nil_append, List.cons_append]
  gi_wp2
  gi_loopw [] (fun wr => ∃ (r : ByteArray) (pre : List (List UInt8)), Boxed wr Bs 9 (.string r) ∧ r.size ≤ s.size ∧ pre ++ linesOf r.data.toList = linesOf s.data.toList ∧ J pre wr) (fun wr => strSz wr Bs)
  case atStart => exact ⟨s, [], hBW, Nat.le_refl _, rfl, h0⟩
  case round =>
    obtain ⟨r, pre, hb, hle, hpre, hj⟩ := hrel
    have hc := hb.cell
    have hfr := hb.frozen
    by_cases hsz : 0 < r.size
    · have hne : r.data.toList ≠ [] := by
        intro h
        have : r.data.toList.length = 0 := by rw [h]; rfl
        have h2 : r.data.toList.length = r.size := Array.length_toList
        omega
      have hlast : linesOf r.data.toList = (cutL r.data.toList).1 :: linesOf (cutL r.data.toList).2 := linesOf_cons hne
      gi_wp2
      refine ⟨trivial, (hIB r wr).mono ?_⟩
      rintro e W2 ⟨rfl, rfl⟩
      dsimp only
      rcases cutL_idx r.data.toList with ⟨hi, hcut⟩ | ⟨k, hi, hk, hcut⟩
      · have hpx : pre ++ [r.data.toList] <+: linesOf s.data.toList := by
          rw [← hpre, hlast, hcut]; exact ⟨linesOf [], by simp⟩
        obtain ⟨fn, tmps, assign, body, hy, hR⟩ := hY pre r.data.toList (W2.setCell ⟨Bs, 0, none⟩ (.string ⟨#[]⟩)) (hJT _ _ _ hj (turn_set _ hb)) hpx
        have hr : (⟨r.data.toList.toArray⟩ : ByteArray) = r := by cases r; simp
        rw [encB, hr] at hy
        rw [hi]
        gi_wp2
        refine hR.mono ?_
        rintro e W3 ⟨rfl, hJ3, hk3⟩
        have hb3 : Boxed W3 Bs 9 (.string ⟨#[]⟩) := hk3.2.trans (hb.set _)
        gi_wp2
        go_roundw
        case rel => exact ⟨⟨#[]⟩, _, hb3, Nat.zero_le _, by rw [← hpre, hlast, hcut]; simp [linesOf_nil], hJ3⟩
        case measure => simp only [strSz, hb3.cell, hc]; exact hsz
      · have hkr : k < r.size := by have h2 : r.data.toList.length = r.size := Array.length_toList; omega
        have hw : wrap64 ((k : Int) + 1) = (k : Int) + 1 := by unfold wrap64; omega
        rw [hi]
        have hr1 : r.extract 0 (k + 1) = ⟨(List.take (k + 1) r.data.toList).toArray⟩ := by rw [Lib.extract_eq]; simp
        have hr2 : (r.extract (k + 1) r.size).data.toList = (cutL r.data.toList).2 := by
          rw [hcut, Lib.extract_eq]
          have h2 : r.data.toList.length = r.size := Array.length_toList
          show List.take (r.size - (k + 1)) (List.drop (k + 1) r.data.toList) = _
          exact List.take_of_length_le (by rw [List.length_drop, h2]; exact Nat.le_refl _)
        have hT : Turn Bs W2 (W2.setCell ⟨Bs, 0, none⟩ (.string (r.extract (k + 1) r.size))).drew := by
          obtain ⟨hg, ho⟩ := turn_set (.string (r.extract (k + 1) r.size)) hb
          exact ⟨⟨hg.os, hg.tape, hg.output, hg.size, hg.block⟩, ho⟩
        have hpx : pre ++ [(cutL r.data.toList).1] <+: linesOf s.data.toList := by
          rw [← hpre, hlast]; exact ⟨linesOf (cutL r.data.toList).2, by simp⟩
        obtain ⟨fn, tmps, assign, body, hy, hR⟩ := hY pre (cutL r.data.toList).1 _ (hJT _ _ _ hj hT) hpx
        rw [encB, hcut] at hy
        dsimp only at hy
        have hlt := cutL_lt _ hne
        gi_wp2
        gi_region
        gi_wp2
        refine hR.mono ?_
        rintro e W3 ⟨rfl, hJ3, hk3⟩
        have hb3 : Boxed W3 Bs 9 (.string (r.extract (k + 1) r.size)) := hk3.2.trans (hb.set _)
        have hsz3 : (r.extract (k + 1) r.size).size < r.size := by
          have h1 : (r.extract (k + 1) r.size).data.toList.length = (r.extract (k + 1) r.size).size := Array.length_toList
          have h2 : r.data.toList.length = r.size := Array.length_toList
          rw [hr2] at h1; omega
        gi_wp2
        go_roundw
        case rel => exact ⟨_, _, hb3, by omega, by rw [← hpre, hlast, hr2]; simp, hJ3⟩
        case measure => simp only [strSz, hb3.cell, hc]; exact hsz3
    · gi_wp2
      go_end0
      have h0 : r.data.toList = [] := by
        have h2 : r.data.toList.length = r.size := Array.length_toList
        exact List.length_eq_zero_iff.1 (by omega)
      rw [h0, linesOf_nil, List.append_nil] at hpre
      rw [← hpre]
      exact ⟨⟨_, rfl⟩, hj⟩
end Go.Proofs.YtgejcelgofmbgaaDoor.rb

/- Lines of steps: words, and what a line says; plain. -/
set_option linter.unusedVariables false
set_option linter.unusedSimpArgs false
namespace Rb
open Go

theorem splitB_idx : ∀ s : List UInt8, (Go.Lib.indexByte s 32 = -1 ∧ splitB s = [s] ∧ s.count 32 = 0) ∨
    ∃ k : Nat, Go.Lib.indexByte s 32 = k ∧ k < s.length ∧ splitB s = s.take k :: splitB (s.drop (k + 1)) ∧ s.count 32 = (s.drop (k + 1)).count 32 + 1
  | [] => .inl ⟨rfl, rfl, rfl⟩
  | c :: r => by
    by_cases hc : c = 32
    · subst hc
      refine .inr ⟨0, ?_, by simp, ?_, by simp⟩
      · simp [Go.Lib.indexByte]
      · simp [splitB]
    · have hb : (c == 32) = false := by simpa using hc
      have hcnt : (c :: r).count 32 = r.count 32 := by rw [List.count_cons]; simp [hb]
      rcases splitB_idx r with ⟨h1, h2, h3⟩ | ⟨k, h1, h2, h3, h4⟩
      · left
        refine ⟨?_, ?_, hcnt.trans h3⟩
        · unfold Go.Lib.indexByte; rw [hb, h1]; rfl
        · rw [splitB, if_neg hc, h2]
      · right
        refine ⟨k + 1, ?_, by simp; omega, ?_, ?_⟩
        · unfold Go.Lib.indexByte
          rw [hb, h1]
          have : ((k : Int) == -1) = false := by rw [beq_eq_false_iff_ne]; omega
          simp only [this, Bool.false_eq_true, if_false]
          omega
        · rw [splitB, if_neg hc, h3]; simp
        · rw [hcnt, h4]; simp

/-- A step: its kind, and two numbers. -/
abbrev Stp : Type := Int × Int × Int
def lineS (x : Stp) : Option (List UInt8) := lineM x.1 x.2.1 x.2.2
/-- Its numbers are numbers of 64 bits. -/
def InR (x : Stp) : Prop := (-9223372036854775808 ≤ x.2.1 ∧ x.2.1 ≤ 9223372036854775807) ∧ -9223372036854775808 ≤ x.2.2 ∧ x.2.2 ≤ 9223372036854775807
/-- A line's words. -/
def wordsS (x : Stp) : List (List UInt8) := if x.1 = 1 then [[114, 117, 110], Go.Lib.itoa x.2.1, Go.Lib.itoa x.2.2] else if x.1 = 2 then [[102, 97, 105, 108], Go.Lib.itoa x.2.1] else [[97, 108, 108], Go.Lib.itoa x.2.1]

theorem itoa32 (n : Int) : ∀ c ∈ Go.Lib.itoa n, c ≠ 32 := fun c hc => (itoa_dig c hc).1
theorem lineS_kind {x : Stp} {s : List UInt8} (h : lineS x = some s) : x.1 = 1 ∨ (x.1 = 2 ∧ x.2.2 = 0) ∨ (x.1 = 3 ∧ x.2.2 = 0) := by
  unfold lineS lineM at h
  split at h
  · exact .inl ‹_›
  · split at h
    · split at h
      · exact .inr (.inl ⟨‹_›, ‹_›⟩)
      · cases h
    · split at h
      · split at h
        · exact .inr (.inr ⟨‹_›, ‹_›⟩)
        · cases h
      · cases h
theorem lineS_words {x : Stp} {s : List UInt8} (h : lineS x = some s) : splitB s = wordsS x := by
  rcases lineS_kind h with h1 | ⟨h1, h2⟩ | ⟨h1, h2⟩
  · simp only [lineS, lineM, h1, if_true, Option.some.injEq] at h
    subst h
    rw [splitB_app _ _ (by decide), splitB_app _ _ (itoa32 _), splitB_one _ (itoa32 _)]
    simp [wordsS, h1]
  · simp only [lineS, lineM, h1, h2] at h
    simp at h
    subst h
    rw [show (102 :: 97 :: 105 :: 108 :: 32 :: Go.Lib.itoa x.2.1 : List UInt8) = [102, 97, 105, 108] ++ 32 :: Go.Lib.itoa x.2.1 from rfl, splitB_app _ _ (by decide), splitB_one _ (itoa32 _)]
    simp [wordsS, h1]
  · simp only [lineS, lineM, h1, h2] at h
    simp at h
    subst h
    rw [show (97 :: 108 :: 108 :: 32 :: Go.Lib.itoa x.2.1 : List UInt8) = [97, 108, 108] ++ 32 :: Go.Lib.itoa x.2.1 from rfl, splitB_app _ _ (by decide), splitB_one _ (itoa32 _)]
    simp [wordsS, h1]

theorem itoa_inj {a b : Int} (ha : -9223372036854775808 ≤ a ∧ a ≤ 9223372036854775807) (hb : -9223372036854775808 ≤ b ∧ b ≤ 9223372036854775807) (h : Go.Lib.itoa a = Go.Lib.itoa b) : a = b := by
  have h1 := atoi_itoa ha.1 ha.2
  have h2 := atoi_itoa hb.1 hb.2
  rw [h, h2] at h1
  injection h1 with h1
  exact h1.symm
/-- A line is one step's alone. -/
theorem line_inj {x y : Stp} {s : List UInt8} (hx : InR x) (hy : InR y) (h : lineS x = some s) (k : lineS y = some s) : x = y := by
  have hw := (lineS_words h).symm.trans (lineS_words k)
  obtain ⟨x0, x1, x2⟩ := x
  obtain ⟨y0, y1, y2⟩ := y
  have kx := lineS_kind h
  have ky := lineS_kind k
  simp only at kx ky
  rcases kx with rfl | ⟨rfl, rfl⟩ | ⟨rfl, rfl⟩ <;> rcases ky with rfl | ⟨rfl, rfl⟩ | ⟨rfl, rfl⟩ <;> simp [wordsS] at hw
  · have e1 : x1 = y1 := itoa_inj hx.1 hy.1 hw.1
    have e2 : x2 = y2 := itoa_inj hx.2 hy.2 hw.2
    rw [e1, e2]
  · have e1 : x1 = y1 := itoa_inj hx.1 hy.1 hw
    rw [e1]
  · have e1 : x1 = y1 := itoa_inj hx.1 hy.1 hw
    rw [e1]
theorem lineS_len {x : Stp} {s : List UInt8} (hx : InR x) (h : lineS x = some s) : (∀ c ∈ s, c ≠ 10) ∧ s ≠ [] := by
  have dig : ∀ n : Int, ∀ c ∈ Go.Lib.itoa n, c ≠ 10 := fun n c hc => (itoa_dig c hc).2
  rcases lineS_kind h with h1 | ⟨h1, h2⟩ | ⟨h1, h2⟩
  · simp only [lineS, lineM, h1, if_true, Option.some.injEq] at h
    subst h
    refine ⟨fun c hc => ?_, by simp⟩
    simp only [List.mem_append, List.mem_cons, List.not_mem_nil, or_false] at hc
    rcases hc with (rfl | rfl | rfl) | rfl | hc | rfl | hc
    · decide
    · decide
    · decide
    · decide
    · exact dig _ c hc
    · decide
    · exact dig _ c hc
  · simp only [lineS, lineM, h1, h2] at h
    simp at h
    subst h
    refine ⟨fun c hc => ?_, by simp⟩
    simp only [List.mem_cons] at hc
    rcases hc with rfl | rfl | rfl | rfl | rfl | hc
    · decide
    · decide
    · decide
    · decide
    · decide
    · exact dig _ c hc
  · simp only [lineS, lineM, h1, h2] at h
    simp at h
    subst h
    refine ⟨fun c hc => ?_, by simp⟩
    simp only [List.mem_cons] at hc
    rcases hc with rfl | rfl | rfl | rfl | hc
    · decide
    · decide
    · decide
    · decide
    · exact dig _ c hc
/-- A number in digits is short. -/
theorem itoa_short {n : Int} (h0 : -9223372036854775808 ≤ n) (h1 : n ≤ 9223372036854775807) : (Go.Lib.itoa n).length ≤ 40 := by
  have dec : ∀ (k u : Nat), u < 10 ^ k → 0 < k → (Go.Lib.decDigits u).length ≤ k := by
    intro k
    induction k with
    | zero => intro u _ h; omega
    | succ k ih =>
      intro u hu _
      rw [Go.Lib.decDigits]
      split
      · simp
      · rename_i hge
        rcases Nat.eq_zero_or_pos k with rfl | hk
        · simp at hu; omega
        · have := ih (u / 10) (by rw [Nat.pow_succ] at hu; omega) hk
          simp; omega
  unfold Go.Lib.itoa
  split
  · have := dec 20 n.natAbs (by omega) (by omega)
    simp; omega
  · have := dec 20 n.toNat (by omega) (by omega)
    omega
end Rb
