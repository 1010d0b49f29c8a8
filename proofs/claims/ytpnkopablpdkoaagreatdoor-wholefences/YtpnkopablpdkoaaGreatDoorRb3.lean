/- A part of the proof (part 3): see the last text. -/
import Derived.Test.YtpnkopablpdkoaaGreatDoorRb2
/- What code means, with the slots' values kept by what was written last: quicker to reckon with. -/
set_option linter.unusedVariables false
set_option linter.unusedSimpArgs false
namespace Rb
open Go
noncomputable section

/-- Slots' values, the last written first. -/
abbrev EV := List (Nat × AV)

def eget (E : EV) (t : Nat) : AV := List.rec (motive := fun _ => AV) .bot (fun p _ ih => cond (Nat.beq p.1 t) p.2 ih) E
def eset (n : Nat) (E : EV) (t : Nat) (v : AV) : EV := cond (Nat.blt t n) ((t, v) :: E) E
def esetd (n : Nat) (E : EV) (d : Option Nat) (v : AV) : EV :=
  match d with
  | some t => eset n E t v
  | none => E

theorem nbeq (a b : Nat) : Nat.beq a b = decide (a = b) := by rw [Bool.eq_iff_iff]; simp
theorem nblt (a b : Nat) : Nat.blt a b = decide (a < b) := by rw [Bool.eq_iff_iff]; simp [Nat.blt]; omega

theorem eget_cons (t : Nat) (v : AV) (E : EV) (i : Nat) : eget ((t, v) :: E) i = if t = i then v else eget E i := by
  show cond (Nat.beq t i) v (eget E i) = _
  rw [nbeq, cond_eq_ite]; simp

/-- The same values as slots have. -/
def Agree (n : Nat) (E : EV) (env : Env) : Prop := env.length = n ∧ ∀ i, eget E i = env.getD i .bot

theorem Agree.set {n : Nat} {E : EV} {env : Env} (h : Agree n E env) (t : Nat) (v : AV) : Agree n (eset n E t v) (env.set t v) := by
  refine ⟨by simp [h.1], fun i => ?_⟩
  unfold eset
  rw [nblt, cond_eq_ite]
  by_cases ht : t < n
  · rw [if_pos (by simpa using ht), eget_cons]
    rw [List.getD_eq_getElem?_getD, List.getElem?_set]
    by_cases e : t = i
    · rw [if_pos e, if_pos e, if_pos (by rw [h.1]; exact ht)]; rfl
    · rw [if_neg e, if_neg e, ← List.getD_eq_getElem?_getD]; exact h.2 i
  · rw [if_neg (by simpa using ht), List.set_eq_of_length_le (by rw [h.1]; omega)]
    exact h.2 i
theorem Agree.setd {n : Nat} {E : EV} {env : Env} (h : Agree n E env) (d : Option Nat) (v : AV) : Agree n (esetd n E d v) (Rb.setd env d v) := by
  cases d with
  | none => exact h
  | some t => exact h.set t v

def einit : List AV → Nat → EV
  | [], _ => []
  | a :: r, i => (i, a) :: einit r (i + 1)

theorem einit_get : ∀ (args : List AV) (i j : Nat), eget (einit args i) j = if j < i then .bot else args.getD (j - i) .bot
  | [], i, j => by simp [einit, eget]
  | a :: r, i, j => by
    rw [einit, eget_cons, einit_get r (i + 1) j]
    by_cases h : i = j
    · subst h; simp
    · rw [if_neg h]
      by_cases h2 : j < i
      · rw [if_pos (by omega), if_pos h2]
      · rw [if_neg (by omega), if_neg h2, show j - i = (j - (i + 1)) + 1 by omega]; simp

def Opd.sub (E : EV) : Opd → Opd
  | .t n => .k (eget E n)
  | .k v => .k v
theorem sub_ev {n : Nat} {E : EV} {env : Env} (h : Agree n E env) (x : Opd) : (x.sub E).ev [] = x.ev env := by
  cases x with
  | t i => exact h.2 i
  | k v => rfl

/-- Operands replaced by their values. -/
def AOp.sub (E : EV) : AOp → AOp
  | .mv x => .mv (x.sub E)
  | .pick c a b => .pick (c.sub E) (a.sub E) (b.sub E)
  | .bin op x y => .bin op (x.sub E) (y.sub E)
  | .beq neg x y => .beq neg (x.sub E) (y.sub E)
  | .isnil k neg x => .isnil k neg (x.sub E)
  | .eqagg neg ks x y => .eqagg neg ks (x.sub E) (y.sub E)
  | .un op x => .un op (x.sub E)
  | .conv k x => .conv k (x.sub E)
  | .same x => .same (x.sub E)
  | .nilck x => .nilck (x.sub E)
  | .field off sz agg x => .field off sz agg (x.sub E)
  | .idx l sz agg x i => .idx l sz agg (x.sub E) (i.sub E)
  | .idxs x i => .idxs (x.sub E) (i.sub E)
  | .faddr off x => .faddr off (x.sub E)
  | .iaddr arr sz x i => .iaddr arr sz (x.sub E) (i.sub E)
  | .slice sz x lo hi mx => .slice sz (x.sub E) (lo.map (Opd.sub E)) (hi.map (Opd.sub E)) (mx.map (Opd.sub E))
  | .sslice x lo hi => .sslice (x.sub E) (lo.map (Opd.sub E)) (hi.map (Opd.sub E))
  | .mkif t x => .mkif t (x.sub E)
  | .mkfn key caps => .mkfn key (caps.map (Opd.sub E))
  | .extract i x => .extract i (x.sub E)
  | .build zero parts => .build zero (parts.map fun p => (p.1, p.2.1, p.2.2.sub E))
  | .len str x => .len str (x.sub E)
  | .lenk n => .lenk n
  | .cap x => .cap (x.sub E)
  | .minmax mx xs => .minmax mx (xs.map (Opd.sub E))
  | .load n agg x => .load n agg (x.sub E)
  | .store n x v => .store n (x.sub E) (v.sub E)
  | .box mu n x => .box mu n (x.sub E)
  | .alloc mu zero => .alloc mu zero
  | .bslice mu sz l zero parts => .bslice mu sz l zero (parts.map fun p => (p.1, p.2.1, p.2.2.sub E))
  | .append mu sz bytes x y => .append mu sz bytes (x.sub E) (y.sub E)
  | .make mu sz bytes zero l c => .make mu sz bytes zero (l.sub E) (c.sub E)
  | .copy sz x y => .copy sz (x.sub E) (y.sub E)
  | .mkmap => .mkmap
  | .lookup kk zero ok m k => .lookup kk zero ok (m.sub E) (k.sub E)
  | .mapup kk m k v => .mapup kk (m.sub E) (k.sub E) (v.sub E)
  | .delete kk m k => .delete kk (m.sub E) (k.sub E)
  | .maplen m => .maplen (m.sub E)
  | .sbytes x => .sbytes (x.sub E)
  | .bstr x => .bstr (x.sub E)
  | .srange x => .srange (x.sub E)
  | .snext x => .snext (x.sub E)
  | .call key args => .call key (args.map (Opd.sub E))
  | .callv f args => .callv (f.sub E) (args.map (Opd.sub E))
  | .ext e xs => .ext e (xs.map (Opd.sub E))
  | .inv tbl x args => .inv tbl (x.sub E) (args.map (Opd.sub E))

theorem opSem_sub {n : Nat} {E : EV} {env : Env} (h : Agree n E env) {Φ : Calls'} {H : AH} {K : Post} (op : AOp) : opSem Φ [] H K (op.sub E) = opSem Φ env H K op := by
  have h1 := sub_ev h
  have hl : ∀ xs : List Opd, evs [] (xs.map (Opd.sub E)) = evs env xs := fun xs => by
    simp only [evs, List.map_map]; congr 1; funext x; exact h1 x
  have hp : ∀ xs : List (Nat × Nat × Opd), evps [] (xs.map fun p => (p.1, p.2.1, p.2.2.sub E)) = evps env xs := fun xs => by
    simp only [evps, List.map_map]; congr 1; funext x; simp [h1]
  have ho : ∀ x : Option Opd, (x.map (Opd.sub E)).map (Opd.ev []) = x.map (Opd.ev env) := fun x => by
    cases x <;> simp [h1]
  cases op <;> simp only [AOp.sub, opSem, h1, hl, hp, ho]

/-! What code means -/
abbrev EPostE := EV → AH → Prop

def regE (Φ : Calls') (n : Nat) : List AOper → EV → AH → EPostE → Prop
  | [], E, H, K => K E H
  | o :: r, E, H, K =>
    match o.guard with
    | none => opSem Φ [] H (fun v H' => regE Φ n r (esetd n E o.dst v) H' K) (o.op.sub E)
    | some (s, want) =>
      Gd3 (eget E s) want (opSem Φ [] H (fun v H' => regE Φ n r (esetd n (eset n E s (.bool want)) o.dst v) H' K) (o.op.sub (eset n E s (.bool want))))
        (regE Φ n r (esetd n (eset n E s (.bool !want)) o.dst (.tup [])) H K) (regE Φ n r (esetd n (eset n E s (.tup [])) o.dst (.tup [])) H K)

theorem Gd3.imp {v : AV} {want : Bool} {A B C A' B' C' : Prop} (hA : A → A') (hB : B → B') (hC : C → C') (h : Gd3 v want A B C) : Gd3 v want A' B' C' := by
  unfold Gd3 at *
  split at h
  · split at h
    · rename_i hh; simp [hh, hA h]
    · rename_i hh; simp [hh, hB h]
  · exact hC h
  · exact h.elim

/-- Calls may be asked less. -/
def MonoC (Φ : Calls') : Prop := Mono Φ

theorem regE_sound {Φ : Calls'} (hΦ : Mono Φ) {n : Nat} : ∀ {l : List AOper} {E : EV} {env : Env} {H : AH} {K : EPostE} {Q : Env → AH → Prop}, Agree n E env → regE Φ n l E H K → (∀ E' env' H', Agree n E' env' → K E' H' → Q env' H') → regSem Φ l env H Q := by
  intro l
  induction l with
  | nil => intro E env H K Q ha h hK; exact hK _ _ _ ha h
  | cons o r ih =>
    intro E env H K Q ha h hK
    simp only [regE] at h
    simp only [regSem]
    cases hg : o.guard with
    | none =>
      rw [hg] at h
      dsimp only at h ⊢
      rw [opSem_sub ha] at h
      exact opSem_mono hΦ (fun v H' h => ih (ha.setd _ _) h hK) h
    | some g =>
      obtain ⟨s, want⟩ := g
      rw [hg] at h
      dsimp only at h ⊢
      rw [ha.2 s, opSem_sub (ha.set s _)] at h
      exact Gd3.imp (opSem_mono hΦ fun v H' h => ih ((ha.set _ _).setd _ _) h hK) (fun h => ih ((ha.set _ _).setd _ _) h hK) (fun h => ih ((ha.set _ _).setd _ _) h hK) h

def oneE (Φ : Calls') (n : Nat) (o : AOper) (E : EV) (H : AH) (K : EPostE) : Prop :=
  match o.guard with
  | none => opSem Φ [] H (fun v H' => K (esetd n E o.dst v) H') (o.op.sub E)
  | some (s, want) =>
    Gd3 (eget E s) want (opSem Φ [] H (fun v H' => K (esetd n (eset n E s (.bool want)) o.dst v) H') (o.op.sub (eset n E s (.bool want))))
      (K (esetd n (eset n E s (.bool !want)) o.dst (.tup [])) H) (K (esetd n (eset n E s (.tup [])) o.dst (.tup [])) H)

theorem oneE_sound {Φ : Calls'} (hΦ : Mono Φ) {n : Nat} {o : AOper} {E : EV} {env : Env} {H : AH} {K : EPostE} {Q : Env → AH → Prop} (ha : Agree n E env) (h : oneE Φ n o E H K) (hK : ∀ E' env' H', Agree n E' env' → K E' H' → Q env' H') : oneSem Φ o env H Q := by
  unfold oneE at h
  unfold oneSem
  cases hg : o.guard with
  | none =>
    rw [hg] at h
    dsimp only at h ⊢
    rw [opSem_sub ha] at h
    exact opSem_mono hΦ (fun v H' h => hK _ _ _ (ha.setd _ _) h) h
  | some g =>
    obtain ⟨s, want⟩ := g
    rw [hg] at h
    dsimp only at h ⊢
    rw [ha.2 s, opSem_sub (ha.set s _)] at h
    exact Gd3.imp (opSem_mono hΦ fun v H' h => hK _ _ _ ((ha.set _ _).setd _ _) h) (fun h => hK _ _ _ ((ha.set _ _).setd _ _) h) (fun h => hK _ _ _ ((ha.set _ _).setd _ _) h) h

def segE (Φ : Calls') (n : Nat) (ops : List AOper) : List Nat → EV → AH → EPostE → Prop
  | [], E, H, K => K E H
  | i :: r, E, H, K => match ops[i]? with
    | some o => oneE Φ n o E H fun E' H' => segE Φ n ops r E' H' K
    | none => False

theorem segE_sound {Φ : Calls'} (hΦ : Mono Φ) {n : Nat} {ops : List AOper} : ∀ {l : List Nat} {E : EV} {env : Env} {H : AH} {K : EPostE} {Q : Env → AH → Prop}, Agree n E env → segE Φ n ops l E H K → (∀ E' env' H', Agree n E' env' → K E' H' → Q env' H') → segSem Φ ops l env H Q := by
  intro l
  induction l with
  | nil => intro E env H K Q ha h hK; exact hK _ _ _ ha h
  | cons i r ih =>
    intro E env H K Q ha h hK
    simp only [segE] at h
    simp only [segSem]
    split at h
    · rename_i o ho
      rw [ho]
      exact oneE_sound hΦ ha h fun E' env' H' ha' h' => ih ha' h' hK
    · exact h.elim

def SameE (E : EV) (H : AH) (o : AOper) : Prop :=
  match o.op with
  | .load n agg x => aload H n agg ((x.sub E).ev []) = some (eget E (o.dst.getD 0))
  | .lookup kk zero ok m k => alookup H kk zero ok ((m.sub E).ev []) ((k.sub E).ev []) = some (eget E (o.dst.getD 0))
  | .maplen m => amaplen H ((m.sub E).ev []) = some (eget E (o.dst.getD 0))
  | .bstr x => abstr H ((x.sub E).ev []) = some (eget E (o.dst.getD 0))
  | _ => True

def SameGE (E : EV) (H : AH) (o : AOper) : Prop :=
  match o.guard with
  | none => SameE E H o
  | some (s, want) => eget E s = .bool want → SameE E H o

theorem SameGE_sound {n : Nat} {E : EV} {env : Env} (ha : Agree n E env) {H : AH} {o : AOper} (h : SameGE E H o) : SameG env H o := by
  have h1 := sub_ev ha
  have fin : SameE E H o → Same env H o := by
    unfold SameE Same
    intro h
    cases ho : o.op <;> rw [ho] at h <;> dsimp only at h ⊢ <;> (try rw [h1] at h) <;> (try rw [h1] at h) <;> (try rw [ha.2] at h) <;> exact h
  unfold SameGE at h
  unfold SameG
  cases hg : o.guard with
  | none => rw [hg] at h; exact fin h
  | some g =>
    obtain ⟨s, want⟩ := g
    rw [hg] at h
    dsimp only at h ⊢
    rw [ha.2] at h
    exact fun hs => fin (h hs)

def samesE (ops : List AOper) (E : EV) (H : AH) (X : Prop) : List Nat → Prop
  | [] => X
  | l :: r => (match ops[l]? with | some o => SameGE E H o | none => True) ∧ samesE ops E H X r

theorem samesE_sound {n : Nat} {E : EV} {env : Env} (ha : Agree n E env) {ops : List AOper} {H : AH} {X Y : Prop} (hX : X → Y) : ∀ {l : List Nat}, samesE ops E H X l → sames ops env H Y l := by
  intro l
  induction l with
  | nil => intro h; exact hX h
  | cons i r ih =>
    intro h
    refine ⟨?_, ih h.2⟩
    have h1 := h.1
    cases ho : ops[i]? with
    | none => trivial
    | some o => rw [ho] at h1; exact SameGE_sound ha h1

def drawE (Φ : Calls') (n : Nat) (ops : List AOper) (last : List Nat) : List (List Nat × Nat × List Nat) → EV → AH → EPostE → Prop
  | [], E, H, K => segE Φ n ops last E H K
  | (seg, e, st) :: r, E, H, K => segE Φ n ops seg E H fun E1 H1 => match ops[e]? with
    | some o => oneE Φ n o E1 H1 fun E2 H2 => samesE ops E1 H2 (drawE Φ n ops last r E2 H2 K) st
    | none => False

theorem sames_imp {ops : List AOper} {env : Env} {H : AH} {X Y : Prop} (hX : X → Y) : ∀ {l : List Nat}, sames ops env H X l → sames ops env H Y l
  | [], h => hX h
  | _ :: _, h => ⟨h.1, sames_imp hX h.2⟩

theorem drawE_sound {Φ : Calls'} (hΦ : Mono Φ) {n : Nat} {ops : List AOper} {last : List Nat} : ∀ {plan : List (List Nat × Nat × List Nat)} {E : EV} {env : Env} {H : AH} {K : EPostE} {Q : Env → AH → Prop}, Agree n E env → drawE Φ n ops last plan E H K → (∀ E' env' H', Agree n E' env' → K E' H' → Q env' H') → drawSem Φ ops last plan env H Q := by
  intro plan
  induction plan with
  | nil => intro E env H K Q ha h hK; exact segE_sound hΦ ha h hK
  | cons p r ih =>
    obtain ⟨seg, e, st⟩ := p
    intro E env H K Q ha h hK
    simp only [drawE] at h
    simp only [drawSem]
    refine segE_sound hΦ ha h fun E1 e1 H1 ha1 h1 => ?_
    cases ho : ops[e]? with
    | none => rw [ho] at h1; exact h1.elim
    | some o =>
      rw [ho] at h1
      exact oneE_sound hΦ ha1 h1 fun E2 e2 H2 ha2 h2 => samesE_sound ha1 (fun h => ih ha2 h hK) h2

def egets (E : EV) (vs : List Nat) : List AV := vs.map fun t => eget E t
def ekills (n : Nat) (E : EV) : List Nat → EV
  | [] => E
  | t :: r => ekills n (eset n E t .bot) r
def eputs (n : Nat) (E : EV) : List Nat → List AV → EV
  | t :: r, s => eputs n (eset n E t (s.headD .bot)) r s.tail
  | [], _ => E

theorem Agree.gets {n : Nat} {E : EV} {env : Env} (h : Agree n E env) (vs : List Nat) : egets E vs = Rb.gets env vs := by
  simp only [egets, Rb.gets]; congr 1; funext t; exact h.2 t
theorem Agree.kills {n : Nat} : ∀ (ks : List Nat) {E : EV} {env : Env}, Agree n E env → Agree n (ekills n E ks) (Rb.kills env ks)
  | [], _, _, h => h
  | t :: r, _, _, h => Agree.kills r (h.set t _)
theorem Agree.puts {n : Nat} : ∀ (vs : List Nat) (st : List AV) {E : EV} {env : Env}, Agree n E env → Agree n (eputs n E vs st) (Rb.puts env vs st)
  | [], _, _, _, h => h
  | t :: r, st, _, _, h => Agree.puts r st.tail (h.set t _)

def codeE (Φ : Calls') (n : Nat) : ACode → EV → AH → (AExit → EV → AH → Prop) → Prop
  | .skip, E, H, Q => Q .normal E H
  | .region ops, E, H, Q => regE Φ n ops E H (Q .normal)
  | .draw ops _ plan last, E, H, Q => drawE Φ n ops last plan E H (Q .normal)
  | .seq a b, E, H, Q => codeE Φ n a E H fun e E' H' => match e with
    | .normal => codeE Φ n b E' H' Q
    | e => Q e E' H'
  | .join vs ks a b, E, H, Q => codeE Φ n a E H fun e E' H' => match e with
    | .normal => JoinP (fun st H'' => codeE Φ n b (eputs n (ekills n E ks) vs st) H'' Q) (egets E' vs) H'
    | e => Q e E' H'
  | .cond x a b, E, H, Q => Gd ((x.sub E).ev []) true (codeE Φ n a E H Q) (codeE Φ n b E H Q)
  | .block id a, E, H, Q => codeE Φ n a E H fun e E' H' => match e with
    | .exit id' => if id' = id then Q .normal E' H' else Q (.exit id') E' H'
    | e => Q e E' H'
  | .loop vs ks a, E, H, Q =>
    LoopP (fun (s : List AV × AH) (K : List AV × AH → Prop) =>
      codeE Φ n a (eputs n (ekills n E ks) vs s.1) s.2 fun e E' H' => match e with
        | .normal => K (egets E' vs, H')
        | e => Q e E' H') (egets E vs, H)
  | .exit id, E, H, Q => Q (.exit id) E H
  | .ret, E, H, Q => Q .ret E H
  | .freeze t a, E, H, Q => DoH (afreeze H (eget E t)) fun v H' => codeE Φ n a (eset n E t v) H' Q
  | .rjoin vs ks ops b, E, H, Q => regE Φ n ops E H fun E' H' => JoinP (fun st H'' => codeE Φ n b (eputs n (ekills n E ks) vs st) H'' Q) (egets E' vs) H'

theorem LoopP.imp {σ : Type} {F F' : σ → (σ → Prop) → Prop} (hF : ∀ s K, F s K → F' s K) {s : σ} (h : LoopP F s) : LoopP F' s :=
  fun I hI => h I fun s K hs hK => hI s K (hF s K hs) hK

theorem codeE_sound {Φ : Calls'} (hΦ : Mono Φ) {n : Nat} : ∀ {c : ACode} {E : EV} {env : Env} {H : AH} {K : AExit → EV → AH → Prop} {Q : AExit → Env → AH → Prop}, Agree n E env → codeE Φ n c E H K → (∀ x E' env' H', Agree n E' env' → K x E' H' → Q x env' H') → codeSem Φ c env H Q := by
  intro c
  induction c with
  | skip => intro E env H K Q ha h hK; exact hK _ _ _ _ ha h
  | region ops => intro E env H K Q ha h hK; exact regE_sound hΦ ha h fun _ _ _ ha h => hK _ _ _ _ ha h
  | draw ops pr plan last => intro E env H K Q ha h hK; exact drawE_sound hΦ ha h fun _ _ _ ha h => hK _ _ _ _ ha h
  | seq a b iha ihb =>
    intro E env H K Q ha h hK
    simp only [codeE] at h
    simp only [codeSem]
    refine iha ha h fun x E' e' H' ha' h' => ?_
    cases x with
    | normal => exact ihb ha' h' hK
    | exit i => exact hK _ _ _ _ ha' h'
    | ret => exact hK _ _ _ _ ha' h'
  | join vs ks a b iha ihb =>
    intro E env H K Q ha h hK
    simp only [codeE] at h
    simp only [codeSem]
    refine iha ha h fun x E' e' H' ha' h' => ?_
    cases x with
    | normal =>
      dsimp only at h' ⊢
      rw [ha'.gets vs] at h'
      exact ihb ((ha.kills ks).puts vs _) h' hK
    | exit i => exact hK _ _ _ _ ha' h'
    | ret => exact hK _ _ _ _ ha' h'
  | cond x a b iha ihb =>
    intro E env H K Q ha h hK
    simp only [codeE, sub_ev ha] at h
    exact Gd.mono (fun h => iha ha h hK) (fun h => ihb ha h hK) h
  | block id a ih =>
    intro E env H K Q ha h hK
    simp only [codeE] at h
    simp only [codeSem]
    refine ih ha h fun x E' e' H' ha' h' => ?_
    cases x with
    | normal => exact hK _ _ _ _ ha' h'
    | exit i =>
      dsimp only at h' ⊢
      split
      · rename_i hi; rw [if_pos hi] at h'; exact hK _ _ _ _ ha' h'
      · rename_i hi; rw [if_neg hi] at h'; exact hK _ _ _ _ ha' h'
    | ret => exact hK _ _ _ _ ha' h'
  | loop vs ks a ih =>
    intro E env H K Q ha h hK
    simp only [codeE] at h
    simp only [codeSem]
    rw [ha.gets vs] at h
    refine LoopP.imp (fun s K' hs => ih ((ha.kills ks).puts vs s.1) hs fun x E' e' H' ha' h' => ?_) h
    cases x with
    | normal => dsimp only at h' ⊢; rw [← ha'.gets vs]; exact h'
    | exit i => exact hK _ _ _ _ ha' h'
    | ret => exact hK _ _ _ _ ha' h'
  | exit id => intro E env H K Q ha h hK; exact hK _ _ _ _ ha h
  | ret => intro E env H K Q ha h hK; exact hK _ _ _ _ ha h
  | freeze t a ih =>
    intro E env H K Q ha h hK
    simp only [codeE] at h
    simp only [codeSem]
    rw [ha.2 t] at h
    exact DoH.mono (fun v H' h' => ih (ha.set t v) h' hK) h
  | rjoin vs ks ops b ih =>
    intro E env H K Q ha h hK
    simp only [codeE] at h
    simp only [codeSem]
    refine regE_sound hΦ ha h fun E' e' H' ha' h' => ?_
    rw [ha'.gets vs] at h'
    exact ih ((ha.kills ks).puts vs _) h' hK

def resE (E : EV) (H : AH) : List ARes → (List AV → Prop) → Prop
  | [], K => K []
  | .tmp t :: r, K => resE E H r fun vs => K (eget E t :: vs)
  | .cell t n agg :: r, K => Do (aload H n agg (eget E t)) fun v => resE E H r fun vs => K (v :: vs)

theorem resE_eq {n : Nat} {E : EV} {env : Env} (ha : Agree n E env) {H : AH} : ∀ {rs : List ARes} {K : List AV → Prop}, resE E H rs K = resSem env H rs K := by
  intro rs
  induction rs with
  | nil => intro K; rfl
  | cons r rs ih =>
    intro K
    cases r with
    | tmp t => simp only [resE, resSem, ih, ha.2]
    | cell t n agg => simp only [resE, resSem, ih, ha.2]

/-- What a function does. -/
def fnE1 (Φ : Calls') (f : AFunc) (args : List AV) (H : AH) (Q : Post) : Prop :=
  codeE Φ f.ntmps f.body (einit args 0) H fun e E H' => match e with
    | .exit _ => False
    | _ => resE E H' f.results fun vs => Q (oneRes vs) H'
def fnE (Φ : Calls') (f : AFunc) (args : List AV) (H : AH) (Q : Post) : Prop := args.length ≤ f.ntmps ∧ fnE1 Φ f args H Q

theorem fnE_sound {Φ : Calls'} (hΦ : Mono Φ) {f : AFunc} {args : List AV} {H : AH} {Q : Post} (h : fnE Φ f args H Q) : fnSem Φ f args H Q := by
  have ha : Agree f.ntmps (einit args 0) (args ++ List.replicate (f.ntmps - args.length) .bot) := by
    refine ⟨by simp; have := h.1; omega, fun i => ?_⟩
    rw [einit_get]
    simp only [Nat.not_lt_zero, if_false, Nat.sub_zero]
    simp only [List.getD_eq_getElem?_getD]
    by_cases hi : i < args.length
    · rw [List.getElem?_append_left hi]
    · rw [List.getElem?_append_right (by omega), List.getElem?_eq_none (by omega), List.getElem?_replicate]
      split <;> rfl
  refine codeE_sound hΦ ha h.2 fun x E' e' H' ha' h' => ?_
  cases x with
  | normal => dsimp only at h' ⊢; rw [resE_eq ha'] at h'; exact h'
  | exit i => exact h'
  | ret => dsimp only at h' ⊢; rw [resE_eq ha'] at h'; exact h'
end
end Rb

/- Runs that answer yes or no: what an operation, a piece of code, a function does to a tree of memory, and the answer of what comes behind. -/
set_option linter.unusedVariables false
set_option linter.unusedSimpArgs false
namespace Rb
open Go

/-- A call of a function's value. -/
def clB (Φ : CallsB) (f : AV) (args : List AV) (T : TH) (K : PostB) : Bool :=
  match f with
  | .fn key caps => Φ (fkey key) (fargs key args caps) T K
  | _ => false

/-- A call of a method. -/
def invB (Φ : CallsB) (tbl : List (TypeId × Nat × Option (Nat × Bool))) (x : AV) (args : List AV) (T : TH) (K : PostB) : Bool :=
  match x with
  | .iface t v => (match findI tbl t with
    | some r => (match invR T.ah r.2 v with
      | some u => Φ r.1 (u :: args) T K
      | none => false)
    | none => false)
  | _ => false

def opB (Φ : CallsB) (env : Env) (T : TH) (K : PostB) : AOp → Bool
  | .mv x => K (x.ev env) T
  | .pick c a b => GdB (c.ev env) true (K (a.ev env) T) (K (b.ev env) T)
  | .bin op x y => DoB (abin op (x.ev env) (y.ev env)) fun v => K v T
  | .beq neg x y => DoB (abeq neg (x.ev env) (y.ev env)) fun v => K v T
  | .isnil k neg x => DoB (anil k neg (x.ev env)) fun v => K v T
  | .eqagg neg ks x y => DoB (aeqAgg neg ks (x.ev env) (y.ev env)) fun v => K v T
  | .un op x => DoB (aun op (x.ev env)) fun v => K v T
  | .conv k x => DoB (aconv k (x.ev env)) fun v => K v T
  | .same x => DoB (asame (x.ev env)) fun v => K v T
  | .nilck x => DoB (anilck (x.ev env)) fun v => K v T
  | .field off sz agg x => DoB (afield off sz agg (x.ev env)) fun v => K v T
  | .idx len sz agg x i => DoB (aidx len sz agg (x.ev env) (i.ev env)) fun v => K v T
  | .idxs x i => DoB (aidxs (x.ev env) (i.ev env)) fun v => K v T
  | .faddr off x => DoB (afaddr off (x.ev env)) fun v => K v T
  | .iaddr arr sz x i => DoB (aiaddr arr sz (x.ev env) (i.ev env)) fun v => K v T
  | .slice sz x lo hi mx => DoB (aslice sz (x.ev env) (lo.map (Opd.ev env)) (hi.map (Opd.ev env)) (mx.map (Opd.ev env))) fun v => K v T
  | .sslice x lo hi => DoB (asslice (x.ev env) (lo.map (Opd.ev env)) (hi.map (Opd.ev env))) fun v => K v T
  | .mkif t x => K (.iface t (x.ev env)) T
  | .mkfn key caps => K (.fn key (evs env caps)) T
  | .extract i x => DoB (aextract i (x.ev env)) fun v => K v T
  | .build zero parts => DoB (abuild zero (evps env parts)) fun v => K v T
  | .len str x => DoB (alen str (x.ev env)) fun v => K v T
  | .lenk n => K (.int .i64 n) T
  | .cap x => DoB (acap (x.ev env)) fun v => K v T
  | .minmax mx xs => DoB (aminmax mx (evs env xs)) fun v => K v T
  | .load n agg x => DoB (aload T.ah n agg (x.ev env)) fun v => K v T
  | .store n x v => DoB (tstore T n (x.ev env) (v.ev env)) fun T => K (.tup []) T
  | .box mu n x => DoHB (tboxv T mu n (x.ev env)) K
  | .alloc mu zero => DoHB (some (tbox T mu zero)) K
  | .bslice mu sz len zero parts => DoHB (tbslice T mu sz len zero (evps env parts)) K
  | .append mu sz bytes x y => DoHB (tappend T mu sz bytes (x.ev env) (y.ev env)) K
  | .make mu sz bytes zero len cap => DoHB (tmake T mu sz bytes zero (len.ev env) (cap.ev env)) K
  | .copy sz x y => DoHB (tcopy T sz (x.ev env) (y.ev env)) K
  | .mkmap => K (.map T.n) (T.push (.map []))
  | .lookup kk zero ok m k => DoB (alookup T.ah kk zero ok (m.ev env) (k.ev env)) fun v => K v T
  | .mapup kk m k v => DoB (tmapup T kk (m.ev env) (k.ev env) (v.ev env)) fun T => K (.tup []) T
  | .delete kk m k => DoB (tdelete T kk (m.ev env) (k.ev env)) fun T => K (.tup []) T
  | .maplen m => DoB (amaplen T.ah (m.ev env)) fun v => K v T
  | .sbytes x => DoB (asbytes (x.ev env)) fun v => K v T
  | .bstr x => DoB (abstr T.ah (x.ev env)) fun v => K v T
  | .srange x => DoHB (tsrange T (x.ev env)) K
  | .snext x => DoHB (tsnext T (x.ev env)) K
  | .call key args => Φ key (evs env args) T K
  | .callv f args => clB Φ (f.ev env) (evs env args) T K
  | .ext e xs => DoHB (text T e (evs env xs)) K
  | .inv tbl x args => invB Φ tbl (x.ev env) (evs env args) T K

/-- A run that says yes speaks for what the functions do. -/
def SoundB (Φ : Calls') (B : CallsB) : Prop := ∀ k args T (K : PostB), B k args T K = true → ∀ Q : Post, (∀ v T', K v T' = true → Q v T'.ah) → Φ k args T.ah Q

theorem DoB_sound {α : Type} {x : Option α} {K : α → Bool} {P : α → Prop} (h : DoB x K = true) (hK : ∀ a, K a = true → P a) : Do x P := by
  cases x with
  | none => cases h
  | some a => exact ⟨a, rfl, hK a h⟩

theorem DoHB_sound {x : Option (AV × TH)} {y : Option (AV × AH)} {K : PostB} {Q : Post} (hx : x.map vh = y) (h : DoHB x K = true) (hK : ∀ v T', K v T' = true → Q v T'.ah) : DoH y Q := by
  cases x with
  | none => cases h
  | some a => subst hx; exact ⟨a.1, a.2.ah, rfl, hK _ _ h⟩

theorem DoB_ah {x : Option TH} {y : Option AH} {K : TH → Bool} {P : AH → Prop} (hx : x.map TH.ah = y) (h : DoB x K = true) (hK : ∀ T', K T' = true → P T'.ah) : Do y P := by
  cases x with
  | none => cases h
  | some a => subst hx; exact ⟨a.ah, rfl, hK _ h⟩

theorem GdB_sound {v : AV} {want : Bool} {A B : Bool} {P Q : Prop} (h : GdB v want A B = true) (hA : A = true → P) (hB : B = true → Q) : Gd v want P Q := by
  cases v <;> first | cases h | skip
  rename_i b
  simp only [GdB] at h
  unfold Gd
  dsimp only
  split
  · rename_i e; subst e; simp at h; exact hA h
  · rename_i e
    have : (b ^^ want) = true := by cases b <;> cases want <;> simp_all
    rw [this] at h
    exact hB h

theorem opB_sound {Φ : Calls'} {B : CallsB} (hB : SoundB Φ B) {env : Env} {T : TH} {K : PostB} {op : AOp} (h : opB B env T K op = true) {Q : Post} (hK : ∀ v T', K v T' = true → Q v T'.ah) : opSem Φ env T.ah Q op := by
  cases op with
  | mv => exact hK _ _ h
  | pick => exact GdB_sound h (hK _ _) (hK _ _)
  | mkif => exact hK _ _ h
  | mkfn => exact hK _ _ h
  | lenk => exact hK _ _ h
  | store => exact DoB_ah (tstore_ah _ _ _ _) h fun _ h => hK _ _ h
  | mapup => exact DoB_ah (tmapup_ah _ _ _ _ _) h fun _ h => hK _ _ h
  | delete => exact DoB_ah (tdelete_ah _ _ _ _) h fun _ h => hK _ _ h
  | box => exact DoHB_sound (tboxv_ah _ _ _ _) h hK
  | alloc mu zero => exact DoHB_sound (x := some (tbox T mu zero)) (by simp only [Option.map_some, tbox_ah]) h hK
  | bslice => exact DoHB_sound (tbslice_ah _ _ _ _ _ _) h hK
  | append => exact DoHB_sound (tappend_ah _ _ _ _ _ _) h hK
  | make => exact DoHB_sound (tmake_ah _ _ _ _ _ _ _) h hK
  | copy => exact DoHB_sound (tcopy_ah _ _ _ _) h hK
  | mkmap => have := hK _ _ h; rw [TH.ah_push] at this; exact this
  | srange => exact DoHB_sound (tsrange_ah _ _) h hK
  | snext => exact DoHB_sound (tsnext_ah _ _) h hK
  | call key args => exact hB _ _ _ _ h _ hK
  | callv f args =>
    simp only [opB, clB] at h
    split at h
    · rename_i key caps hf
      exact ⟨key, caps, hf, hB _ _ _ _ h _ hK⟩
    · cases h
  | ext => exact DoHB_sound (text_ah _ _ _) h hK
  | inv tbl x args =>
    simp only [opB, invB] at h
    split at h
    · rename_i t v hx
      split at h
      · rename_i r hr
        split at h
        · rename_i u hu
          exact ⟨t, v, r, u, hx, hr, hu, hB _ _ _ _ h _ hK⟩
        · cases h
      · cases h
    · cases h
  | _ => exact DoB_sound h fun _ h => hK _ _ h

def Gd3B (v : AV) (want : Bool) (A B C : Bool) : Bool :=
  match v with
  | .bool b => bif Bool.xor b want then B else A
  | .tup [] => C
  | _ => false

theorem Gd3B_sound {v : AV} {want : Bool} {A B C : Bool} {P Q R : Prop} (h : Gd3B v want A B C = true) (hA : A = true → P) (hB : B = true → Q) (hC : C = true → R) : Gd3 v want P Q R := by
  unfold Gd3B at h
  unfold Gd3
  split at h
  · rename_i b
    dsimp only
    split
    · rename_i e; subst e; simp at h; exact hA h
    · rename_i e
      have : (b ^^ want) = true := by cases b <;> cases want <;> simp_all
      rw [this] at h
      exact hB h
  · exact hC h
  · cases h

noncomputable section

def regB (Φ : CallsB) (n : Nat) : List AOper → EV → TH → (EV → TH → Bool) → Bool
  | [], E, T, K => K E T
  | o :: r, E, T, K =>
    match o.guard with
    | none => opB Φ [] T (fun v T' => regB Φ n r (esetd n E o.dst v) T' K) (o.op.sub E)
    | some (s, want) =>
      Gd3B (eget E s) want (opB Φ [] T (fun v T' => regB Φ n r (esetd n (eset n E s (.bool want)) o.dst v) T' K) (o.op.sub (eset n E s (.bool want))))
        (regB Φ n r (esetd n (eset n E s (.bool !want)) o.dst (.tup [])) T K) (regB Φ n r (esetd n (eset n E s (.tup [])) o.dst (.tup [])) T K)

theorem regB_sound {Φ : Calls'} {B : CallsB} (hB : SoundB Φ B) {n : Nat} : ∀ {l : List AOper} {E : EV} {T : TH} {K : EV → TH → Bool} {Q : EPostE}, regB B n l E T K = true → (∀ e T', K e T' = true → Q e T'.ah) → regE Φ n l E T.ah Q := by
  intro l
  induction l with
  | nil => intro E T K Q h hK; exact hK _ _ h
  | cons o r ih =>
    intro E T K Q h hK
    simp only [regB] at h
    simp only [regE]
    cases hg : o.guard with
    | none =>
      rw [hg] at h
      exact opB_sound hB h (Q := fun v H' => regE Φ n r (esetd n E o.dst v) H' Q) fun v T' h' => ih h' hK
    | some g =>
      obtain ⟨s, want⟩ := g
      rw [hg] at h
      exact Gd3B_sound h (fun h => opB_sound hB h (Q := fun v H' => regE Φ n r (esetd n (eset n E s (.bool want)) o.dst v) H' Q) fun v T' h' => ih h' hK) (fun h => ih h hK) fun h => ih h hK

def oneB (Φ : CallsB) (n : Nat) (o : AOper) (E : EV) (T : TH) (K : EV → TH → Bool) : Bool :=
  match o.guard with
  | none => opB Φ [] T (fun v T' => K (esetd n E o.dst v) T') (o.op.sub E)
  | some (s, want) =>
    Gd3B (eget E s) want (opB Φ [] T (fun v T' => K (esetd n (eset n E s (.bool want)) o.dst v) T') (o.op.sub (eset n E s (.bool want))))
      (K (esetd n (eset n E s (.bool !want)) o.dst (.tup [])) T) (K (esetd n (eset n E s (.tup [])) o.dst (.tup [])) T)

theorem oneB_sound {Φ : Calls'} {B : CallsB} (hB : SoundB Φ B) {n : Nat} {o : AOper} {E : EV} {T : TH} {K : EV → TH → Bool} {Q : EPostE} (h : oneB B n o E T K = true) (hK : ∀ e T', K e T' = true → Q e T'.ah) : oneE Φ n o E T.ah Q := by
  unfold oneB at h
  unfold oneE
  cases hg : o.guard with
  | none =>
    rw [hg] at h
    exact opB_sound hB h (Q := fun v H' => Q (esetd n E o.dst v) H') fun v T' h' => hK _ _ h'
  | some g =>
    obtain ⟨s, want⟩ := g
    rw [hg] at h
    exact Gd3B_sound h (fun h => opB_sound hB h (Q := fun v H' => Q (esetd n (eset n E s (.bool want)) o.dst v) H') fun v T' h' => hK _ _ h') (fun h => hK _ _ h) fun h => hK _ _ h

def segB (Φ : CallsB) (n : Nat) (ops : List AOper) : List Nat → EV → TH → (EV → TH → Bool) → Bool
  | [], E, T, K => K E T
  | i :: r, E, T, K => match ops[i]? with
    | some o => oneB Φ n o E T fun E' T' => segB Φ n ops r E' T' K
    | none => false

theorem segB_sound {Φ : Calls'} {B : CallsB} (hB : SoundB Φ B) {n : Nat} {ops : List AOper} : ∀ {l : List Nat} {E : EV} {T : TH} {K : EV → TH → Bool} {Q : EPostE}, segB B n ops l E T K = true → (∀ e T', K e T' = true → Q e T'.ah) → segE Φ n ops l E T.ah Q := by
  intro l
  induction l with
  | nil => intro E T K Q h hK; exact hK _ _ h
  | cons i r ih =>
    intro E T K Q h hK
    simp only [segB] at h
    simp only [segE]
    cases ho : ops[i]? with
    | none => rw [ho] at h; cases h
    | some o =>
      rw [ho] at h
      exact oneB_sound hB h (Q := fun e H' => segE Φ n ops r e H' Q) fun e T' h' => ih h' hK

def sameV (x : Option AV) (d : AV) : Bool :=
  match x with
  | some v => v.same d
  | none => false
def sameW (g : AV) (want : Bool) (X : Bool) : Bool :=
  match g with
  | .bool b => bif Bool.xor b want then true else X
  | _ => true

/-- A read that gives the same behind an effect, told by yes or no. -/
def readB (T : TH) (E : EV) (o : AOper) : Bool :=
  match o.op with
  | .load n agg x => sameV (aload T.ah n agg ((x.sub E).ev [])) (eget E (o.dst.getD 0))
  | .lookup kk zero ok m k => sameV (alookup T.ah kk zero ok ((m.sub E).ev []) ((k.sub E).ev [])) (eget E (o.dst.getD 0))
  | .maplen m => sameV (amaplen T.ah ((m.sub E).ev [])) (eget E (o.dst.getD 0))
  | .bstr x => sameV (abstr T.ah ((x.sub E).ev [])) (eget E (o.dst.getD 0))
  | _ => true

theorem sameV_sound {x : Option AV} {d : AV} (h : sameV x d = true) : x = some d := by
  unfold sameV at h
  split at h
  · rw [AV.same_sound _ _ h]
  · cases h

theorem readB_sound {T : TH} {E : EV} {o : AOper} (h : readB T E o = true) : SameE E T.ah o := by
  unfold readB at h
  unfold SameE
  cases ho : o.op <;> rw [ho] at h <;> first | trivial | exact sameV_sound h

def sameGB (T : TH) (E : EV) (o : AOper) : Bool :=
  match o.guard with
  | none => readB T E o
  | some (s, want) => sameW (eget E s) want (readB T E o)

theorem sameGB_sound {T : TH} {E : EV} {o : AOper} (h : sameGB T E o = true) : SameGE E T.ah o := by
  unfold sameGB at h
  unfold SameGE
  cases hg : o.guard with
  | none => rw [hg] at h; exact readB_sound h
  | some g =>
    obtain ⟨s, want⟩ := g
    rw [hg] at h
    dsimp only at h ⊢
    intro hs
    rw [hs] at h
    simp only [sameW, Bool.xor_self, cond_false] at h
    exact readB_sound h

def samesT (ops : List AOper) (E : EV) (T : TH) (X : Bool) : List Nat → Bool
  | [] => X
  | l :: r => (match ops[l]? with | some o => sameGB T E o | none => true) && samesT ops E T X r

theorem samesT_sound {ops : List AOper} {E : EV} {T : TH} {X : Bool} {P : Prop} (hX : X = true → P) : ∀ {l : List Nat}, samesT ops E T X l = true → samesE ops E T.ah P l := by
  intro l
  induction l with
  | nil => intro h; exact hX h
  | cons i r ih =>
    intro h
    simp only [samesT, Bool.and_eq_true] at h
    refine ⟨?_, ih h.2⟩
    have h1 := h.1
    cases ho : ops[i]? with
    | none => trivial
    | some o => rw [ho] at h1; exact sameGB_sound h1

def drawB (Φ : CallsB) (n : Nat) (ops : List AOper) (last : List Nat) : List (List Nat × Nat × List Nat) → EV → TH → (EV → TH → Bool) → Bool
  | [], E, T, K => segB Φ n ops last E T K
  | (seg, e, st) :: r, E, T, K => segB Φ n ops seg E T fun E1 T1 => match ops[e]? with
    | some o => oneB Φ n o E1 T1 fun E2 T2 => samesT ops E1 T2 (drawB Φ n ops last r E2 T2 K) st
    | none => false

theorem drawB_sound {Φ : Calls'} {B : CallsB} (hB : SoundB Φ B) {n : Nat} {ops : List AOper} {last : List Nat} : ∀ {plan : List (List Nat × Nat × List Nat)} {E : EV} {T : TH} {K : EV → TH → Bool} {Q : EPostE}, drawB B n ops last plan E T K = true → (∀ e T', K e T' = true → Q e T'.ah) → drawE Φ n ops last plan E T.ah Q := by
  intro plan
  induction plan with
  | nil => intro E T K Q h hK; exact segB_sound hB h hK
  | cons p r ih =>
    obtain ⟨seg, e, st⟩ := p
    intro E T K Q h hK
    simp only [drawB] at h
    simp only [drawE]
    refine segB_sound hB h fun e1 T1 h1 => ?_
    cases ho : ops[e]? with
    | none => rw [ho] at h1; cases h1
    | some o =>
      rw [ho] at h1
      exact oneB_sound hB h1 fun e2 T2 h2 => samesT_sound (fun h => ih h hK) h2

def LoopB {σ : Type} (F : σ → (σ → Bool) → Bool) (n : Nat) : σ → Bool := Nat.rec (motive := fun _ => σ → Bool) (fun _ => false) (fun _ ih s => F s ih) n

def JoinB (K : List AV → TH → Bool) (st : List AV) (T : TH) : Bool := K st T

def codeB (Φ : CallsB) (fuel : Nat) (n : Nat) : ACode → EV → TH → (AExit → EV → TH → Bool) → Bool
  | .skip, E, T, Q => Q .normal E T
  | .region ops, E, T, Q => regB Φ n ops E T (Q .normal)
  | .draw ops _ plan last, E, T, Q => drawB Φ n ops last plan E T (Q .normal)
  | .seq a b, E, T, Q => codeB Φ fuel n a E T fun e E' T' => match e with
    | .normal => codeB Φ fuel n b E' T' Q
    | e => Q e E' T'
  | .join vs ks a b, E, T, Q => codeB Φ fuel n a E T fun e E' T' => match e with
    | .normal => JoinB (fun st T'' => codeB Φ fuel n b (eputs n (ekills n E ks) vs st) T'' Q) (egets E' vs) T'
    | e => Q e E' T'
  | .cond x a b, E, T, Q => GdB ((x.sub E).ev []) true (codeB Φ fuel n a E T Q) (codeB Φ fuel n b E T Q)
  | .block id a, E, T, Q => codeB Φ fuel n a E T fun e E' T' => match e with
    | .exit id' => if id' = id then Q .normal E' T' else Q (.exit id') E' T'
    | e => Q e E' T'
  | .loop vs ks a, E, T, Q =>
    LoopB (fun (s : List AV × TH) (K : List AV × TH → Bool) =>
      codeB Φ fuel n a (eputs n (ekills n E ks) vs s.1) s.2 fun e E' T' => match e with
        | .normal => K (egets E' vs, T')
        | e => Q e E' T') fuel (egets E vs, T)
  | .exit id, E, T, Q => Q (.exit id) E T
  | .ret, E, T, Q => Q .ret E T
  | .freeze t a, E, T, Q => DoHB (tfreeze T (eget E t)) fun v T' => codeB Φ fuel n a (eset n E t v) T' Q
  | .rjoin vs ks ops b, E, T, Q => regB Φ n ops E T fun E' T' => JoinB (fun st T'' => codeB Φ fuel n b (eputs n (ekills n E ks) vs st) T'' Q) (egets E' vs) T'

theorem codeB_sound {Φ : Calls'} {B : CallsB} (hB : SoundB Φ B) {fuel : Nat} {n : Nat} : ∀ {c : ACode} {E : EV} {T : TH} {K : AExit → EV → TH → Bool} {Q : AExit → EV → AH → Prop}, codeB B fuel n c E T K = true → (∀ x e T', K x e T' = true → Q x e T'.ah) → codeE Φ n c E T.ah Q := by
  intro c
  induction c with
  | skip => intro E T K Q h hK; exact hK _ _ _ h
  | region ops => intro E T K Q h hK; exact regB_sound hB h fun _ _ h => hK _ _ _ h
  | draw ops pr plan last => intro E T K Q h hK; exact drawB_sound hB h fun _ _ h => hK _ _ _ h
  | seq a b iha ihb =>
    intro E T K Q h hK
    simp only [codeB] at h
    simp only [codeE]
    refine iha h fun x e T' h' => ?_
    cases x with
    | normal => exact ihb h' hK
    | exit i => exact hK _ _ _ h'
    | ret => exact hK _ _ _ h'
  | join vs ks a b iha ihb =>
    intro E T K Q h hK
    simp only [codeB] at h
    simp only [codeE]
    refine iha h fun x e T' h' => ?_
    cases x with
    | normal => exact ihb h' hK
    | exit i => exact hK _ _ _ h'
    | ret => exact hK _ _ _ h'
  | cond x a b iha ihb =>
    intro E T K Q h hK
    exact GdB_sound h (fun h => iha h hK) fun h => ihb h hK
  | block id a ih =>
    intro E T K Q h hK
    simp only [codeB] at h
    simp only [codeE]
    refine ih h fun x e T' h' => ?_
    cases x with
    | normal => exact hK _ _ _ h'
    | exit i =>
      dsimp only at h' ⊢
      split
      · rename_i hi; rw [if_pos hi] at h'; exact hK _ _ _ h'
      · rename_i hi; rw [if_neg hi] at h'; exact hK _ _ _ h'
    | ret => exact hK _ _ _ h'
  | loop vs ks a ih =>
    intro E T K Q h hK
    simp only [codeB] at h
    simp only [codeE]
    have main : ∀ (m : Nat) (s : List AV × TH), LoopB (fun (s : List AV × TH) (K' : List AV × TH → Bool) =>
          codeB B fuel n a (eputs n (ekills n E ks) vs s.1) s.2 fun e E' T' => match e with
            | .normal => K' (egets E' vs, T')
            | e => K e E' T') m s = true →
        LoopP (fun (s : List AV × AH) (K : List AV × AH → Prop) =>
          codeE Φ n a (eputs n (ekills n E ks) vs s.1) s.2 fun e E' H' => match e with
            | .normal => K (egets E' vs, H')
            | e => Q e E' H') (s.1, s.2.ah) := by
      intro m
      induction m with
      | zero => intro s h; cases h
      | succ m ihn =>
        intro s h
        refine LoopP.step ?_
        refine ih (K := fun e E' T' => match e with
            | .normal => LoopB (fun (s : List AV × TH) (K' : List AV × TH → Bool) =>
              codeB B fuel n a (eputs n (ekills n E ks) vs s.1) s.2 fun e E' T' => match e with
                | .normal => K' (egets E' vs, T')
                | e => K e E' T') m (egets E' vs, T')
            | e => K e E' T') h fun x e T' h' => ?_
        cases x with
        | normal => exact ihn _ h'
        | exit i => exact hK _ _ _ h'
        | ret => exact hK _ _ _ h'
    exact main fuel _ h
  | exit id => intro E T K Q h hK; exact hK _ _ _ h
  | ret => intro E T K Q h hK; exact hK _ _ _ h
  | freeze t a ih =>
    intro E T K Q h hK
    exact DoHB_sound (tfreeze_ah _ _) h fun v T' h' => ih h' hK
  | rjoin vs ks ops b ih =>
    intro E T K Q h hK
    exact regB_sound hB h (Q := fun E' H' => JoinP (fun st H'' => codeE Φ n b (eputs n (ekills n E ks) vs st) H'' Q) (egets E' vs) H') fun e T' h' => ih h' hK

def resB (E : EV) (T : TH) : List ARes → (List AV → Bool) → Bool
  | [], K => K []
  | .tmp t :: r, K => resB E T r fun vs => K (eget E t :: vs)
  | .cell t n agg :: r, K => DoB (aload T.ah n agg (eget E t)) fun v => resB E T r fun vs => K (v :: vs)

theorem resB_sound {E : EV} {T : TH} : ∀ {rs : List ARes} {K : List AV → Bool} {P : List AV → Prop}, resB E T rs K = true → (∀ vs, K vs = true → P vs) → resE E T.ah rs P := by
  intro rs
  induction rs with
  | nil => intro K P h hK; exact hK _ h
  | cons r rs ih =>
    intro K P h hK
    cases r with
    | tmp t => exact ih (K := fun vs => K (eget E t :: vs)) h fun vs h => hK _ h
    | cell t n agg => exact DoB_sound h fun v h => ih (K := fun vs => K (v :: vs)) h fun vs h => hK _ h

def fnB1 (Φ : CallsB) (fuel : Nat) (f : AFunc) (args : List AV) (T : TH) (Q : PostB) : Bool :=
  codeB Φ fuel f.ntmps f.body (einit args 0) T fun e E T' => match e with
    | .exit _ => false
    | _ => resB E T' f.results fun vs => Q (oneRes vs) T'
def fnB (Φ : CallsB) (fuel : Nat) (f : AFunc) (args : List AV) (T : TH) (Q : PostB) : Bool := and (Nat.ble args.length f.ntmps) (fnB1 Φ fuel f args T Q)

theorem fnB_sound {Φ : Calls'} {B : CallsB} (hB : SoundB Φ B) {fuel : Nat} {f : AFunc} {args : List AV} {T : TH} {K : PostB} (h : fnB B fuel f args T K = true) {Q : Post} (hK : ∀ v T', K v T' = true → Q v T'.ah) : fnE Φ f args T.ah Q := by
  simp only [fnB, fnB1, Bool.and_eq_true] at h
  refine ⟨Nat.le_of_ble_eq_true h.1, codeB_sound hB h.2 fun x e T' h' => ?_⟩
  cases x with
  | normal => exact resB_sound h' fun vs h => hK _ _ h
  | exit i => cases h'
  | ret => exact resB_sound h' fun vs h => hK _ _ h

/-- The functions of a table, run; so deep. -/
def runB (tab : Nat → Option AFunc) (fuel : Nat) (d : Nat) : CallsB := Nat.rec (motive := fun _ => CallsB) (fun _ _ _ _ => false) (fun _ ih k args T K => match tab k with
    | some f => fnB ih fuel f args T K
    | none => false) d

theorem runB_sound {Φ : Calls'} {tab : Nat → Option AFunc} (hT : ∀ k f, tab k = some f → ∀ args H Q, fnE Φ f args H Q → Φ k args H Q) {fuel : Nat} : ∀ d, SoundB Φ (runB tab fuel d) := by
  intro d
  induction d with
  | zero => intro k args T K h; cases h
  | succ d ih =>
    intro k args T K h Q hQ
    change (match tab k with
      | some f => fnB (runB tab fuel d) fuel f args T K
      | none => false) = true at h
    split at h
    · rename_i f hf
      exact hT k f hf _ _ _ (fnB_sound ih h hQ)
    · cases h
end

end Rb

/- Tables of functions; what package-level variables hold. -/
set_option linter.unusedVariables false
namespace Rb
open Go

/-- Each function of a table is as its text says. -/
structure Cl (Φ : Calls') (T : Tab) : Prop where
  mono : Mono Φ
  run : ∀ k f, T.get k = some f → ∀ args H Q, fnE Φ f args H Q → Φ k args H Q

theorem Cl.of {Φ : Calls'} {T : Tab} (hm : Mono Φ) (h : Closed Φ T) : Cl Φ T := ⟨hm, fun k f hk args H Q hs => h k f hk args H Q (fnE_sound hm hs)⟩

theorem Cl.app {Φ : Calls'} {T U : Tab} (hT : Cl Φ T) (hU : Cl Φ U) : Cl Φ (T ++ U) := by
  refine ⟨hT.mono, fun k f h args H Q hs => ?_⟩
  have key : ∀ (T : Tab), (T ++ U).lookup k = some f → T.lookup k = some f ∨ U.lookup k = some f := by
    intro T
    induction T with
    | nil => intro h; exact .inr h
    | cons p T ih =>
      intro h
      obtain ⟨k', f'⟩ := p
      rw [List.cons_append, List.lookup_cons] at h
      rw [List.lookup_cons]
      split at h
      · exact .inl h
      · exact ih h
  rcases key T h with h | h
  · exact hT.run k f h args H Q hs
  · exact hU.run k f h args H Q hs

/-- A function of a table, by what it means. -/
theorem Cl.call {Φ : Calls'} {T : Tab} (hT : Cl Φ T) {k : Nat} {f : AFunc} {args : List AV} (hk : T.get k = some f) (hn : Nat.ble args.length f.ntmps = true) {H : AH} {Q : Post} (h : fnE1 Φ f args H Q) : Φ k args H Q :=
  hT.run k f hk args H Q ⟨Nat.le_of_ble_eq_true hn, h⟩
end Rb

/- Frozen values: a function that is given such, and gives such, does on any memory what it does on the empty one. -/
set_option linter.unusedVariables false
set_option linter.unusedSimpArgs false
namespace Rb
open Go

def Tok.free : Tok → Bool
  | .own _ => false
  | _ => true
mutual
/-- A value that hangs on nothing that may be written. -/
def AV.froz : AV → Bool
  | .bool _ | .int _ _ | .str _ | .nilp | .nilmap | .nilfn | .nilif => true
  | .fptr cs => AV.frozs cs
  | .lst tk _ cs => tk.free && AV.frozs cs
  | .fn _ cs => AV.frozs cs
  | .iface _ v => AV.froz v
  | .agg cs => AV.frozs cs
  | .tup cs => AV.frozs cs
  | _ => false
def AV.frozs : List AV → Bool
  | [] => true
  | c :: r => AV.froz c && AV.frozs r
end

theorem frozs_all : ∀ {cs : List AV}, AV.frozs cs = cs.all AV.froz
  | [] => rfl
  | c :: r => by simp only [AV.frozs, List.all_cons, frozs_all (cs := r)]
theorem frozs_mem {cs : List AV} (h : AV.frozs cs = true) (j : Nat) (c : AV) (hc : cs[j]? = some c) : c.froz = true := by
  rw [frozs_all, List.all_eq_true] at h
  exact h c (List.mem_of_getElem? hc)

theorem froz_vr {F : FTab} {w w' : World} {G G' : Ghost} (hz : ∀ b o, G.fz b o → G'.fz b o) (hc : ∀ b o V, G.fz b o → w.cell? ⟨b, o, none⟩ = some V → w'.cell? ⟨b, o, none⟩ = some V) {c : AV} {V : Value} (hf : c.froz = true) (h : VR F w G c V) : VR F w' G' c V := by
  induction h with
  | bot => simp [AV.froz] at hf
  | bool b => exact .bool b
  | int k n => exact .int k n
  | str s => exact .str s
  | nilp => exact .nilp
  | ptr => simp [AV.froz] at hf
  | fptr cells b o Vs h hv ih =>
    simp only [AV.froz] at hf
    exact .fptr cells b o Vs (fun j c hj => ⟨hz _ _ (h j c hj).1, hc _ _ _ (h j c hj).1 (h j c hj).2⟩) fun j c hj => ih j c hj (frozs_mem hf j c hj)
  | lstnil => exact .lstnil
  | lst0 a cap => exact .lst0 a cap
  | lst tk len cells b o cap Vs ht hle h hv ih =>
    simp only [AV.froz, Bool.and_eq_true] at hf
    refine .lst tk len cells b o cap Vs ?_ hle (fun j c hj => ⟨hz _ _ (h j c hj).1, hc _ _ _ (h j c hj).1 (h j c hj).2⟩) fun j c hj => ih j c hj (frozs_mem hf.2 j c hj)
    cases tk with
    | own t => simp [Tok.free] at hf
    | nil => exact ht
    | full => exact ht
    | dead => exact ht
  | row => simp [AV.froz] at hf
  | map => simp [AV.froz] at hf
  | nilmap => exact .nilmap
  | fn key caps f Vs hk hF hl hv ih =>
    simp only [AV.froz] at hf
    exact .fn key caps f Vs hk hF hl fun j c V hc hV => ih j c V hc hV (frozs_mem hf j c hc)
  | bfn key k caps f Vs hk hF hl hv ih =>
    simp only [AV.froz] at hf
    exact .bfn key k caps f Vs hk hF hl fun j c V hc hV => ih j c V hc hV (frozs_mem hf j c hc)
  | nilfn => exact .nilfn
  | iface t v V h ih => exact .iface t v V (ih (by simpa [AV.froz] using hf))
  | nilif => exact .nilif
  | agg cs Vs hl hv ih =>
    simp only [AV.froz] at hf
    exact .agg cs Vs hl fun j c V hc hV => ih j c V hc hV (frozs_mem hf j c hc)
  | tup cs Vs hl hv ih =>
    simp only [AV.froz] at hf
    exact .tup cs Vs hl fun j c V hc hV => ih j c V hc hV (frozs_mem hf j c hc)

def GTok (C : Ctx) : Prop := ∀ g l, C.GT g = some l → AV.frozs l = true

/-- What a function does on an empty memory, given frozen values, it does on any, and leaves that as it is. -/
theorem ACall.frame2 {C : Ctx} (hGT : GTok C) {key : Nat} {args : List AV} {Q : Post} (h : ACall C key args AH.mt Q) (ha : AV.frozs args = true) (H : AH) (K : Post) (hK : ∀ v H', Q v H' → v.froz = true ∧ K v H) : ACall C key args H K := by
  refine ⟨by obtain ⟨v, H', hq⟩ := h.1; exact ⟨v, H, (hK v H' hq).2⟩, fun f hf G w Vs hG hrel hargs => ?_⟩
  have hrel0 : Rel C.F w (Ghost.mt G.fz) AH.mt := Rel.mt hrel.fzc
  have hargs0 : VRs C.F w (Ghost.mt G.fz) args Vs := ⟨hargs.1, fun j c V hc hV => froz_vr (G := G) (G' := Ghost.mt G.fz) (w := w) (fun _ _ h => h) (fun _ _ _ _ h => h) (frozs_mem ha j c hc) (hargs.2 j c V hc hV)⟩
  have hG0 : GOK C w (Ghost.mt G.fz) := fun g l hg => froz_vr (G := G) (G' := Ghost.mt G.fz) (w := w) (fun _ _ h => h) (fun _ _ _ _ h => h) (by simp only [AV.froz]; exact hGT g l hg) (hG.1 g l hg)
  refine Calls.mono (h.2 f hf _ w Vs (hG.mt hG0 fun i hi => by cases hi) hrel0 hargs0) fun e w' he => ?_
  obtain ⟨V, v, H', G', rfl, hQ, hv, hr, hst⟩ := he
  obtain ⟨hfl, hKv⟩ := hK v H' hQ
  have hb := hst.below
  have hnew : ∀ b o, G'.fz b o → G.fz b o ∨ w.heap.size ≤ b := by
    intro b o hz
    rcases hst.fznew b o hz with h | h | ⟨i, hi, _⟩
    · exact .inl h
    · exact .inr h
    · cases hi
  let G2 : Ghost := { G with fz := fun b o => G.fz b o ∨ G'.fz b o }
  have hcell : ∀ b o V, G.fz b o → w.cell? ⟨b, o, none⟩ = some V → w'.cell? ⟨b, o, none⟩ = some V := fun b o V hf hc => by
    rw [World.cell?_of_block (w := w) (hb.block b (World.block_lt_of_cell? w _ hc))]; exact hc
  have hg : GLe w G w' G2 := ⟨Nat.le_refl _, fun _ _ => rfl, fun _ _ => rfl, fun _ _ h => .inl h, hcell⟩
  refine ⟨V, v, H, G2, rfl, hKv, froz_vr (G := G') (G' := G2) (w := w') (fun _ _ h => Or.inr h) (fun _ _ _ _ h => h) hfl hv, ⟨hrel.n, hrel.over, fun j => (hrel.obj j).keep hg (fun hl => hrel.idlt hl) (fun hl => hb.block _ ((hrel.obj j).lt hl)) fun hl o hj => ?_, hrel.dist, fun b o hf => ?_⟩, ?_⟩
  · rcases hj with hj | hj
    · exact hj
    · rcases hnew _ _ hj with h | h
      · exact h
      · exact absurd ((hrel.obj j).lt hl) (by omega)
  · rcases hf with hf | hf
    · obtain ⟨V, hV⟩ := hrel.fzc b o hf
      exact ⟨V, hcell b o V hf hV⟩
    · exact hr.fzc b o hf
  · exact { hg with
      size := hst.size, os := hst.os, tape := hst.tape, output := hst.output, old := fun k hk _ => hb.block k hk, owned := fun i hi _ => ⟨i, hi, rfl⟩
      fznew := fun b o hf => by
        rcases hf with hf | hf
        · exact .inl hf
        · rcases hnew b o hf with h | h
          · exact .inl h
          · exact .inr (.inl h) }

/-- Calls whose values are known. -/
abbrev Memo := Nat → List AV → Option AV
def MemoOK (Φ : Calls') (M : Memo) : Prop := ∀ k args v, M k args = some v → ∀ (H : AH) (Q : Post), Q v H → Φ k args H Q

noncomputable section
/-- Runs, with what is known. -/
def runM (M : Memo) (disp : CallsB → CallsB) (d : Nat) : CallsB := Nat.rec (motive := fun _ => CallsB) (fun _ _ _ _ => false) (fun _ ih k args T Q => match M k args with
  | some v => Q v T
  | none => disp ih k args T Q) d

def DispOK (Φ : Calls') (disp : CallsB → CallsB) : Prop := ∀ B, SoundB Φ B → SoundB Φ (disp B)

theorem runM_sound {Φ : Calls'} {M : Memo} {disp : CallsB → CallsB} (hM : MemoOK Φ M) (hd : DispOK Φ disp) : ∀ d, SoundB Φ (runM M disp d) := by
  intro d
  induction d with
  | zero => intro k args T K h; cases h
  | succ d ih =>
    intro k args T K h Q hQ
    change (match M k args with
      | some v => K v T
      | none => disp (runM M disp d) k args T K) = true at h
    split at h
    · rename_i v hv
      exact hM k args v hv _ _ (hQ _ _ h)
    · exact hd _ ih k args T K h Q hQ

/-- A closed run on the empty memory. -/
theorem run_closed {Φ : Calls'} {B : CallsB} (hB : SoundB Φ B) {k : Nat} {args : List AV} {K : AV → Bool} (h : B k args TH.mt (fun v _ => K v) = true) : Φ k args AH.mt (fun v _ => K v = true) := by
  have := hB k args TH.mt _ h (fun v _ => K v = true) (fun v T' h => h)
  rwa [TH.ah_mt] at this

/-- .. and so on any. -/
theorem run_any {C : Ctx} (hGT : GTok C) {B : CallsB} (hB : SoundB (ACall C) B) {k : Nat} {args : List AV} {v : AV} (ha : AV.frozs args = true) (hv : v.froz = true) (h : B k args TH.mt (fun u _ => u.same v) = true) (H : AH) (Q : Post) (hQ : Q v H) : ACall C k args H Q :=
  ACall.frame2 hGT (run_closed hB h) ha H Q fun u _ hu => by rw [AV.same_sound _ _ hu]; exact ⟨hv, hQ⟩

/-- A function of a table, run. -/
theorem SoundB.fn {Φ : Calls'} {T0 : Tab} (hT : Cl Φ T0) {B : CallsB} (hB : SoundB Φ B) {fuel : Nat} {k : Nat} {f : AFunc} {args : List AV} (hk : T0.get k = some f) (hn : Nat.ble args.length f.ntmps = true) {T : TH} {K : PostB} (h : fnB1 B fuel f args T K = true) {Q : Post} (hQ : ∀ v T', K v T' = true → Q v T'.ah) : Φ k args T.ah Q :=
  hT.run k f hk args T.ah Q (fnB_sound hB (fuel := fuel) (by simp only [fnB, hn, h, Bool.and_self]) hQ)

/-! Which function is it? -/
def ap0 (f : TH → PostB → Bool) (a : List AV) (T : TH) (Q : PostB) : Bool := match a with | [] => f T Q | _ => false
def ap1 (f : AV → TH → PostB → Bool) (a : List AV) (T : TH) (Q : PostB) : Bool := match a with | [a0] => f a0 T Q | _ => false
def ap2 (f : AV → AV → TH → PostB → Bool) (a : List AV) (T : TH) (Q : PostB) : Bool := match a with | [a0, a1] => f a0 a1 T Q | _ => false
def ap3 (f : AV → AV → AV → TH → PostB → Bool) (a : List AV) (T : TH) (Q : PostB) : Bool := match a with | [a0, a1, a2] => f a0 a1 a2 T Q | _ => false
def ap4 (f : AV → AV → AV → AV → TH → PostB → Bool) (a : List AV) (T : TH) (Q : PostB) : Bool := match a with | [a0, a1, a2, a3] => f a0 a1 a2 a3 T Q | _ => false
def ap5 (f : AV → AV → AV → AV → AV → TH → PostB → Bool) (a : List AV) (T : TH) (Q : PostB) : Bool := match a with | [a0, a1, a2, a3, a4] => f a0 a1 a2 a3 a4 T Q | _ => false
def ap6 (f : AV → AV → AV → AV → AV → AV → TH → PostB → Bool) (a : List AV) (T : TH) (Q : PostB) : Bool := match a with | [a0, a1, a2, a3, a4, a5] => f a0 a1 a2 a3 a4 a5 T Q | _ => false

theorem SoundB.node {Φ : Calls'} {F G : CallsB} (m : Nat) (hF : SoundB Φ F) (hG : SoundB Φ G) : SoundB Φ (fun k a T K => cond (Nat.blt k m) (F k a T K) (G k a T K)) := by
  intro k a T K h Q hQ
  dsimp only at h
  cases hb : Nat.blt k m with
  | true => rw [hb] at h; exact hF k a T K h Q hQ
  | false => rw [hb] at h; exact hG k a T K h Q hQ

theorem SoundB.leaf {Φ : Calls'} {T0 : Tab} (hT : Cl Φ T0) {B : CallsB} (hB : SoundB Φ B) {n m : Nat} {key : Nat} {ir : AFunc} (hk : T0.get key = some ir) {F : List AV → TH → PostB → Bool} (hn : Nat.ble m ir.ntmps = true)
    (hF : ∀ a T K, F a T K = true → a.length = m ∧ fnB1 B n ir a T K = true) : SoundB Φ (fun k a T K => cond (Nat.beq k key) (F a T K) false) := by
  intro k a T K h Q hQ
  dsimp only at h
  cases hb : Nat.beq k key with
  | false => rw [hb] at h; cases h
  | true =>
    rw [hb] at h
    obtain rfl := Nat.eq_of_beq_eq_true hb
    obtain ⟨h1, h2⟩ := hF a T K h
    exact SoundB.fn hT hB (fuel := n) hk (by rw [h1]; exact hn) h2 hQ

theorem leaf0 {B : CallsB} {n : Nat} {ir : AFunc} {f : TH → PostB → Bool} (he : ∀ T Q, fnB1 B n ir [] T Q = f T Q) : ∀ a T K, ap0 f a T K = true → a.length = 0 ∧ fnB1 B n ir a T K = true := by
  intro a T K h; unfold ap0 at h; split at h
  · exact ⟨rfl, by rw [he]; exact h⟩
  · cases h
theorem leaf1 {B : CallsB} {n : Nat} {ir : AFunc} {f : AV → TH → PostB → Bool} (he : ∀ a0 T Q, fnB1 B n ir [a0] T Q = f a0 T Q) : ∀ a T K, ap1 f a T K = true → a.length = 1 ∧ fnB1 B n ir a T K = true := by
  intro a T K h; unfold ap1 at h; split at h
  · exact ⟨rfl, by rw [he]; exact h⟩
  · cases h
theorem leaf2 {B : CallsB} {n : Nat} {ir : AFunc} {f : AV → AV → TH → PostB → Bool} (he : ∀ a0 a1 T Q, fnB1 B n ir [a0, a1] T Q = f a0 a1 T Q) : ∀ a T K, ap2 f a T K = true → a.length = 2 ∧ fnB1 B n ir a T K = true := by
  intro a T K h; unfold ap2 at h; split at h
  · exact ⟨rfl, by rw [he]; exact h⟩
  · cases h
theorem leaf3 {B : CallsB} {n : Nat} {ir : AFunc} {f : AV → AV → AV → TH → PostB → Bool} (he : ∀ a0 a1 a2 T Q, fnB1 B n ir [a0, a1, a2] T Q = f a0 a1 a2 T Q) : ∀ a T K, ap3 f a T K = true → a.length = 3 ∧ fnB1 B n ir a T K = true := by
  intro a T K h; unfold ap3 at h; split at h
  · exact ⟨rfl, by rw [he]; exact h⟩
  · cases h
theorem leaf4 {B : CallsB} {n : Nat} {ir : AFunc} {f : AV → AV → AV → AV → TH → PostB → Bool} (he : ∀ a0 a1 a2 a3 T Q, fnB1 B n ir [a0, a1, a2, a3] T Q = f a0 a1 a2 a3 T Q) : ∀ a T K, ap4 f a T K = true → a.length = 4 ∧ fnB1 B n ir a T K = true := by
  intro a T K h; unfold ap4 at h; split at h
  · exact ⟨rfl, by rw [he]; exact h⟩
  · cases h
theorem leaf5 {B : CallsB} {n : Nat} {ir : AFunc} {f : AV → AV → AV → AV → AV → TH → PostB → Bool} (he : ∀ a0 a1 a2 a3 a4 T Q, fnB1 B n ir [a0, a1, a2, a3, a4] T Q = f a0 a1 a2 a3 a4 T Q) : ∀ a T K, ap5 f a T K = true → a.length = 5 ∧ fnB1 B n ir a T K = true := by
  intro a T K h; unfold ap5 at h; split at h
  · exact ⟨rfl, by rw [he]; exact h⟩
  · cases h
theorem leaf6 {B : CallsB} {n : Nat} {ir : AFunc} {f : AV → AV → AV → AV → AV → AV → TH → PostB → Bool} (he : ∀ a0 a1 a2 a3 a4 a5 T Q, fnB1 B n ir [a0, a1, a2, a3, a4, a5] T Q = f a0 a1 a2 a3 a4 a5 T Q) : ∀ a T K, ap6 f a T K = true → a.length = 6 ∧ fnB1 B n ir a T K = true := by
  intro a T K h; unfold ap6 at h; split at h
  · exact ⟨rfl, by rw [he]; exact h⟩
  · cases h
end
end Rb

/- The program's code as texts in the small language, made here and not printed: short hints tell which variables may be written, and what a loop keeps. What is made is held against the program by chkF. -/
set_option linter.unusedVariables false
namespace Rb
open Go

structure Hint where
  fid : Nat
  mus : List Nat
  loops : List (List Nat)
  fz : Option Nat
  tys : List TypeId := []
  fzo : List (Nat × List Nat) := []

def memN (t : Nat) : List Nat → Bool
  | [] => false
  | s :: r => cond (Nat.beq t s) true (memN t r)
def subN : List Nat → List Nat → Bool
  | [], _ => true
  | t :: r, l => cond (memN t l) (subN r l) false
def addN (t : Nat) (l : List Nat) : List Nat := cond (memN t l) l (t :: l)
def uniN : List Nat → List Nat → List Nat
  | [], l => l
  | t :: r, l => uniN r (addN t l)
def lessN : List Nat → List Nat → List Nat
  | [], _ => []
  | t :: r, l => cond (memN t l) (lessN r l) (addN t (lessN r l))

def decK1 : Value → AV
  | .bool b => .bool b
  | .int k n => .int k n
  | .string s => .str s.data.toList
  | .pointer none => .nilp
  | .map none => .nilmap
  | .nilFunc => .nilfn
  | .nilIface => .nilif
  | .slice none _ _ => .lst .nil 0 []
  | _ => .bot
def decK : Value → AV
  | .agg Vs => .agg (Vs.toList.map decK1)
  | .tuple Vs => .tup (Vs.toList.map decK1)
  | V => decK1 V

def badO : Opd := .k .bot
/-- What is not known how to do. -/
def badOp : AOp := .ext .stuck []
def decO (C : Ctx) : Operand → Opd
  | .tmp t => .t t
  | .const v => .k (decK v)
  | .global g => match C.GT g with | some l => .k (.fptr l) | none => badO
  | .func f => cond (goodFn C.P f) (.k (.fn f [])) badO

/-- Is it a builder of texts, or a struct of one? -/
def isBldF (fs : List Field) : Bool := match fs with | [a, b] => a.name == "addr" && b.name == "buf" | _ => false
def isBld (P : Program) (t : TypeId) : Bool :=
  match P.underlying t with
  | some (.struct fs) => isBldF fs.toList || (match fs.toList with | [f] => (match P.underlying f.type with | some (.struct gs) => isBldF gs.toList | _ => false) | _ => false)
  | _ => false

/-- Is it the literal nil? -/
def isNilO : Operand → Bool
  | .const v => (match v with | .pointer none | .slice none 0 0 | .map none | .nilFunc | .nilIface => true | _ => false)
  | _ => false

def szOf (P : Program) (t : TypeId) : Nat := match P.info? t with | some i => i.size | none => 0
def byOf (P : Program) (t : TypeId) : Nat := match P.info? t with | some i => i.bytes | none => 0
def zvOf (P : Program) (t : TypeId) : Value := match P.info? t with | some i => (match i.zero with | some z => z | none => .nilIface) | none => .nilIface
def zcOf (P : Program) (t : TypeId) : List AV := (zvOf P t).cells.toList.map decK1
def agOf (P : Program) (t : TypeId) : Bool := match P.underlying t with | some d => rowish d | none => false
def elOf (P : Program) (t : TypeId) : TypeId := match P.underlying t with | some (.slice e) => e | some (.array _ e) => e | some (.map _ e) => e | _ => 0
def kkOf (P : Program) (t : TypeId) : FK := match P.underlying t with
  | some (.map kt _) => (match P.underlying kt with | some .bool => .b | some .string => .t | _ => .n)
  | _ => .n
/-- The types that values of interfaces may have here, and a method's functions. -/
def invOf (C : Ctx) (name : String) : List TypeId → List (TypeId × Nat × Option (Nat × Bool))
  | [] => []
  | t :: r => (match C.P.info? t with
    | some i => (match i.methods.find? (·.name == name) with
      | some mt => (match mt.func, C.P.underlying t with
        | some (f, true), some (.pointer _) => (t, f, none) :: invOf C name r
        | some (f, false), some (.pointer e) => (t, f, some (szOf C.P e, agOf C.P e)) :: invOf C name r
        | _, _ => invOf C name r)
      | none => invOf C name r)
    | none => invOf C name r)

def isIntT (P : Program) (t : TypeId) : Bool := match P.underlying t with | some (.int _) => true | _ => false
def decCall (C : Ctx) (tys : List TypeId) (mu : Bool) (c : Call) : AOp :=
  match c.callee with
  | .value (.func f) => cond (goodFn C.P f) (.call f (c.args.toList.map (decO C))) badOp
  | .value f => .callv (decO C f) (c.args.toList.map (decO C))
  | .builtin b =>
    match c.args.toList.map (decO C), c.argTypes.toList with
    | [x], [t] => (match b with
      | .len => (match C.P.underlying t with | some .string => .len true x | some (.slice _) => .len false x | some (.array n _) => .lenk n | some (.map _ _) => .maplen x | _ => badOp)
      | .cap => .cap x
      | .max => .minmax true [x]
      | .min => .minmax false [x]
      | .clear => .ext (.clear (szOf C.P (elOf C.P t)) (zcOf C.P (elOf C.P t))) [x]
      | _ => badOp)
    | [x, y], t :: _ => (match b with
      | .append => cond (isIntT C.P (c.argTypes.toList.tail.headD 0)) (.ext (.grow (szOf C.P (elOf C.P t)) (byOf C.P (elOf C.P t)) (zcOf C.P (elOf C.P t))) [x, y]) <| .append mu (szOf C.P (elOf C.P t)) (byOf C.P (elOf C.P t)) x y
      | .delete => .delete (kkOf C.P t) x y
      | .copy => .copy (szOf C.P (elOf C.P t)) x y
      | .max => .minmax true [x, y]
      | .min => .minmax false [x, y]
      | _ => badOp)
    | xs, _ => (match b with
      | .max => .minmax true xs
      | .min => .minmax false xs
      | _ => badOp)
  | .invoke x name => .inv (invOf C name tys) (decO C x) (c.args.toList.map (decO C))

def decOp (C : Ctx) (tys : List TypeId) (mu : Bool) : Op → AOp
  | .move x => .mv (decO C x)
  | .assign x => .mv (decO C x)
  | .pick c a b => .pick (decO C c) (decO C a) (decO C b)
  | .binOp op t x y _ =>
    match op, C.P.underlying t with
    | .eql, some d => (match nilKind d, d with
      | some k, _ => cond (isNilO y) (.isnil k false (decO C x)) (match k with | .p => .ext (.ptreq false) [decO C x, decO C y] | _ => badOp)
      | none, .bool => .beq false (decO C x) (decO C y)
      | none, .array _ _ => (match deepK C.P 9 t with | some l => .eqagg false l (decO C x) (decO C y) | none => badOp)
      | none, .struct _ => (match deepK C.P 9 t with | some l => .eqagg false l (decO C x) (decO C y) | none => badOp)
      | none, _ => .bin op (decO C x) (decO C y))
    | .neq, some d => (match nilKind d, d with
      | some k, _ => cond (isNilO y) (.isnil k true (decO C x)) (match k with | .p => .ext (.ptreq true) [decO C x, decO C y] | _ => badOp)
      | none, .bool => .beq true (decO C x) (decO C y)
      | none, .array _ _ => (match deepK C.P 9 t with | some l => .eqagg true l (decO C x) (decO C y) | none => badOp)
      | none, .struct _ => (match deepK C.P 9 t with | some l => .eqagg true l (decO C x) (decO C y) | none => badOp)
      | none, _ => .bin op (decO C x) (decO C y))
    | op, _ => .bin op (decO C x) (decO C y)
  | .unOp op _ x => .un op (decO C x)
  | .convert s d x =>
    match C.P.underlying s, C.P.underlying d with
    | some .string, some .string => .same (decO C x)
    | some .string, some (.slice _) => .sbytes (decO C x)
    | some (.slice _), some .string => .bstr (decO C x)
    | _, some (.int k) => .conv k (decO C x)
    | _, _ => badOp
  | .nilCheck x => .nilck (decO C x)
  | .field t x n => (match fieldOf C.P t n with | some f => .field f.offset (szOf C.P f.type) (agOf C.P f.type) (decO C x) | none => badOp)
  | .fieldAddr t x n => (match fieldOf C.P t n with | some f => .faddr f.offset (decO C x) | none => badOp)
  | .index t x i => (match C.P.underlying t with
    | some .string => .idxs (decO C x) (decO C i)
    | some (.array n e) => .idx n (szOf C.P e) (agOf C.P e) (decO C x) (decO C i)
    | _ => badOp)
  | .indexAddr t x i => (match C.P.underlying t with
    | some (.slice e) => .iaddr none (szOf C.P e) (decO C x) (decO C i)
    | some (.array n e) => .iaddr (some n) (szOf C.P e) (decO C x) (decO C i)
    | _ => badOp)
  | .slice t x lo hi mx => (match C.P.underlying t with
    | some .string => .sslice (decO C x) (lo.map (decO C)) (hi.map (decO C))
    | some (.slice e) => .slice (szOf C.P e) (decO C x) (lo.map (decO C)) (hi.map (decO C)) (mx.map (decO C))
    | _ => badOp)
  | .makeInterface t x => .mkif t (decO C x)
  | .makeFunc (.func f) first caps => cond (goodFn C.P f) (match first.toList with
    | [] => .mkfn f (caps.toList.map (decO C))
    | l => .mkfn (f + 1048576) (l.map (decO C))) badOp
  | .extract x i => .extract i (decO C x)
  | .build t ps => .build (zcOf C.P t) (ps.toList.map fun p => match placeOf C.P t p.1 with | some (o, s) => (o, s, decO C p.2) | none => (0, 0, badO))
  | .buildSlice t len ps => .bslice mu (szOf C.P (elOf C.P t)) len (zcOf C.P (elOf C.P t)) (ps.toList.map fun p => (p.1 * szOf C.P (elOf C.P t), szOf C.P (elOf C.P t), decO C p.2))
  | .load t x => .load (szOf C.P t) (agOf C.P t) (decO C x)
  | .store t x v => .store (szOf C.P t) (decO C x) (decO C v)
  | .box t x => .box mu (szOf C.P t) (decO C x)
  | .alloc t => cond (isBld C.P t) (.ext (.bnew t) []) (.alloc mu (zcOf C.P t))
  | .makeSlice t l c => .make mu (szOf C.P (elOf C.P t)) (byOf C.P (elOf C.P t)) (zcOf C.P (elOf C.P t)) (decO C l) (decO C c)
  | .range _ x => .srange (decO C x)
  | .next x true => .snext (decO C x)
  | .makeMap _ _ => .mkmap
  | .lookup t m k ok => .lookup (kkOf C.P t) (decK (zvOf C.P (elOf C.P t))) ok (decO C m) (decO C k)
  | .mapUpdate t m k v => .mapup (kkOf C.P t) (decO C m) (decO C k) (decO C v)
  | .insert t m k v => .mapup (kkOf C.P t) (decO C m) (decO C k) (decO C v)
  | .typeAssert x _ t ok => cond ok badOp (.ext (.tassert t) [decO C x])
  | .call c => decCall C tys mu c
  | _ => badOp

def dstN : List Oper → Nat → Option Nat
  | [], _ => none
  | o :: r, i => match i with | 0 => o.dst | i + 1 => dstN r i

def decReg (C : Ctx) (tys : List TypeId) (mus : List Nat) (all : List Oper) : List Oper → List AOper
  | [] => []
  | o :: r => ⟨o.dst, decOp C tys (match o.dst with | some d => memN d mus | none => false) o.op, match o.guard with | some (j, want) => (match dstN all j with | some s => some (s, want) | none => none) | none => none⟩ :: decReg C tys mus all r

/-! Regions whose order is open. -/
def onOf : List Edge → List Nat
  | [] => []
  | e :: r => cond (Region.binds .any e) (addN e.on (onOf r)) (onOf r)
def nthN : List (List Nat) → Nat → List Nat
  | [], _ => []
  | l :: r, i => match i with | 0 => l | i + 1 => nthN r i
def prGo : List (List Nat) → List Nat → List Nat → List Nat
  | pr, acc, [] => acc
  | pr, acc, e :: r => prGo pr (uniN (nthN pr e) acc) r
def prOf : List (List Nat) → List Oper → List (List Nat)
  | pr, [] => pr
  | pr, o :: r => let es := onOf o.after.toList; prOf (pr ++ [prGo pr es es]) r

/-- An operation's number, what must come ahead of it, its kind (0: an effect; 1: a read; 2: neither), whether it makes a variable. -/
structure DR where
  i : Nat
  pr : List Nat
  k : Nat
  al : Bool
def drs (ops : List AOper) (pr : List (List Nat)) : Nat → List AOper → List (List Nat) → List DR
  | i, o :: r, p :: q => ⟨i, p, cond (isP o.op) 2 (cond (isR o.op) 1 0), isAl ops pr i⟩ :: drs ops pr (i + 1) r q
  | _, _, _ => []
/-- What may be done: (done, this part, last first). -/
def segD : List DR → List Nat → List Nat → List Nat × List Nat
  | [], done, out => (done, out.reverse)
  | d :: r, done, out => cond (Nat.beq d.k 0) (segD r done out) (cond (memN d.i done) (segD r done out) (cond (subN d.pr done) (segD r (d.i :: done) (d.i :: out)) (segD r done out)))
def alsD : List DR → List Nat → List Nat → List DR
  | [], _, _ => []
  | d :: r, pr, seq => cond d.al (cond (memN d.i pr) (cond (memN d.i seq) (alsD r pr seq) (d :: alsD r pr seq)) (alsD r pr seq)) (alsD r pr seq)
def effD (all : List DR) : List DR → List Nat → List DR
  | [], seq => all.filter fun d => d.al && !memN d.i seq
  | d :: r, seq => cond (Nat.beq d.k 0) (cond d.al (effD all r seq) (let a := alsD all d.pr seq; a ++ d :: effD all r (d.i :: (a.map DR.i ++ seq)))) (effD all r seq)
def stD : List DR → List Nat → List Nat → List Nat
  | [], _, _ => []
  | d :: r, done, pr => cond (Nat.beq d.k 1) (cond (memN d.i done) (cond (memN d.i pr) (stD r done pr) (d.i :: stD r done pr)) (stD r done pr)) (stD r done pr)
def planD (all : List DR) : List DR → List Nat → List (List Nat × Nat × List Nat) × List Nat
  | [], done => ([], (segD all done []).2)
  | e :: r, done => let s := segD all done []; let q := planD all r (e.i :: s.1); ((s.2, e.i, stD all s.1 e.pr) :: q.1, q.2)
def decDraw (ops : List Oper) (al : List AOper) : ACode :=
  let pr := prOf [] ops
  let ds := drs al pr 0 al pr
  let p := planD ds (effD ds ds []) []
  .draw al pr p.1 p.2

def isMv (t : Nat) (o : AOper) : Bool := match o.op with | .mv (.t s) => Nat.beq s t | _ => false
def isDst (l : List Nat) (o : AOper) : Bool := match o.dst with | some d => memN d l | none => false

/-- What is frozen ahead of a region. -/
def fzoN : List (Nat × List Nat) → Nat → List Nat
  | [], _ => []
  | (i, l) :: r, id => cond (Nat.beq i id) l (fzoN r id)
def frzC : List Nat → ACode → ACode
  | [], c => c
  | t :: r, c => .freeze t (frzC r c)
def decC (C : Ctx) (tys : List TypeId) (mus : List Nat) (fz : Option Nat) (fzo : List (Nat × List Nat)) (res : List Nat) : Code → List (List Nat) → ACode × List (List Nat)
  | .skip, h => (.skip, h)
  | .region id ops false, h =>
    let al := decReg C tys mus ops.toList ops.toList
    (frzC (fzoN fzo id) (match fz with
      | none => .region al
      | some t => cond (al.any (isMv t) && al.any (isDst res)) (.freeze t (.region al)) (.region al)), h)
  | .region id ops true, h => (frzC (fzoN fzo id) (decDraw ops.toList (decReg C tys mus ops.toList ops.toList)), h)
  | .seq a b, h => let p := decC C tys mus fz fzo res a h; let q := decC C tys mus fz fzo res b p.2; (.seq p.1 q.1, q.2)
  | .cond c a b, h => let p := decC C tys mus fz fzo res a h; let q := decC C tys mus fz fzo res b p.2; (.cond (decO C c) p.1 q.1, q.2)
  | .block id a, h => let p := decC C tys mus fz fzo res a h; (.block id p.1, p.2)
  | .loop a, h => let p := decC C tys mus fz fzo res a h.tail; (.loop (h.headD []) (lessN (asg p.1) (h.headD [])) p.1, p.2)
  | .exit id, h => (.exit id, h)
  | .ret, h => (.ret, h)
  | _, h => (.exit 0, h)

def resN : List ResultVar → List Nat
  | [] => []
  | .tmp t :: r => t :: resN r
  | .cell t _ :: r => t :: resN r
def decRes (P : Program) : List ResultVar → List ARes
  | [] => []
  | .tmp t :: r => .tmp t :: decRes P r
  | .cell t ty :: r => .cell t (szOf P ty) (agOf P ty) :: decRes P r

/-- A function of the program, in the small language. -/
def decF (C : Ctx) (h : Hint) : AFunc :=
  match C.P.funcs[h.fid]? with
  | some fn => ⟨fn.ntmps, decRes C.P fn.results.toList, match fn.body with | some c => (decC C h.tys h.mus h.fz h.fzo (resN fn.results.toList) c h.loops).1 | none => .skip⟩
  | none => ⟨0, [], .exit 0⟩

/-- A program whose functions are called by their numbers. -/
def idC (P : Program) (GT : Nat → Option (List AV)) : Ctx := ⟨P, fun k => cond (goodFn P k) (some k) none, GT⟩
theorem idC_fok (P : Program) (GT : Nat → Option (List AV)) : FOK (idC P GT) := by
  intro key f hf
  simp only [idC] at hf
  cases hg : goodFn P key with
  | true => rw [hg] at hf; simp only [cond_true, Option.some.injEq] at hf; subst hf; exact hg
  | false => rw [hg] at hf; cases hf
/-- Each function is as it has been made. -/
def chkH (C : Ctx) : List Hint → Bool
  | [] => true
  | h :: r => and (chkF C h.fid (decF C h)) (chkH C r)
theorem chkH_mem {C : Ctx} : ∀ {L : List Hint}, chkH C L = true → ∀ h, h ∈ L → chkF C h.fid (decF C h) = true
  | [], _, h, hm => by cases hm
  | p :: r, hc, h, hm => by
    simp only [chkH, Bool.and_eq_true] at hc
    rcases List.mem_cons.1 hm with rfl | hm
    · exact hc.1
    · exact chkH_mem hc.2 h hm
theorem chkH_app {C : Ctx} : ∀ {L M : List Hint}, chkH C L = true → chkH C M = true → chkH C (L ++ M) = true
  | [], _, _, h => h
  | p :: r, M, hc, h => by
    simp only [chkH, Bool.and_eq_true] at hc
    simp only [List.cons_append, chkH, Bool.and_eq_true]
    exact ⟨hc.1, chkH_app hc.2 h⟩

end Rb

/- Quick ways to reckon what the small language's operations say: the same values, found by fewer steps. -/
set_option linter.unusedVariables false
set_option linter.unusedSimpArgs false
namespace Rb
open Go
noncomputable section

theorem nb (a b : Nat) : Nat.beq a b = decide (a = b) := by rw [Bool.eq_iff_iff]; simp
theorem nl (a b : Nat) : Nat.blt a b = decide (a < b) := by rw [Bool.eq_iff_iff]; simp [Nat.blt]; omega
theorem ne' (a b : Nat) : Nat.ble a b = decide (a ≤ b) := by rw [Bool.eq_iff_iff]; simp

/-- A call that is named, so that the kernel comes back up before it goes on: long lists would else go too deep. -/
def apK {α β : Type} (f : α → β) (a : α) : β := f a

/-! Lists -/
def nthF {α : Type} (l : List α) : Nat → Option α := List.rec (motive := fun _ => Nat → Option α) (fun _ => none) (fun x _ ih n => Nat.rec (motive := fun _ => Option α) (some x) (fun m _ => apK ih m) n) l
theorem nthF_eq {α : Type} : ∀ (l : List α) (n : Nat), nthF l n = l[n]?
  | [], n => by cases n <;> rfl
  | x :: r, 0 => rfl
  | x :: r, n + 1 => by rw [List.getElem?_cons_succ, ← nthF_eq r n]; rfl
def dropF {α : Type} (n : Nat) : List α → List α := Nat.rec (motive := fun _ => List α → List α) (fun l => l) (fun _ ih l => List.rec (motive := fun _ => List α) [] (fun _ t _ => apK ih t) l) n
theorem dropF_eq {α : Type} : ∀ (n : Nat) (l : List α), dropF n l = l.drop n
  | 0, l => rfl
  | n + 1, [] => rfl
  | n + 1, x :: r => by rw [List.drop_succ_cons, ← dropF_eq n r]; rfl
def leF {α : Type} (n : Nat) : List α → Bool := Nat.rec (motive := fun _ => List α → Bool) (fun _ => true) (fun _ ih l => List.rec (motive := fun _ => Bool) false (fun _ t _ => apK ih t) l) n
theorem leF_eq {α : Type} : ∀ (n : Nat) (l : List α), leF n l = decide (n ≤ l.length)
  | 0, l => by simp; rfl
  | n + 1, [] => by simp; rfl
  | n + 1, x :: r => by rw [List.length_cons, show decide (n + 1 ≤ r.length + 1) = decide (n ≤ r.length) by simp, ← leF_eq n r]; rfl

/-! Numbers -/
def kN : IntKind → Nat
  | .i8 => 0 | .i16 => 1 | .i32 => 2 | .i64 => 3 | .u8 => 4 | .u16 => 5 | .u32 => 6 | .u64 => 7
def kEq (k k' : IntKind) : Bool := Nat.beq (kN k) (kN k')
theorem kEq_eq {k k' : IntKind} (h : kEq k k' = true) : k = k' := by
  revert h; cases k <;> cases k' <;> decide
def lim : IntKind → Nat
  | .i8 => 128 | .i16 => 32768 | .i32 => 2147483648 | .i64 => 9223372036854775808 | .u8 => 256 | .u16 => 65536 | .u32 => 4294967296 | .u64 => 18446744073709551616
theorem wrap_lim {k : IntKind} {m : Nat} (h : m < lim k) : k.wrap (Int.ofNat m) = Int.ofNat m := by
  have hm : (Int.ofNat m) = (m : Int) := rfl
  rw [hm]
  cases k <;> simp only [lim] at h <;> simp only [IntKind.wrap, IntKind.bits, IntKind.signed] <;> simp <;> omega

def asNat (v : AV) (d : Option AV) (f : IntKind → Nat → Option AV) : Option AV :=
  match v with
  | .int k n => (match n with | .ofNat m => f k m | .negSucc _ => d)
  | _ => d
theorem asNat_eq {v : AV} {d : Option AV} {f : IntKind → Nat → Option AV} (h : ∀ k m, v = .int k (.ofNat m) → f k m = d) : asNat v d f = d := by
  unfold asNat
  split
  · split
    · exact h _ _ rfl
    · rfl
  · rfl

def natOp (g : IntKind → Nat → Nat → Option AV → Option AV) (s : Option AV) (x y : AV) : Option AV :=
  asNat x s fun k a => asNat y s fun k' b => cond (kEq k k') (g k a b s) s
theorem natOp_eq {g : IntKind → Nat → Nat → Option AV → Option AV} {op : BinOp} (hg : ∀ k a b, g k a b (abinInt op k (.ofNat a) k (.ofNat b)) = abinInt op k (.ofNat a) k (.ofNat b)) (x y : AV) : natOp g (abin op x y) x y = abin op x y := by
  refine asNat_eq fun k a hx => asNat_eq fun k' b hy => ?_
  subst hx hy
  cases h : kEq k k' with
  | false => rfl
  | true =>
    obtain rfl := kEq_eq h
    exact hg k a b

def gAdd (k : IntKind) (a b : Nat) (s : Option AV) : Option AV := cond (Nat.blt (Nat.add a b) (lim k)) (some (.int k (.ofNat (Nat.add a b)))) s
def gSub (k : IntKind) (a b : Nat) (s : Option AV) : Option AV := cond (and (Nat.ble b a) (Nat.blt a (lim k))) (some (.int k (.ofNat (Nat.sub a b)))) s
def gMul (k : IntKind) (a b : Nat) (s : Option AV) : Option AV := cond (Nat.blt (Nat.mul a b) (lim k)) (some (.int k (.ofNat (Nat.mul a b)))) s
def gLss (k : IntKind) (a b : Nat) (s : Option AV) : Option AV := some (.bool (Nat.blt a b))
def gLeq (k : IntKind) (a b : Nat) (s : Option AV) : Option AV := some (.bool (Nat.ble a b))
def gGtr (k : IntKind) (a b : Nat) (s : Option AV) : Option AV := some (.bool (Nat.blt b a))
def gGeq (k : IntKind) (a b : Nat) (s : Option AV) : Option AV := some (.bool (Nat.ble b a))
def gEql (k : IntKind) (a b : Nat) (s : Option AV) : Option AV := some (.bool (Nat.beq a b))
def gNeq (k : IntKind) (a b : Nat) (s : Option AV) : Option AV := some (.bool (not (Nat.beq a b)))
def gQuo (k : IntKind) (a b : Nat) (s : Option AV) : Option AV := cond (and (Nat.blt 0 b) (Nat.blt a (lim k))) (some (.int k (.ofNat (Nat.div a b)))) s
def gRem (k : IntKind) (a b : Nat) (s : Option AV) : Option AV := cond (Nat.blt 0 b) (some (.int k (.ofNat (Nat.mod a b)))) s
def gAnd (k : IntKind) (a b : Nat) (s : Option AV) : Option AV := cond (and (Nat.blt a (lim k)) (Nat.blt b (lim k))) (some (.int k (.ofNat (Nat.land a b)))) s
def gOr (k : IntKind) (a b : Nat) (s : Option AV) : Option AV := cond (and (Nat.blt a (lim k)) (Nat.blt b (lim k))) (some (.int k (.ofNat (Nat.lor a b)))) s
def gXor (k : IntKind) (a b : Nat) (s : Option AV) : Option AV := cond (and (Nat.blt a (lim k)) (Nat.blt b (lim k))) (some (.int k (.ofNat (Nat.xor a b)))) s

theorem gAdd_eq (k : IntKind) (a b : Nat) : gAdd k a b (abinInt .add k (.ofNat a) k (.ofNat b)) = abinInt .add k (.ofNat a) k (.ofNat b) := by
  unfold gAdd
  rw [nl]
  by_cases h : Nat.add a b < lim k
  · simp only [h, decide_true, cond_true, abinInt, if_true]
    rw [show (Int.ofNat a + Int.ofNat b) = Int.ofNat (Nat.add a b) from rfl, wrap_lim h]
  · simp only [h, decide_false, cond_false]
theorem gMul_eq (k : IntKind) (a b : Nat) : gMul k a b (abinInt .mul k (.ofNat a) k (.ofNat b)) = abinInt .mul k (.ofNat a) k (.ofNat b) := by
  unfold gMul
  rw [nl]
  by_cases h : Nat.mul a b < lim k
  · simp only [h, decide_true, cond_true, abinInt, if_true]
    rw [show (Int.ofNat a * Int.ofNat b) = Int.ofNat (Nat.mul a b) from rfl, wrap_lim h]
  · simp only [h, decide_false, cond_false]
theorem gSub_eq (k : IntKind) (a b : Nat) : gSub k a b (abinInt .sub k (.ofNat a) k (.ofNat b)) = abinInt .sub k (.ofNat a) k (.ofNat b) := by
  unfold gSub
  rw [nl, ne']
  by_cases h : b ≤ a ∧ a < lim k
  · simp only [h.1, h.2, decide_true, Bool.and_self, cond_true, abinInt, if_true]
    have : (Int.ofNat a - Int.ofNat b) = Int.ofNat (Nat.sub a b) := by
      show (a : Int) - (b : Int) = ((a - b : Nat) : Int)
      omega
    rw [this, wrap_lim (show Nat.sub a b < lim k from Nat.lt_of_le_of_lt (Nat.sub_le _ _) h.2)]
  · have : (decide (b ≤ a) && decide (a < lim k)) = false := by
      rw [Bool.eq_false_iff]; intro h2; simp at h2; exact h h2
    simp only [this, cond_false]
theorem gLss_eq (k : IntKind) (a b : Nat) : gLss k a b (abinInt .lss k (.ofNat a) k (.ofNat b)) = abinInt .lss k (.ofNat a) k (.ofNat b) := by
  simp only [gLss, abinInt, if_true, nl]
  congr 2
  simp
theorem gLeq_eq (k : IntKind) (a b : Nat) : gLeq k a b (abinInt .leq k (.ofNat a) k (.ofNat b)) = abinInt .leq k (.ofNat a) k (.ofNat b) := by
  simp only [gLeq, abinInt, if_true, ne']
  congr 2
  simp
theorem gGtr_eq (k : IntKind) (a b : Nat) : gGtr k a b (abinInt .gtr k (.ofNat a) k (.ofNat b)) = abinInt .gtr k (.ofNat a) k (.ofNat b) := by
  simp only [gGtr, abinInt, if_true, nl]
  congr 2
  simp
theorem gGeq_eq (k : IntKind) (a b : Nat) : gGeq k a b (abinInt .geq k (.ofNat a) k (.ofNat b)) = abinInt .geq k (.ofNat a) k (.ofNat b) := by
  simp only [gGeq, abinInt, if_true, ne']
  congr 2
  simp
theorem ofN_beq (a b : Nat) : (Int.ofNat a == Int.ofNat b) = decide (a = b) := by
  rw [Bool.eq_iff_iff]; simp; omega
theorem gEql_eq (k : IntKind) (a b : Nat) : gEql k a b (abinInt .eql k (.ofNat a) k (.ofNat b)) = abinInt .eql k (.ofNat a) k (.ofNat b) := by
  simp only [gEql, abinInt, if_true, nb, ofN_beq]
theorem gNeq_eq (k : IntKind) (a b : Nat) : gNeq k a b (abinInt .neq k (.ofNat a) k (.ofNat b)) = abinInt .neq k (.ofNat a) k (.ofNat b) := by
  simp only [gNeq, abinInt, if_true, nb, bne, ofN_beq]
theorem gRem_eq (k : IntKind) (a b : Nat) : gRem k a b (abinInt .rem k (.ofNat a) k (.ofNat b)) = abinInt .rem k (.ofNat a) k (.ofNat b) := by
  unfold gRem
  rw [nl]
  by_cases h : 0 < b
  · have hb : (Int.ofNat b) ≠ 0 := by simp; omega
    simp only [h, decide_true, cond_true, abinInt, if_pos (show True ∧ Int.ofNat b ≠ 0 from ⟨trivial, hb⟩)]
    rfl
  · simp only [h, decide_false, cond_false]
theorem gQuo_eq (k : IntKind) (a b : Nat) : gQuo k a b (abinInt .quo k (.ofNat a) k (.ofNat b)) = abinInt .quo k (.ofNat a) k (.ofNat b) := by
  unfold gQuo
  rw [nl, nl]
  by_cases h : 0 < b ∧ a < lim k
  · have hb : (Int.ofNat b) ≠ 0 := by have := h.1; simp; omega
    simp only [h.1, h.2, decide_true, Bool.and_self, cond_true, abinInt, if_pos (show True ∧ Int.ofNat b ≠ 0 from ⟨trivial, hb⟩)]
    rw [show (Int.ofNat a).tdiv (Int.ofNat b) = Int.ofNat (Nat.div a b) from rfl, wrap_lim (show Nat.div a b < lim k from Nat.lt_of_le_of_lt (Nat.div_le_self _ _) h.2)]
  · have : (decide (0 < b) && decide (a < lim k)) = false := by
      rw [Bool.eq_false_iff]; intro h2; simp at h2; exact h h2
    simp only [this, cond_false]
theorem lim_le (k : IntKind) : lim k ≤ 2 ^ k.bits := by cases k <;> decide
theorem lim_pow (k : IntKind) : ∃ n, lim k = 2 ^ n := by
  cases k
  · exact ⟨7, rfl⟩
  · exact ⟨15, rfl⟩
  · exact ⟨31, rfl⟩
  · exact ⟨63, rfl⟩
  · exact ⟨8, rfl⟩
  · exact ⟨16, rfl⟩
  · exact ⟨32, rfl⟩
  · exact ⟨64, rfl⟩
theorem bits_eq {op : BinOp} {f : Nat → Nat → Nat} (k : IntKind) (a b : Nat) (ha : a < lim k) (hb : b < lim k) (hf : f a b < lim k)
    (h : bitsOp op k (.ofNat a) (.ofNat b) = some (k.wrap (((f (BitVec.ofInt k.bits (.ofNat a)).toNat (BitVec.ofInt k.bits (.ofNat b)).toNat) : Nat) : Int))) : bitsOp op k (.ofNat a) (.ofNat b) = some (.ofNat (f a b)) := by
  have h2 := lim_le k
  have e : ∀ n : Nat, n < lim k → (BitVec.ofInt k.bits (.ofNat n)).toNat = n := fun n hn => by
    have : BitVec.ofInt k.bits (.ofNat n) = BitVec.ofNat k.bits n := by simp
    rw [this, BitVec.toNat_ofNat, Nat.mod_eq_of_lt (by omega)]
  rw [h, e a ha, e b hb]
  exact congrArg some (wrap_lim hf)
theorem gAnd_eq (k : IntKind) (a b : Nat) : gAnd k a b (abinInt .and k (.ofNat a) k (.ofNat b)) = abinInt .and k (.ofNat a) k (.ofNat b) := by
  unfold gAnd
  rw [nl, nl]
  by_cases h : a < lim k ∧ b < lim k
  · simp only [h.1, h.2, decide_true, Bool.and_self, cond_true, abinInt, if_true]
    rw [bits_eq (op := .and) (f := Nat.land) k a b h.1 h.2 (Nat.lt_of_le_of_lt Nat.and_le_left h.1) (by simp only [bitsOp, BitVec.toNat_and]; rfl)]
    rfl
  · have : (decide (a < lim k) && decide (b < lim k)) = false := by
      rw [Bool.eq_false_iff]; intro h2; simp at h2; exact h h2
    simp only [this, cond_false]
theorem gOr_eq (k : IntKind) (a b : Nat) : gOr k a b (abinInt .or k (.ofNat a) k (.ofNat b)) = abinInt .or k (.ofNat a) k (.ofNat b) := by
  unfold gOr
  rw [nl, nl]
  by_cases h : a < lim k ∧ b < lim k
  · simp only [h.1, h.2, decide_true, Bool.and_self, cond_true, abinInt, if_true]
    have hl : Nat.lor a b < lim k := by
      obtain ⟨n, hn⟩ := lim_pow k
      rw [hn] at h ⊢
      exact Nat.or_lt_two_pow h.1 h.2
    rw [bits_eq (op := .or) (f := Nat.lor) k a b h.1 h.2 hl (by simp only [bitsOp, BitVec.toNat_or]; rfl)]
    rfl
  · have : (decide (a < lim k) && decide (b < lim k)) = false := by
      rw [Bool.eq_false_iff]; intro h2; simp at h2; exact h h2
    simp only [this, cond_false]
theorem gXor_eq (k : IntKind) (a b : Nat) : gXor k a b (abinInt .xor k (.ofNat a) k (.ofNat b)) = abinInt .xor k (.ofNat a) k (.ofNat b) := by
  unfold gXor
  rw [nl, nl]
  by_cases h : a < lim k ∧ b < lim k
  · simp only [h.1, h.2, decide_true, Bool.and_self, cond_true, abinInt, if_true]
    have hl : Nat.xor a b < lim k := by
      obtain ⟨n, hn⟩ := lim_pow k
      rw [hn] at h ⊢
      exact Nat.xor_lt_two_pow h.1 h.2
    rw [bits_eq (op := .xor) (f := Nat.xor) k a b h.1 h.2 hl (by simp only [bitsOp, BitVec.toNat_xor]; rfl)]
    rfl
  · have : (decide (a < lim k) && decide (b < lim k)) = false := by
      rw [Bool.eq_false_iff]; intro h2; simp at h2; exact h h2
    simp only [this, cond_false]

structure BinC where
  f : AV → AV → Option AV
def binC : BinOp → BinC
  | .add => ⟨fun x y => natOp gAdd (abin .add x y) x y⟩
  | .sub => ⟨fun x y => natOp gSub (abin .sub x y) x y⟩
  | .mul => ⟨fun x y => natOp gMul (abin .mul x y) x y⟩
  | .quo => ⟨fun x y => natOp gQuo (abin .quo x y) x y⟩
  | .rem => ⟨fun x y => natOp gRem (abin .rem x y) x y⟩
  | .and => ⟨fun x y => natOp gAnd (abin .and x y) x y⟩
  | .or => ⟨fun x y => natOp gOr (abin .or x y) x y⟩
  | .xor => ⟨fun x y => natOp gXor (abin .xor x y) x y⟩
  | .lss => ⟨fun x y => natOp gLss (abin .lss x y) x y⟩
  | .leq => ⟨fun x y => natOp gLeq (abin .leq x y) x y⟩
  | .gtr => ⟨fun x y => natOp gGtr (abin .gtr x y) x y⟩
  | .geq => ⟨fun x y => natOp gGeq (abin .geq x y) x y⟩
  | .eql => ⟨fun x y => natOp gEql (abin .eql x y) x y⟩
  | .neq => ⟨fun x y => natOp gNeq (abin .neq x y) x y⟩
  | .shl => ⟨fun x y => abin .shl x y⟩
  | .shr => ⟨fun x y => abin .shr x y⟩
  | .andNot => ⟨fun x y => abin .andNot x y⟩
theorem binC_eq (op : BinOp) (x y : AV) : (binC op).f x y = abin op x y := by
  cases op <;> first | rfl | exact natOp_eq (by first | exact gAdd_eq | exact gSub_eq | exact gMul_eq | exact gQuo_eq | exact gRem_eq | exact gAnd_eq | exact gOr_eq | exact gXor_eq | exact gLss_eq | exact gLeq_eq | exact gGtr_eq | exact gGeq_eq | exact gEql_eq | exact gNeq_eq) x y

def convF (k : IntKind) (x : AV) : Option AV := asNat x (aconv k x) fun _ m => cond (Nat.blt m (lim k)) (some (.int k (.ofNat m))) (aconv k x)
theorem convF_eq (k : IntKind) (x : AV) : convF k x = aconv k x := by
  refine asNat_eq fun k' m hx => ?_
  subst hx
  rw [nl]
  by_cases h : m < lim k
  · simp only [h, decide_true, cond_true, aconv]
    rw [wrap_lim h]
  · simp only [h, decide_false, cond_false]

/-! Places -/
def takeF (cs : List AV) (o n : Nat) (agg : Bool) : Option AV :=
  cond agg (cond (leF (Nat.add o n) cs) (some (.agg ((dropF o cs).take n))) none) (cond (Nat.beq n 1) (nthF cs o) (takeCells cs o n false))
theorem takeF_eq (cs : List AV) (o n : Nat) (agg : Bool) : takeF cs o n agg = takeCells cs o n agg := by
  unfold takeF takeCells
  cases agg with
  | true =>
    rw [leF_eq, dropF_eq]
    by_cases h : o + n ≤ cs.length
    · rw [if_pos h]; simp [show Nat.add o n = o + n from rfl, h]
    · rw [if_neg h]; simp [show Nat.add o n = o + n from rfl, h]
  | false =>
    rw [nb, nthF_eq]
    by_cases h1 : n = 1
    · subst h1
      simp only [decide_true, cond_true, cond_false, Bool.false_eq_true, if_false]
      by_cases h : o + 1 ≤ cs.length
      · rw [if_pos h]
      · rw [if_neg h, List.getElem?_eq_none (by omega)]
    · simp only [h1, decide_false, cond_false]
def fieldF (off sz : Nat) (agg : Bool) (x : AV) : Option AV :=
  match x with
  | .agg cs => takeF cs off sz agg
  | _ => none
theorem fieldF_eq (off sz : Nat) (agg : Bool) (x : AV) : fieldF off sz agg x = afield off sz agg x := by
  unfold fieldF afield; cases x <;> first | rfl | exact takeF_eq _ _ _ _
def idxF (len sz : Nat) (agg : Bool) (x i : AV) : Option AV := asNat i (aidx len sz agg x i) fun k m => match x with
  | .agg cs => cond (Nat.blt m len) (takeF cs (Nat.mul m sz) sz agg) none
  | _ => aidx len sz agg x i
theorem idxF_eq (len sz : Nat) (agg : Bool) (x i : AV) : idxF len sz agg x i = aidx len sz agg x i := by
  refine asNat_eq fun k m hi => ?_
  subst hi
  cases x <;> first | rfl | skip
  rename_i cs
  dsimp only
  rw [nl, takeF_eq]
  simp only [aidx]
  by_cases h : m < len
  · rw [if_pos ⟨Int.natCast_nonneg _, by exact Int.ofNat_lt.2 h⟩]; simp only [h, decide_true, cond_true]; rfl
  · rw [if_neg (fun h2 => h (Int.ofNat_lt.1 h2.2))]; simp only [h, decide_false, cond_false]
def idxsF (x i : AV) : Option AV := asNat i (aidxs x i) fun _ m => match x with
  | .str s => (match nthF s m with | some b => some (.int .u8 (.ofNat b.toNat)) | none => none)
  | _ => aidxs x i
theorem idxsF_eq (x i : AV) : idxsF x i = aidxs x i := by
  refine asNat_eq fun k m hi => ?_
  subst hi
  cases x <;> first | rfl | skip
  rename_i s
  dsimp only
  rw [nthF_eq]
  simp only [aidxs]
  rw [if_pos (show 0 ≤ Int.ofNat m from Int.natCast_nonneg _)]
  show _ = Option.map _ s[m]?
  cases s[m]? <;> rfl
def iaddrF (arr : Option Nat) (sz : Nat) (x i : AV) : Option AV := asNat i (aiaddr arr sz x i) fun _ m => match arr, x with
  | none, .lst _ len cells => cond (Nat.blt m len) (some (.fptr (dropF (Nat.mul m sz) cells))) none
  | none, .row id o len _ => cond (Nat.blt m len) (some (.ptr id (Nat.add o (Nat.mul m sz)))) none
  | some n, .ptr id o => cond (Nat.blt m n) (some (.ptr id (Nat.add o (Nat.mul m sz)))) none
  | some n, .fptr cells => cond (Nat.blt m n) (some (.fptr (dropF (Nat.mul m sz) cells))) none
  | _, _ => aiaddr arr sz x i
theorem iaddrF_eq (arr : Option Nat) (sz : Nat) (x i : AV) : iaddrF arr sz x i = aiaddr arr sz x i := by
  refine asNat_eq fun k m hi => ?_
  subst hi
  have key : ∀ (n : Nat) (v : AV), cond (Nat.blt m n) (some v) none = if 0 ≤ (Int.ofNat m) ∧ (Int.ofNat m) < (n : Int) then some v else none := by
    intro n v
    rw [nl]
    by_cases h : m < n
    · rw [if_pos ⟨Int.natCast_nonneg _, Int.ofNat_lt.2 h⟩]; simp only [h, decide_true, cond_true]
    · rw [if_neg (fun h2 => h (Int.ofNat_lt.1 h2.2))]; simp only [h, decide_false, cond_false]
  cases arr <;> cases x <;> first
    | rfl
    | (dsimp only; rw [key]; simp only [dropF_eq]; rfl)
    | (dsimp only; rw [key]; rfl)
def loadF (T : TH) (n : Nat) (agg : Bool) (x : AV) : Option AV :=
  match x with
  | .ptr id o => (match T.t.get id with | .row cs => takeF cs o n agg | _ => none)
  | .fptr cs => takeF cs 0 n agg
  | _ => none
theorem loadF_eq (T : TH) (n : Nat) (agg : Bool) (x : AV) : loadF T n agg x = aload T.ah n agg x := by
  unfold loadF aload
  cases x <;> first | rfl | skip
  · dsimp only
    show _ = match T.t.get _ with | .row cs => _ | _ => _
    split <;> first | rfl | exact takeF_eq _ _ _ _
  · exact takeF_eq _ _ _ _
end
end Rb

/- Runs by pieces that are made once: each piece of a text becomes a function over the slots' values, in a box, so that it is found again. All values are reckoned to the end before they are handed on: what waits would drag behind it all that it came from. -/
set_option linter.unusedVariables false
set_option linter.unusedSimpArgs false
namespace Rb
open Go
noncomputable section

/-! Values, reckoned to the end and handed on -/
def natV (m : Nat) (K : Nat → Bool) : Bool := Nat.rec (motive := fun _ => Bool) (K 0) (fun p _ => K (Nat.succ p)) m
theorem natV_eq (m : Nat) (K : Nat → Bool) : natV m K = K m := by cases m <;> rfl
def spineK {α : Type} (l : List α) : (List α → Bool) → Bool := List.rec (motive := fun _ => (List α → Bool) → Bool) (fun K => K []) (fun x _ ih K => apK ih fun r => apK K (x :: r)) l
theorem spineK_eq {α : Type} : ∀ (l : List α) (K : List α → Bool), spineK l K = K l
  | [], K => rfl
  | x :: r, K => by show spineK r (fun r => K (x :: r)) = _; rw [spineK_eq r]
def dropK {α : Type} (n : Nat) : List α → (List α → Bool) → Bool := Nat.rec (motive := fun _ => List α → (List α → Bool) → Bool) (fun l K => K l) (fun _ ih l K => List.rec (motive := fun _ => Bool) (K []) (fun _ t _ => apK (ih t) K) l) n
theorem dropK_eq {α : Type} : ∀ (n : Nat) (l : List α) (K : List α → Bool), dropK n l K = K (l.drop n)
  | 0, l, K => rfl
  | n + 1, [], K => rfl
  | n + 1, x :: r, K => by rw [List.drop_succ_cons, ← dropK_eq n r K]; rfl

def fv (v : AV) (K : AV → Bool) : Bool :=
  match v with
  | .int k n => (match n with | .ofNat m => natV m fun m => K (.int k (.ofNat m)) | .negSucc m => natV m fun m => K (.int k (.negSucc m)))
  | .bool b => (match b with | true => K (.bool true) | false => K (.bool false))
  | .str s => spineK s fun s => K (.str s)
  | .ptr i o => natV i fun i => natV o fun o => K (.ptr i o)
  | .row i o l z => natV i fun i => natV o fun o => natV l fun l => K (.row i o l z)
  | .lst tk l cs => natV l fun l => spineK cs fun cs => K (.lst tk l cs)
  | .fptr cs => spineK cs fun cs => K (.fptr cs)
  | .agg cs => spineK cs fun cs => K (.agg cs)
  | .tup cs => spineK cs fun cs => K (.tup cs)
  | v => K v
theorem fv_eq (v : AV) (K : AV → Bool) : fv v K = K v := by
  unfold fv
  split <;> (try split) <;> simp only [natV_eq, spineK_eq]

/-- What comes to be; what was there and is handed on. -/
def DoK (x : Option AV) (K : AV → Bool) : Bool := match x with | some v => fv v K | none => false
theorem DoK_eq (x : Option AV) (K : AV → Bool) : DoK x K = DoB x K := by
  cases x with
  | none => rfl
  | some v => exact fv_eq v K
def DoR (x : Option AV) (K : AV → Bool) : Bool := match x with | some v => K v | none => false
theorem DoR_eq (x : Option AV) (K : AV → Bool) : DoR x K = DoB x K := by cases x <;> rfl

/-! The slots -/
def getK (E : EV) (t : Nat) (K : AV → Bool) : Bool := List.rec (motive := fun _ => Bool) (K .bot) (fun p _ ih => Prod.rec (motive := fun _ => Bool) (fun s v => Bool.rec (motive := fun _ => Bool) ih (K v) (Nat.beq s t)) p) E
theorem getK_eq : ∀ (E : EV) (t : Nat) (K : AV → Bool), getK E t K = K (eget E t)
  | [], t, K => rfl
  | (s, v) :: E, t, K => by
    show Bool.rec (motive := fun _ => Bool) (getK E t K) (K v) (Nat.beq s t) = K (cond (Nat.beq s t) v (eget E t))
    rw [getK_eq E t K]
    cases Nat.beq s t <;> rfl

def Opd.val (E : EV) : Opd → AV
  | .t n => eget E n
  | .k v => v
def ovals (E : EV) : Option Opd → Option AV
  | none => none
  | some x => some (x.val E)
def vals (E : EV) : List Opd → List AV
  | [] => []
  | x :: r => x.val E :: vals E r
def pvals (E : EV) : List (Nat × Nat × Opd) → List (Nat × Nat × AV)
  | [] => []
  | (a, b, x) :: r => (a, b, x.val E) :: pvals E r
theorem val_eq (E : EV) (x : Opd) : (x.sub E).ev [] = x.val E := by cases x <;> rfl
theorem vals_eq (E : EV) : ∀ xs : List Opd, evs [] (xs.map (Opd.sub E)) = vals E xs
  | [] => rfl
  | x :: r => by
    have := vals_eq E r
    simp only [evs, List.map_cons] at this ⊢
    rw [this, val_eq]; rfl
theorem pvals_eq (E : EV) : ∀ xs : List (Nat × Nat × Opd), evps [] (xs.map fun p => (p.1, p.2.1, p.2.2.sub E)) = pvals E xs
  | [] => rfl
  | (a, b, x) :: r => by
    have := pvals_eq E r
    simp only [evps, List.map_cons] at this ⊢
    rw [this, val_eq]; rfl
theorem ovals_eq (E : EV) (x : Option Opd) : (x.map (Opd.sub E)).map (Opd.ev []) = ovals E x := by
  cases x with
  | none => rfl
  | some x => exact congrArg some (val_eq E x)

def valK (x : Opd) (E : EV) (K : AV → Bool) : Bool := match x with | .t n => getK E n K | .k v => K v
theorem valK_eq (x : Opd) (E : EV) (K : AV → Bool) : valK x E K = K (x.val E) := by
  cases x with
  | t n => exact getK_eq E n K
  | k v => rfl
def valsK (E : EV) : List Opd → (List AV → Bool) → Bool
  | [], K => K []
  | x :: r, K => valK x E fun v => valsK E r fun vs => K (v :: vs)
theorem valsK_eq (E : EV) : ∀ (xs : List Opd) (K : List AV → Bool), valsK E xs K = K (vals E xs)
  | [], K => rfl
  | x :: r, K => by rw [valsK, valK_eq, valsK_eq E r]; rfl
def pvalsK (E : EV) : List (Nat × Nat × Opd) → (List (Nat × Nat × AV) → Bool) → Bool
  | [], K => K []
  | (a, b, x) :: r, K => valK x E fun v => pvalsK E r fun vs => K ((a, b, v) :: vs)
theorem pvalsK_eq (E : EV) : ∀ (xs : List (Nat × Nat × Opd)) (K : List (Nat × Nat × AV) → Bool), pvalsK E xs K = K (pvals E xs)
  | [], K => rfl
  | (a, b, x) :: r, K => by rw [pvalsK, valK_eq, pvalsK_eq E r]; rfl
def ovalK (E : EV) (x : Option Opd) (K : Option AV → Bool) : Bool := match x with | none => K none | some x => valK x E fun v => K (some v)
theorem ovalK_eq (E : EV) (x : Option Opd) (K : Option AV → Bool) : ovalK E x K = K (ovals E x) := by
  cases x with
  | none => rfl
  | some x => exact valK_eq x E _

/-! The memory -/
def setK (x : AObj) (f : Nat) : TT → Nat → (TT → Bool) → Bool :=
  Nat.rec (motive := fun _ => TT → Nat → (TT → Bool) → Bool) (fun t _ K => K t)
    (fun _ ih t i K => TT.casesOn (motive := fun _ => Bool) t
      (cond (Nat.beq i 0) (K (.node x .leaf .leaf)) (cond (Nat.beq (Nat.mod i 2) 1) (ih .leaf (Nat.div i 2) fun l => K (.node .gone l .leaf)) (ih .leaf (Nat.sub (Nat.div i 2) 1) fun r => K (.node .gone .leaf r))))
      (fun a l r => cond (Nat.beq i 0) (K (.node x l r)) (cond (Nat.beq (Nat.mod i 2) 1) (ih l (Nat.div i 2) fun l => K (.node a l r)) (ih r (Nat.sub (Nat.div i 2) 1) fun r => K (.node a l r))))) f
theorem setK_eq (x : AObj) : ∀ (f : Nat) (t : TT) (i : Nat) (K : TT → Bool), setK x f t i K = K (TT.setF x f t i) := by
  intro f
  induction f with
  | zero => intro t i K; cases t <;> rfl
  | succ f ih =>
    intro t i K
    cases t with
    | leaf =>
      show cond (Nat.beq i 0) (K (.node x .leaf .leaf)) (cond (Nat.beq (i % 2) 1) (setK x f .leaf (i / 2) fun l => K (.node .gone l .leaf)) (setK x f .leaf (i / 2 - 1) fun r => K (.node .gone .leaf r))) = _
      rw [ih, ih, TT.setF]
      cases Nat.beq i 0 <;> cases Nat.beq (i % 2) 1 <;> rfl
    | node a l r =>
      show cond (Nat.beq i 0) (K (.node x l r)) (cond (Nat.beq (i % 2) 1) (setK x f l (i / 2) fun l => K (.node a l r)) (setK x f r (i / 2 - 1) fun r => K (.node a l r))) = _
      rw [ih, ih, TT.setF]
      cases Nat.beq i 0 <;> cases Nat.beq (i % 2) 1 <;> rfl
def THset (T : TH) (i : Nat) (x : AObj) (K : TH → Bool) : Bool := match T with | ⟨n, t⟩ => setK x (Nat.succ i) t i fun t => K ⟨n, t⟩
theorem THset_eq (T : TH) (i : Nat) (x : AObj) (K : TH → Bool) : THset T i x K = K (T.set i x) := by
  obtain ⟨n, t⟩ := T
  exact setK_eq x (i + 1) t i fun t => K ⟨n, t⟩
def THpush (T : TH) (x : AObj) (K : TH → Bool) : Bool := match T with | ⟨n, t⟩ => setK x (Nat.succ n) t n fun t => natV (Nat.succ n) fun m => K ⟨m, t⟩
theorem THpush_eq (T : TH) (x : AObj) (K : TH → Bool) : THpush T x K = K (T.push x) := by
  obtain ⟨n, t⟩ := T
  simp only [THpush, setK_eq, natV_eq]
  rfl
def objK (x : AObj) (K : AObj → Bool) : Bool :=
  match x with
  | .row cs => spineK cs fun cs => K (.row cs)
  | .map es => spineK es fun es => K (.map es)
  | .tok a b => natV a fun a => K (.tok a b)
  | .siter s p => natV p fun p => K (.siter s p)
  | .bld T u b => K (.bld T u b)
  | .buf U bs => K (.buf U bs)
  | .gone => K .gone
theorem objK_eq (x : AObj) (K : AObj → Bool) : objK x K = K x := by cases x <;> simp only [objK, spineK_eq, natV_eq]

/-- Some cells written: those ahead of them are laid anew, those behind are shared. -/
def putK (n : Nat) : AV → List AV → (List AV → Bool) → Bool :=
  Nat.rec (motive := fun _ => AV → List AV → (List AV → Bool) → Bool) (fun v l K => List.rec (motive := fun _ => Bool) (K []) (fun _ t _ => K (v :: t)) l) (fun _ ih v l K => List.rec (motive := fun _ => Bool) (K []) (fun x t _ => apK (ih v t) fun r => apK K (x :: r)) l) n
theorem putK_eq : ∀ (n : Nat) (v : AV) (l : List AV) (K : List AV → Bool), putK n v l K = K (l.set n v)
  | 0, v, [], K => rfl
  | 0, v, x :: t, K => rfl
  | n + 1, v, [], K => rfl
  | n + 1, v, x :: t, K => by
    show putK n v t (fun r => K (x :: r)) = _
    rw [putK_eq n v t]; rfl
def cellsK (o : Nat) : List AV → List AV → (List AV → Bool) → Bool
  | [], cs, K => K cs
  | v :: r, cs, K => putK o v cs fun cs => cellsK (Nat.succ o) r cs K
theorem cellsK_eq : ∀ (o : Nat) (l cs : List AV) (K : List AV → Bool), cellsK o l cs K = K (setCells cs o l)
  | _, [], cs, K => rfl
  | o, v :: r, cs, K => by rw [cellsK, putK_eq, cellsK_eq (Nat.succ o) r]; rfl

/-- What an operation does to the memory. -/
inductive Eff where
  | wr (v : AV) (i : Nat) (cs : List AV) (o : Nat) (news : List AV)
  | keep (v : AV)
  | set (v : AV) (i : Nat) (x : AObj)
  | push (v : AV) (x : AObj)
  | gp (v : AV) (i : Nat) (x : AObj)
  | gs (v : AV) (i j : Nat) (x : AObj)
def Eff.app (T : TH) : Eff → AV × TH
  | .wr v i cs o news => (v, T.set i (.row (setCells cs o news)))
  | .keep v => (v, T)
  | .set v i x => (v, T.set i x)
  | .push v x => (v, T.push x)
  | .gp v i x => (v, (T.set i .gone).push x)
  | .gs v i j x => (v, (T.set i .gone).set j x)
def DoE (T : TH) (r : Option Eff) (K : PostB) : Bool :=
  match r with
  | none => false
  | some e => (match e with
    | .wr v i cs o news => fv v fun v => spineK news fun news => cellsK o news cs fun cs => THset T i (.row cs) (K v)
    | .keep v => fv v fun v => K v T
    | .set v i x => fv v fun v => objK x fun x => THset T i x (K v)
    | .push v x => fv v fun v => objK x fun x => THpush T x (K v)
    | .gp v i x => fv v fun v => objK x fun x => THset T i .gone fun T => THpush T x (K v)
    | .gs v i j x => fv v fun v => objK x fun x => THset T i .gone fun T => THset T j x (K v))
theorem DoE_eq (T : TH) (r : Option Eff) (K : PostB) : DoE T r K = DoHB (r.map (Eff.app T)) K := by
  cases r with
  | none => rfl
  | some e => cases e <;> simp only [DoE, fv_eq, objK_eq, THset_eq, THpush_eq, spineK_eq, cellsK_eq, Option.map_some, Eff.app, DoHB]

def storeE (T : TH) (n : Nat) (x v : AV) : Option Eff :=
  match x with
  | .ptr id o =>
    match T.t.get id with
    | .row cs => cond (and v.known (and (Nat.beq v.cells.length n) (and (v.cells.all AV.scalar) (leF (Nat.add o n) cs)))) (some (.wr (.tup []) id cs o v.cells)) none
    | _ => none
  | _ => none
theorem storeE_eq (T : TH) (n : Nat) (x v : AV) : (storeE T n x v).map (Eff.app T) = (tstore T n x v).map fun T => (.tup [], T) := by
  cases x with
  | ptr id o =>
    simp only [storeE, tstore]
    cases hc : T.t.get id with
    | row cs =>
      dsimp only
      rw [leF_eq, nb]
      by_cases h : v.known = true ∧ v.cells.length = n ∧ v.cells.all AV.scalar = true ∧ o + n ≤ cs.length
      · rw [if_pos h]
        have : (v.known && (decide (v.cells.length = n) && (v.cells.all AV.scalar && decide (Nat.add o n ≤ cs.length)))) = true := by
          simp only [h.1, h.2.1, h.2.2.1, decide_true, Bool.true_and, decide_eq_true_eq]; exact h.2.2.2
        rw [this]; rfl
      · rw [if_neg h]
        have : (v.known && (decide (v.cells.length = n) && (v.cells.all AV.scalar && decide (Nat.add o n ≤ cs.length)))) = false := by
          rw [Bool.eq_false_iff]; intro h2
          simp only [Bool.and_eq_true, decide_eq_true_eq] at h2
          exact h h2
        rw [this]; rfl
    | _ => rfl
  | _ => rfl

def boxE (T : TH) (mu : Bool) (cells : List AV) : Eff := cond mu (.push (.ptr T.n 0) (.row cells)) (.keep (.fptr cells))
theorem boxE_eq (T : TH) (mu : Bool) (cells : List AV) : (boxE T mu cells).app T = tbox T mu cells := by cases mu <;> rfl
def boxvE (T : TH) (mu : Bool) (n : Nat) (v : AV) : Option Eff := if v.known ∧ v.cells.length = n then some (boxE T mu v.cells) else none
theorem boxvE_eq (T : TH) (mu : Bool) (n : Nat) (v : AV) : (boxvE T mu n v).map (Eff.app T) = tboxv T mu n v := by
  unfold boxvE tboxv; split
  · exact congrArg some (boxE_eq _ _ _)
  · rfl
def bsliceE (T : TH) (mu : Bool) (sz len : Nat) (zero : List AV) (parts : List (Nat × Nat × AV)) : Option Eff :=
  match fillA (List.replicate len zero).flatten parts with
  | some cells => some (cond mu (.push (.row T.n 0 len sz) (.row cells)) (.keep (.lst .full len cells)))
  | none => none
theorem bsliceE_eq (T : TH) (mu : Bool) (sz len : Nat) (zero : List AV) (parts : List (Nat × Nat × AV)) : (bsliceE T mu sz len zero parts).map (Eff.app T) = tbslice T mu sz len zero parts := by
  unfold bsliceE tbslice
  cases fillA (List.replicate len zero).flatten parts with
  | none => rfl
  | some cells => cases mu <;> rfl
def appendE (T : TH) (mu : Bool) (sz bytes : Nat) (x y : AV) : Option Eff :=
  match acells T.ah sz y with
  | none => none
  | some (m, news) =>
    if ¬ news.all AV.scalar then none else
    match x with
    | .lst tk len cells =>
      if m = 0 then some (.keep (.lst tk len cells))
      else if ¬ (cells.length = len * sz ∧ (len + m) * bytes ≤ 140737488355328 ∧ len + m ≤ 9223372036854775807) then none
      else match tk, mu with
      | .nil, true | .full, true => some (.push (.row T.n 0 (len + m) sz) (.row (cells ++ news)))
      | .nil, false | .full, false => some (.push (.lst (.own T.n) (len + m) (cells ++ news)) (.tok ((len + m) * sz) sz))
      | .own t, _ => match T.t.get t with
        | .tok k sz' => if k = len * sz ∧ sz' = sz then some (.gp (.lst (.own T.n) (len + m) (cells ++ news)) t (.tok ((len + m) * sz) sz)) else none
        | _ => none
      | .dead, _ => none
    | .row id o len sz' =>
      match T.t.get id with
      | .row cs =>
        if m = 0 then some (.keep (.row id o len sz'))
        else if ¬ (o = 0 ∧ sz' = sz ∧ (len + m) * bytes ≤ 140737488355328 ∧ len + m ≤ 9223372036854775807) then none
        else if (len + m) * sz ≤ cs.length then some (.wr (.row id 0 (len + m) sz) id cs (len * sz) news)
        else if cs.length = len * sz then some (.gp (.row T.n 0 (len + m) sz) id (.row (cs ++ news)))
        else none
      | _ => none
    | _ => none
theorem appendE_eq (T : TH) (mu : Bool) (sz bytes : Nat) (x y : AV) : (appendE T mu sz bytes x y).map (Eff.app T) = tappend T mu sz bytes x y := by
  unfold appendE tappend
  cases acells T.ah sz y with
  | none => rfl
  | some p =>
    obtain ⟨m, news⟩ := p
    dsimp only
    split
    · rfl
    · cases x <;> try rfl
      · rename_i tk len cells
        dsimp only
        split
        · rfl
        · split
          · rfl
          · cases tk <;> cases mu <;> try rfl
            all_goals
              rename_i t
              dsimp only
              generalize T.t.get t = o
              cases o <;> try rfl
              dsimp only
              split <;> rfl
      · rename_i id o len sz'
        dsimp only
        generalize T.t.get id = o
        cases o <;> try rfl
        dsimp only
        split
        · rfl
        · split
          · rfl
          · split
            · rfl
            · split <;> rfl
def makeE (T : TH) (mu : Bool) (sz bytes : Nat) (zero : List AV) (len cap : AV) : Option Eff :=
  match len, cap with
  | .int .i64 n, .int .i64 c =>
    if 0 ≤ n ∧ n ≤ c ∧ bytes * c ≤ 281474976710656 ∧ c ≤ 9223372036854775807 ∧ zero.length = sz then
      if mu then some (.push (.row T.n 0 n.toNat sz) (.row (List.replicate c.toNat zero).flatten))
      else if n = c then some (.keep (.lst .full n.toNat (List.replicate n.toNat zero).flatten)) else none
    else none
  | _, _ => none
theorem makeE_eq (T : TH) (mu : Bool) (sz bytes : Nat) (zero : List AV) (len cap : AV) : (makeE T mu sz bytes zero len cap).map (Eff.app T) = tmake T mu sz bytes zero len cap := by
  unfold makeE tmake
  cases len <;> try rfl
  rename_i k n
  cases k <;> try rfl
  cases cap <;> try rfl
  rename_i k c
  cases k <;> try rfl
  dsimp only
  split
  · split
    · rfl
    · split <;> rfl
  · rfl
def copyE (T : TH) (sz : Nat) (x y : AV) : Option Eff :=
  match x, acells T.ah sz y with
  | .row id o len _, some (m, news) =>
    match T.t.get id with
    | .row cs =>
      let n := min m len
      if news.all AV.scalar ∧ o + n * sz ≤ cs.length then some (.wr (.int .i64 n) id cs o (news.take (n * sz))) else none
    | _ => none
  | _, _ => none
theorem copyE_eq (T : TH) (sz : Nat) (x y : AV) : (copyE T sz x y).map (Eff.app T) = tcopy T sz x y := by
  unfold copyE tcopy
  cases x <;> try rfl
  rename_i id o len z
  cases acells T.ah sz y with
  | none => rfl
  | some p =>
    obtain ⟨m, news⟩ := p
    dsimp only
    generalize T.t.get id = q
    cases q <;> try rfl
    dsimp only
    split <;> rfl
def mapupE (T : TH) (kk : FK) (m k v : AV) : Option Eff :=
  match m with
  | .map id =>
    match T.t.get id with
    | .map es => if plainKey kk k ∧ v.known then (match findA kk k es 0 with
        | some (some (i, _)) => some (.set (.tup []) id (.map (es.set i (k, v))))
        | some none => some (.set (.tup []) id (.map (es ++ [(k, v)])))
        | none => none) else none
    | _ => none
  | _ => none
theorem mapupE_eq (T : TH) (kk : FK) (m k v : AV) : (mapupE T kk m k v).map (Eff.app T) = (tmapup T kk m k v).map fun T => (.tup [], T) := by
  unfold mapupE tmapup
  cases m <;> try rfl
  rename_i id
  dsimp only
  generalize T.t.get id = q
  cases q <;> try rfl
  rename_i es
  dsimp only
  split
  · cases findA kk k es 0 with
    | none => rfl
    | some r =>
      cases r with
      | none => rfl
      | some p => rfl
  · rfl
def freezeE (T : TH) (x : AV) : Option Eff :=
  match x with
  | .row id o len sz =>
    match T.t.get id with
    | .row cs => if o + len * sz ≤ cs.length then some (.set (.lst .dead len ((cs.drop o).take (len * sz))) id .gone) else none
    | _ => none
  | .ptr id o =>
    match T.t.get id with
    | .row cs => match frzA (fun i => T.t.get i) cs with
      | some (l, id') => if id' = id then none else some (.gs (.ptr id o) id' id (.row l))
      | none => some (.set (.fptr (cs.drop o)) id .gone)
    | _ => none
  | .lst tk len cells => some (.keep (.lst tk len cells))
  | .fptr cs => some (.keep (.fptr cs))
  | .agg cells => match frzA (fun i => T.t.get i) cells with
    | some (l, id) => some (.set (.agg l) id .gone)
    | none => some (.keep (.agg cells))
  | _ => none
theorem freezeE_eq (T : TH) (x : AV) : (freezeE T x).map (Eff.app T) = tfreeze T x := by
  unfold freezeE tfreeze
  cases x <;> try rfl
  · rename_i id o
    dsimp only
    generalize T.t.get id = q
    cases q <;> try rfl
    rename_i cs
    dsimp only
    cases frzA (fun i => T.t.get i) cs with
    | none => rfl
    | some q =>
      obtain ⟨l, id'⟩ := q
      dsimp only
      by_cases e : id' = id
      · rw [if_pos e, if_pos e]; rfl
      · rw [if_neg e, if_neg e]; rfl
  · rename_i id o len sz
    dsimp only
    generalize T.t.get id = q
    cases q <;> try rfl
    dsimp only
    split <;> rfl
  · rename_i cs
    dsimp only
    cases frzA (fun i => T.t.get i) cs with
    | none => rfl
    | some q => rfl

structure OpC where
  f : CallsB → EV → TH → PostB → Bool
structure SetC where
  f : EV → AV → (EV → Bool) → Bool
structure RegC where
  f : CallsB → EV → TH → (EV → TH → Bool) → Bool
structure CodC where
  f : CallsB → EV → TH → (EV → TH → Bool) → (AExit → EV → TH → Bool) → Bool
structure PutC where
  f : EV → List AV → (EV → Bool) → Bool
structure SamC where
  f : EV → TH → Bool → Bool
structure ResC where
  f : EV → TH → (List AV → Bool) → Bool
structure FnC where
  f : CallsB → List AV → TH → PostB → Bool

def ldC (agg : Bool) (x : Option AV) (K : AV → Bool) : Bool := cond agg (DoK x K) (DoR x K)
theorem ldC_eq (agg : Bool) (x : Option AV) (K : AV → Bool) : ldC agg x K = DoB x K := by cases agg <;> simp only [ldC, cond_true, cond_false, DoK_eq, DoR_eq]

/-- Elements' places: what is frozen is handed on as it is. -/
def iaddrK (arr : Option Nat) (sz : Nat) (x i : AV) (K : AV → Bool) : Bool :=
  match x with
  | .lst _ len cells => (match i with
    | .int _ n => (match n with
      | .ofNat m => (match arr with | none => cond (Nat.blt m len) (dropK (Nat.mul m sz) cells fun r => K (.fptr r)) false | some _ => DoK (iaddrF arr sz x i) K)
      | _ => DoK (iaddrF arr sz x i) K)
    | _ => DoK (iaddrF arr sz x i) K)
  | .fptr cells => (match i with
    | .int _ n => (match n with
      | .ofNat m => (match arr with | some l => cond (Nat.blt m l) (dropK (Nat.mul m sz) cells fun r => K (.fptr r)) false | none => DoK (iaddrF arr sz x i) K)
      | _ => DoK (iaddrF arr sz x i) K)
    | _ => DoK (iaddrF arr sz x i) K)
  | _ => DoK (iaddrF arr sz x i) K
theorem iaddrK_eq (arr : Option Nat) (sz : Nat) (x i : AV) (K : AV → Bool) : iaddrK arr sz x i K = DoB (aiaddr arr sz x i) K := by
  rw [← iaddrF_eq, ← DoK_eq]
  cases x <;> try rfl
  · rename_i cells
    cases i <;> try rfl
    rename_i k n
    cases n <;> try rfl
    rename_i m
    cases arr <;> try rfl
    rename_i l
    rw [DoK_eq]
    simp only [iaddrK, iaddrF, asNat, dropK_eq, dropF_eq]
    cases Nat.blt m l <;> rfl
  · rename_i tk len cells
    cases i <;> try rfl
    rename_i k n
    cases n <;> try rfl
    rename_i m
    cases arr <;> try rfl
    rw [DoK_eq]
    simp only [iaddrK, iaddrF, asNat, dropK_eq, dropF_eq]
    cases Nat.blt m len <;> rfl
def faddrK (off : Nat) (x : AV) (K : AV → Bool) : Bool :=
  match x with
  | .ptr i o => natV (Nat.add o off) fun o => K (.ptr i o)
  | .fptr cs => dropK off cs fun r => K (.fptr r)
  | _ => DoK (afaddr off x) K
theorem faddrK_eq (off : Nat) (x : AV) (K : AV → Bool) : faddrK off x K = DoB (afaddr off x) K := by
  unfold faddrK
  split
  · rw [natV_eq]; rfl
  · rw [dropK_eq]; rfl
  · exact DoK_eq _ _

def opC : AOp → OpC
  | .mv x => ⟨fun _ E T K => valK x E fun v => K v T⟩
  | .pick c a b => ⟨fun _ E T K => valK c E fun c => GdB c true (valK a E fun v => K v T) (valK b E fun v => K v T)⟩
  | .bin op x y => ⟨fun _ E T K => valK x E fun x => valK y E fun y => DoK ((binC op).f x y) fun v => K v T⟩
  | .beq neg x y => ⟨fun _ E T K => valK x E fun x => valK y E fun y => DoK (abeq neg x y) fun v => K v T⟩
  | .isnil k neg x => ⟨fun _ E T K => valK x E fun x => DoK (anil k neg x) fun v => K v T⟩
  | .eqagg neg ks x y => ⟨fun _ E T K => valK x E fun x => valK y E fun y => DoK (aeqAgg neg ks x y) fun v => K v T⟩
  | .un op x => ⟨fun _ E T K => valK x E fun x => DoK (aun op x) fun v => K v T⟩
  | .conv k x => ⟨fun _ E T K => valK x E fun x => DoK (convF k x) fun v => K v T⟩
  | .same x => ⟨fun _ E T K => valK x E fun x => DoR (asame x) fun v => K v T⟩
  | .nilck x => ⟨fun _ E T K => valK x E fun x => DoR (anilck x) fun v => K v T⟩
  | .field off sz agg x => ⟨fun _ E T K => valK x E fun x => ldC agg (fieldF off sz agg x) fun v => K v T⟩
  | .idx len sz agg x i => ⟨fun _ E T K => valK x E fun x => valK i E fun i => ldC agg (idxF len sz agg x i) fun v => K v T⟩
  | .idxs x i => ⟨fun _ E T K => valK x E fun x => valK i E fun i => DoK (idxsF x i) fun v => K v T⟩
  | .faddr off x => ⟨fun _ E T K => valK x E fun x => faddrK off x fun v => K v T⟩
  | .iaddr arr sz x i => ⟨fun _ E T K => valK x E fun x => valK i E fun i => iaddrK arr sz x i fun v => K v T⟩
  | .slice sz x lo hi mx => ⟨fun _ E T K => valK x E fun x => ovalK E lo fun lo => ovalK E hi fun hi => ovalK E mx fun mx => DoK (aslice sz x lo hi mx) fun v => K v T⟩
  | .sslice x lo hi => ⟨fun _ E T K => valK x E fun x => ovalK E lo fun lo => ovalK E hi fun hi => DoK (asslice x lo hi) fun v => K v T⟩
  | .mkif t x => ⟨fun _ E T K => valK x E fun v => K (.iface t v) T⟩
  | .mkfn key caps => ⟨fun _ E T K => valsK E caps fun vs => K (.fn key vs) T⟩
  | .extract i x => ⟨fun _ E T K => valK x E fun x => DoR (aextract i x) fun v => K v T⟩
  | .build zero parts => ⟨fun _ E T K => pvalsK E parts fun ps => DoK (abuild zero ps) fun v => K v T⟩
  | .len str x => ⟨fun _ E T K => valK x E fun x => DoK (alen str x) fun v => K v T⟩
  | .lenk n => ⟨fun _ E T K => K (.int .i64 n) T⟩
  | .cap x => ⟨fun _ E T K => valK x E fun x => DoK (acap x) fun v => K v T⟩
  | .minmax mx xs => ⟨fun _ E T K => valsK E xs fun vs => DoK (aminmax mx vs) fun v => K v T⟩
  | .load n agg x => ⟨fun _ E T K => valK x E fun x => ldC agg (loadF T n agg x) fun v => K v T⟩
  | .store n x v => ⟨fun _ E T K => valK x E fun x => valK v E fun v => DoE T (storeE T n x v) K⟩
  | .box mu n x => ⟨fun _ E T K => valK x E fun x => DoE T (boxvE T mu n x) K⟩
  | .alloc mu zero => ⟨fun _ E T K => DoE T (some (boxE T mu zero)) K⟩
  | .bslice mu sz len zero parts => ⟨fun _ E T K => pvalsK E parts fun ps => DoE T (bsliceE T mu sz len zero ps) K⟩
  | .append mu sz bytes x y => ⟨fun _ E T K => valK x E fun x => valK y E fun y => DoE T (appendE T mu sz bytes x y) K⟩
  | .make mu sz bytes zero len cap => ⟨fun _ E T K => valK len E fun l => valK cap E fun c => DoE T (makeE T mu sz bytes zero l c) K⟩
  | .copy sz x y => ⟨fun _ E T K => valK x E fun x => valK y E fun y => DoE T (copyE T sz x y) K⟩
  | .mkmap => ⟨fun _ E T K => DoE T (some (.push (.map T.n) (.map []))) K⟩
  | .lookup kk zero ok m k => ⟨fun _ E T K => valK m E fun m => valK k E fun k => DoK (alookup T.ah kk zero ok m k) fun v => K v T⟩
  | .mapup kk m k v => ⟨fun _ E T K => valK m E fun m => valK k E fun k => valK v E fun v => DoE T (mapupE T kk m k v) K⟩
  | .delete kk m k => ⟨fun _ E T K => DoB (tdelete T kk (m.val E) (k.val E)) fun T => K (.tup []) T⟩
  | .maplen m => ⟨fun _ E T K => valK m E fun m => DoK (amaplen T.ah m) fun v => K v T⟩
  | .sbytes x => ⟨fun _ E T K => valK x E fun x => DoK (asbytes x) fun v => K v T⟩
  | .bstr x => ⟨fun _ E T K => valK x E fun x => DoK (abstr T.ah x) fun v => K v T⟩
  | .srange x => ⟨fun _ E T K => DoHB (tsrange T (x.val E)) K⟩
  | .snext x => ⟨fun _ E T K => DoHB (tsnext T (x.val E)) K⟩
  | .call key args => ⟨fun B E T K => valsK E args fun vs => B key vs T K⟩
  | .callv f args => ⟨fun B E T K => valK f E fun f => valsK E args fun vs => clB B f vs T K⟩
  | .ext e xs => ⟨fun _ E T K => valsK E xs fun vs => DoHB (text T e vs) K⟩
  | .inv tbl x args => ⟨fun B E T K => valK x E fun x => valsK E args fun vs => invB B tbl x vs T K⟩

theorem mapB (x : Option TH) (K : PostB) : DoHB (x.map fun T => (.tup [], T)) K = DoB x fun T => K (.tup []) T := by cases x <;> rfl
theorem opC_eq (B : CallsB) (E : EV) (T : TH) (K : PostB) (op : AOp) : (opC op).f B E T K = opB B [] T K (op.sub E) := by
  cases op <;> simp only [opC, AOp.sub, opB, val_eq, vals_eq, pvals_eq, ovals_eq, valK_eq, valsK_eq, pvalsK_eq, ovalK_eq, DoK_eq, DoR_eq, ldC_eq, iaddrK_eq, faddrK_eq, binC_eq, convF_eq, fieldF_eq, idxF_eq, idxsF_eq, loadF_eq, DoE_eq, storeE_eq, boxvE_eq, bsliceE_eq, appendE_eq, makeE_eq, copyE_eq, mapupE_eq, mapB, Option.map_some, boxE_eq] <;> rfl

def setC (n : Nat) : Option Nat → SetC
  | none => ⟨fun E _ K => K E⟩
  | some d => cond (Nat.blt d n) ⟨fun E v K => K ((d, v) :: E)⟩ ⟨fun E _ K => K E⟩
theorem setC_eq (n : Nat) (d : Option Nat) (E : EV) (v : AV) (K : EV → Bool) : (setC n d).f E v K = K (esetd n E d v) := by
  cases d with
  | none => rfl
  | some d =>
    simp only [setC, esetd, eset]
    cases Nat.blt d n <;> rfl

def oneC (n : Nat) (o : AOper) : RegC :=
  match o.guard with
  | none => ⟨fun B E T K => (opC o.op).f B E T fun v T' => (setC n o.dst).f E v fun E => K E T'⟩
  | some (s, want) => ⟨fun B E T K => getK E s fun g =>
      Gd3B g want ((setC n (some s)).f E (.bool want) fun E => (opC o.op).f B E T fun v T' => (setC n o.dst).f E v fun E => K E T')
        ((setC n (some s)).f E (.bool !want) fun E => (setC n o.dst).f E (.tup []) fun E => K E T) ((setC n (some s)).f E (.tup []) fun E => (setC n o.dst).f E (.tup []) fun E => K E T)⟩
theorem oneC_eq (n : Nat) (o : AOper) (B : CallsB) (E : EV) (T : TH) (K : EV → TH → Bool) : (oneC n o).f B E T K = oneB B n o E T K := by
  unfold oneC oneB
  cases hg : o.guard with
  | none => simp only [opC_eq, setC_eq]
  | some g => simp only [opC_eq, setC_eq, esetd, getK_eq]

def regC (n : Nat) : List AOper → RegC
  | [] => ⟨fun _ E T K => K E T⟩
  | o :: r => ⟨fun B E T K => (oneC n o).f B E T fun E' T' => (regC n r).f B E' T' K⟩
theorem regC_eq (n : Nat) : ∀ (l : List AOper) (B : CallsB) (E : EV) (T : TH) (K : EV → TH → Bool), (regC n l).f B E T K = regB B n l E T K := by
  intro l
  induction l with
  | nil => intro B E T K; rfl
  | cons o r ih =>
    intro B E T K
    simp only [regC, oneC_eq, regB, oneB, ih]

def segC (n : Nat) (ops : List AOper) : List Nat → RegC
  | [] => ⟨fun _ E T K => K E T⟩
  | i :: r => match ops[i]? with
    | some o => ⟨fun B E T K => (oneC n o).f B E T fun E' T' => (segC n ops r).f B E' T' K⟩
    | none => ⟨fun _ _ _ _ => false⟩
theorem segC_eq (n : Nat) (ops : List AOper) : ∀ (l : List Nat) (B : CallsB) (E : EV) (T : TH) (K : EV → TH → Bool), (segC n ops l).f B E T K = segB B n ops l E T K := by
  intro l
  induction l with
  | nil => intro B E T K; rfl
  | cons i r ih =>
    intro B E T K
    simp only [segC, segB]
    cases ops[i]? with
    | none => rfl
    | some o => simp only [oneC_eq, ih]

def readC (o : AOper) : SamC :=
  match o.op with
  | .load n agg x => ⟨fun E T X => valK x E fun x => getK E (o.dst.getD 0) fun d => and (sameV (loadF T n agg x) d) X⟩
  | .lookup kk zero ok m k => ⟨fun E T X => and (sameV (alookup T.ah kk zero ok (m.val E) (k.val E)) (eget E (o.dst.getD 0))) X⟩
  | .maplen m => ⟨fun E T X => and (sameV (amaplen T.ah (m.val E)) (eget E (o.dst.getD 0))) X⟩
  | .bstr x => ⟨fun E T X => and (sameV (abstr T.ah (x.val E)) (eget E (o.dst.getD 0))) X⟩
  | _ => ⟨fun _ _ X => X⟩
theorem readC_eq (o : AOper) (E : EV) (T : TH) (X : Bool) : (readC o).f E T X = (readB T E o && X) := by
  unfold readC readB
  cases o.op <;> simp only [val_eq, Bool.true_and, valK_eq, getK_eq, loadF_eq] <;> rfl
def samC (ops : List AOper) : List Nat → SamC
  | [] => ⟨fun _ _ X => X⟩
  | l :: r => match ops[l]? with
    | some o => (match o.guard with
      | none => ⟨fun E T X => (readC o).f E T ((samC ops r).f E T X)⟩
      | some (s, want) => ⟨fun E T X => and (getK E s fun g => sameW g want ((readC o).f E T true)) ((samC ops r).f E T X)⟩)
    | none => ⟨fun E T X => (samC ops r).f E T X⟩
theorem samC_eq (ops : List AOper) : ∀ (l : List Nat) (E : EV) (T : TH) (X : Bool), (samC ops l).f E T X = samesT ops E T X l := by
  intro l
  induction l with
  | nil => intro E T X; rfl
  | cons i r ih =>
    intro E T X
    simp only [samC, samesT]
    cases ops[i]? with
    | none => simp only [ih, Bool.true_and]
    | some o =>
      simp only [sameGB]
      cases o.guard with
      | none => simp only [ih, readC_eq]
      | some g => simp only [ih, readC_eq, Bool.and_true, getK_eq]

def drawC (n : Nat) (ops : List AOper) (last : List Nat) : List (List Nat × Nat × List Nat) → RegC
  | [] => segC n ops last
  | (seg, e, st) :: r => match ops[e]? with
    | some o => ⟨fun B E T K => (segC n ops seg).f B E T fun E1 T1 => (oneC n o).f B E1 T1 fun E2 T2 => (samC ops st).f E1 T2 ((drawC n ops last r).f B E2 T2 K)⟩
    | none => ⟨fun B E T K => (segC n ops seg).f B E T fun _ _ => false⟩
theorem drawC_eq (n : Nat) (ops : List AOper) (last : List Nat) : ∀ (l : List (List Nat × Nat × List Nat)) (B : CallsB) (E : EV) (T : TH) (K : EV → TH → Bool), (drawC n ops last l).f B E T K = drawB B n ops last l E T K := by
  intro l
  induction l with
  | nil => intro B E T K; exact segC_eq _ _ _ _ _ _ _
  | cons p r ih =>
    obtain ⟨seg, e, st⟩ := p
    intro B E T K
    simp only [drawC, drawB]
    cases ops[e]? with
    | none => simp only [segC_eq]
    | some o => simp only [segC_eq, oneC_eq, samC_eq, ih]

def putC (n : Nat) : List Nat → PutC
  | [] => ⟨fun E _ K => K E⟩
  | t :: r => cond (Nat.blt t n) ⟨fun E s K => List.rec (motive := fun _ => Bool) ((putC n r).f ((t, .bot) :: E) [] K) (fun v q _ => (putC n r).f ((t, v) :: E) q K) s⟩ ⟨fun E s K => (putC n r).f E s.tail K⟩
theorem putC_eq (n : Nat) : ∀ (l : List Nat) (E : EV) (s : List AV) (K : EV → Bool), (putC n l).f E s K = K (eputs n E l s) := by
  intro l
  induction l with
  | nil => intro E s K; cases s <;> rfl
  | cons t r ih =>
    intro E s K
    simp only [putC, eputs, eset]
    cases Nat.blt t n with
    | true => cases s <;> simp only [cond_true, ih, List.headD_nil, List.headD_cons, List.tail_nil, List.tail_cons]
    | false => simp only [cond_false, ih]
def getsK (E : EV) : List Nat → (List AV → Bool) → Bool
  | [], K => K []
  | t :: r, K => getK E t fun v => getsK E r fun vs => K (v :: vs)
theorem getsK_eq (E : EV) : ∀ (l : List Nat) (K : List AV → Bool), getsK E l K = K (egets E l)
  | [], K => rfl
  | t :: r, K => by rw [getsK, getK_eq, getsK_eq E r]; rfl
/-- The slots that are not forgotten. -/
def keepE (ks : List Nat) : EV → EV
  | [] => []
  | (t, v) :: E => cond (memN t ks) (keepE ks E) ((t, v) :: keepE ks E)
def keepK (ks : List Nat) (E : EV) : (EV → Bool) → Bool := List.rec (motive := fun _ => (EV → Bool) → Bool) (fun K => K []) (fun p _ ih K => Prod.rec (motive := fun _ => Bool) (fun t v => cond (memN t ks) (ih K) (ih fun E => K ((t, v) :: E))) p) E
theorem keepK_eq (ks : List Nat) : ∀ (E : EV) (K : EV → Bool), keepK ks E K = K (keepE ks E)
  | [], K => rfl
  | (t, v) :: E, K => by
    show cond (memN t ks) (keepK ks E K) (keepK ks E fun E => K ((t, v) :: E)) = _
    rw [keepK_eq ks E, keepK_eq ks E, keepE]
    cases memN t ks <;> rfl
theorem memN_iff : ∀ (t : Nat) (l : List Nat), memN t l = decide (t ∈ l)
  | t, [] => rfl
  | t, s :: r => by
    rw [memN, nb, memN_iff t r]
    by_cases h : t = s
    · simp [h]
    · simp [h]
theorem keepE_get (ks : List Nat) : ∀ (E : EV) (i : Nat), eget (keepE ks E) i = if i ∈ ks then .bot else eget E i
  | [], i => by simp [keepE, eget]
  | (t, v) :: E, i => by
    rw [keepE, memN_iff, eget_cons]
    by_cases h : t ∈ ks
    · simp only [h, decide_true, cond_true, keepE_get ks E i]
      by_cases hi : i ∈ ks
      · rw [if_pos hi, if_pos hi]
      · rw [if_neg hi, if_neg hi, if_neg (show ¬ t = i from fun e => hi (e ▸ h))]
    · simp only [h, decide_false, cond_false, eget_cons, keepE_get ks E i]
      by_cases e : t = i
      · subst e; rw [if_pos rfl, if_neg h, if_pos rfl]
      · rw [if_neg e, if_neg e]
theorem killsI_get : ∀ (ks : List Nat) (env : Env) (i : Nat), (Rb.kills env ks).getD i .bot = if i ∈ ks then .bot else env.getD i .bot
  | [], env, i => by simp [Rb.kills]
  | t :: r, env, i => by
    rw [Rb.kills, killsI_get r]
    by_cases hr : i ∈ r
    · rw [if_pos hr, if_pos (List.mem_cons_of_mem _ hr)]
    · rw [if_neg hr]
      by_cases e : t = i
      · subst e
        rw [if_pos List.mem_cons_self, List.getD_eq_getElem?_getD, List.getElem?_set]
        simp only [if_true]
        split <;> rfl
      · rw [if_neg (by simp only [List.mem_cons, not_or]; exact ⟨fun h => e h.symm, hr⟩), List.getD_eq_getElem?_getD, List.getElem?_set_ne e, ← List.getD_eq_getElem?_getD]
theorem killsI_length : ∀ (ks : List Nat) (env : Env), (Rb.kills env ks).length = env.length
  | [], env => rfl
  | t :: r, env => by rw [Rb.kills, killsI_length r]; simp
theorem Agree.keep {n : Nat} {E : EV} {env : Env} (h : Agree n E env) (ks : List Nat) : Agree n (keepE ks E) (Rb.kills env ks) :=
  ⟨by rw [killsI_length]; exact h.1, fun i => by rw [keepE_get, killsI_get, h.2 i]⟩

def blockX (id : Nat) (N : EV → TH → Bool) (X : AExit → EV → TH → Bool) : AExit → EV → TH → Bool
  | .exit id', E, T => cond (Nat.beq id' id) (N E T) (X (.exit id') E T)
  | e, E, T => X e E T

def LoopC (F : List AV → TH → (List AV → TH → Bool) → Bool) (n : Nat) : List AV → TH → Bool := Nat.rec (motive := fun _ => List AV → TH → Bool) (fun _ _ => false) (fun _ ih s T => F s T ih) n

def codeC (fuel n : Nat) : ACode → CodC
  | .skip => ⟨fun _ E T N _ => N E T⟩
  | .region ops => ⟨fun B E T N _ => (regC n ops).f B E T N⟩
  | .draw ops _ plan last => ⟨fun B E T N _ => (drawC n ops last plan).f B E T N⟩
  | .seq a b => ⟨fun B E T N X => (codeC fuel n a).f B E T (fun E T => (codeC fuel n b).f B E T N X) X⟩
  | .cond x a b => ⟨fun B E T N X => valK x E fun x => GdB x true ((codeC fuel n a).f B E T N X) ((codeC fuel n b).f B E T N X)⟩
  | .block id a => ⟨fun B E T N X => (codeC fuel n a).f B E T N (blockX id N X)⟩
  | .loop vs ks a => ⟨fun B E T N X => keepK ks E fun E0 => getsK E vs fun s => LoopC (fun s T K => (putC n vs).f E0 s fun E => (codeC fuel n a).f B E T (fun E' T' => getsK E' vs fun s => K s T') X) fuel s T⟩
  | .exit id => ⟨fun _ E T _ X => X (.exit id) E T⟩
  | .ret => ⟨fun _ E T _ X => X .ret E T⟩
  | .freeze t a => ⟨fun B E T N X => getK E t fun v => DoE T (freezeE T v) fun v T' => (setC n (some t)).f E v fun E => (codeC fuel n a).f B E T' N X⟩
  | .join vs ks a b => ⟨fun _ _ _ _ _ => false⟩
  | .rjoin vs ks ops b => ⟨fun _ _ _ _ _ => false⟩

theorem codeC_sound {Φ : Calls'} {B : CallsB} (hB : SoundB Φ B) (hΦ : Mono Φ) (fuel n : Nat) : ∀ (c : ACode) {E : EV} {env : Env} {T : TH} {N : EV → TH → Bool} {X : AExit → EV → TH → Bool} {Q : AExit → Env → AH → Prop}, Agree n E env → (codeC fuel n c).f B E T N X = true →
    (∀ E' env' T', Agree n E' env' → N E' T' = true → Q .normal env' T'.ah) → (∀ x E' env' T', x ≠ .normal → Agree n E' env' → X x E' T' = true → Q x env' T'.ah) → codeSem Φ c env T.ah Q := by
  have reg : ∀ (l : List AOper) {E : EV} {env : Env} {T : TH} {N : EV → TH → Bool} {Q : Env → AH → Prop}, Agree n E env → (regC n l).f B E T N = true → (∀ E' env' T', Agree n E' env' → N E' T' = true → Q env' T'.ah) → regSem Φ l env T.ah Q := by
    intro l E env T N Q ha h hN
    rw [regC_eq] at h
    refine regE_sound hΦ ha (regB_sound (Q := fun E' H' => ∃ T', H' = T'.ah ∧ N E' T' = true) hB h fun e T' h => ⟨T', rfl, h⟩) fun E' env' H' ha' h' => ?_
    obtain ⟨T', rfl, h'⟩ := h'
    exact hN _ _ _ ha' h'
  intro c
  induction c with
  | skip => intro E env T N X Q ha h hN hX; exact hN _ _ _ ha h
  | region ops => intro E env T N X Q ha h hN hX; exact reg ops ha h hN
  | draw ops pr plan last =>
    intro E env T N X Q ha h hN hX
    simp only [codeC, drawC_eq] at h
    refine drawE_sound hΦ ha (drawB_sound (Q := fun E' H' => ∃ T', H' = T'.ah ∧ N E' T' = true) hB h fun e T' h => ⟨T', rfl, h⟩) fun E' env' H' ha' h' => ?_
    obtain ⟨T', rfl, h'⟩ := h'
    exact hN _ _ _ ha' h'
  | seq a b iha ihb =>
    intro E env T N X Q ha h hN hX
    simp only [codeC] at h
    simp only [codeSem]
    refine iha ha h (fun E' env' T' ha' h' => ihb ha' h' hN hX) fun x E' env' T' hx ha' h' => ?_
    cases x with
    | normal => exact absurd rfl hx
    | exit i => exact hX _ _ _ _ hx ha' h'
    | ret => exact hX _ _ _ _ hx ha' h'
  | join vs ks a b iha ihb => intro E env T N X Q ha h hN hX; cases h
  | cond x a b iha ihb =>
    intro E env T N X Q ha h hN hX
    simp only [codeC, valK_eq] at h
    rw [← val_eq, sub_ev ha] at h
    exact GdB_sound h (fun h => iha ha h hN hX) fun h => ihb ha h hN hX
  | block id a ih =>
    intro E env T N X Q ha h hN hX
    simp only [codeC] at h
    simp only [codeSem]
    refine ih ha h hN fun x E' env' T' hx ha' h' => ?_
    cases x with
    | normal => exact absurd rfl hx
    | exit i =>
      simp only [blockX, nb] at h'
      dsimp only
      by_cases hi : i = id
      · rw [if_pos hi]; simp only [hi, decide_true, cond_true] at h'; exact hN _ _ _ ha' h'
      · rw [if_neg hi]; simp only [hi, decide_false, cond_false] at h'; exact hX _ _ _ _ hx ha' h'
    | ret => exact hX _ _ _ _ hx ha' h'
  | loop vs ks a ih =>
    intro E env T N X Q ha h hN hX
    simp only [codeC, keepK_eq, getsK_eq, putC_eq] at h
    simp only [codeSem]
    have main : ∀ (m : Nat) (s : List AV) (T : TH), LoopC (fun s T K => (codeC fuel n a).f B (eputs n (keepE ks E) vs s) T (fun E' T' => K (egets E' vs) T') X) m s T = true →
        LoopP (fun (s : List AV × AH) (K : List AV × AH → Prop) =>
          codeSem Φ a (puts (kills env ks) vs s.1) s.2 fun e env' H' => match e with
            | .normal => K (gets env' vs, H')
            | e => Q e env' H') (s, T.ah) := by
      intro m
      induction m with
      | zero => intro s T h; cases h
      | succ m ihm =>
        intro s T h
        refine LoopP.step ?_
        refine ih ((ha.keep ks).puts vs s) h (fun E' env' T' ha' h' => ?_) fun x E' env' T' hx ha' h' => ?_
        · dsimp only
          rw [← ha'.gets vs]
          exact ihm _ _ h'
        · cases x with
          | normal => exact absurd rfl hx
          | exit i => exact hX _ _ _ _ hx ha' h'
          | ret => exact hX _ _ _ _ hx ha' h'
    rw [← ha.gets vs]
    exact main fuel _ _ h
  | exit id => intro E env T N X Q ha h hN hX; exact hX _ _ _ _ (by intro h; cases h) ha h
  | ret => intro E env T N X Q ha h hN hX; exact hX _ _ _ _ (by intro h; cases h) ha h
  | freeze t a ih =>
    intro E env T N X Q ha h hN hX
    simp only [codeC, getK_eq, DoE_eq, freezeE_eq, setC_eq, esetd] at h
    simp only [codeSem]
    rw [ha.2 t] at h
    exact DoHB_sound (tfreeze_ah _ _) h fun v T' h' => ih (ha.set t v) h' hN hX
  | rjoin vs ks ops b ih => intro E env T N X Q ha h hN hX; cases h

def resC : List ARes → ResC
  | [] => ⟨fun _ _ K => K []⟩
  | .tmp t :: r => ⟨fun E T K => getK E t fun v => (resC r).f E T fun vs => K (v :: vs)⟩
  | .cell t n agg :: r => ⟨fun E T K => getK E t fun x => ldC agg (loadF T n agg x) fun v => (resC r).f E T fun vs => K (v :: vs)⟩
theorem resC_eq : ∀ (rs : List ARes) (E : EV) (T : TH) (K : List AV → Bool), (resC rs).f E T K = resB E T rs K := by
  intro rs
  induction rs with
  | nil => intros; rfl
  | cons r rs ih => intro E T K; cases r <;> simp only [resC, resB, ih, getK_eq, ldC_eq, loadF_eq]

/-- One result, or more. -/
def oneK (vs : List AV) (Q : PostB) (T : TH) : Bool :=
  match vs with
  | [v] => Q v T
  | vs => Q (.tup vs) T
theorem oneK_eq (vs : List AV) (Q : PostB) (T : TH) : oneK vs Q T = Q (oneRes vs) T := by
  cases vs with
  | nil => rfl
  | cons v r => cases r <;> rfl

def retX (rs : List ARes) (Q : PostB) : AExit → EV → TH → Bool
  | .exit _, _, _ => false
  | _, E, T => (resC rs).f E T fun vs => oneK vs Q T

def initK : List AV → Nat → (EV → Bool) → Bool
  | [], _, K => K []
  | a :: r, i, K => initK r (Nat.succ i) fun E => K ((i, a) :: E)
theorem initK_eq : ∀ (l : List AV) (i : Nat) (K : EV → Bool), initK l i K = K (einit l i)
  | [], _, _ => rfl
  | a :: r, i, K => by rw [initK, initK_eq r]; rfl

def fnC (fuel : Nat) (f : AFunc) : FnC :=
  ⟨fun B args T Q => and (Nat.ble args.length f.ntmps) (initK args 0 fun E => (codeC fuel f.ntmps f.body).f B E T (fun E T => (resC f.results).f E T fun vs => oneK vs Q T) (retX f.results Q))⟩
theorem fnC_sound {Φ : Calls'} {B : CallsB} (hB : SoundB Φ B) (hΦ : Mono Φ) {fuel : Nat} {f : AFunc} {args : List AV} {T : TH} {K : PostB} (h : (fnC fuel f).f B args T K = true) {Q : Post} (hK : ∀ v T', K v T' = true → Q v T'.ah) : fnSem Φ f args T.ah Q := by
  simp only [fnC, Bool.and_eq_true, initK_eq] at h
  have hle := Nat.le_of_ble_eq_true h.1
  have ha : Agree f.ntmps (einit args 0) (args ++ List.replicate (f.ntmps - args.length) .bot) := by
    refine ⟨by simp; omega, fun i => ?_⟩
    rw [einit_get]
    simp only [Nat.not_lt_zero, if_false, Nat.sub_zero]
    simp only [List.getD_eq_getElem?_getD]
    by_cases hi : i < args.length
    · rw [List.getElem?_append_left hi]
    · rw [List.getElem?_append_right (by omega), List.getElem?_eq_none (by omega), List.getElem?_replicate]
      split <;> rfl
  have fin : ∀ (E' : EV) (env' : Env) (T' : TH), Agree f.ntmps E' env' → (resC f.results).f E' T' (fun vs => oneK vs K T') = true → resSem env' T'.ah f.results fun vs => Q (oneRes vs) T'.ah := by
    intro E' env' T' ha' h'
    rw [resC_eq] at h'
    rw [← resE_eq ha']
    exact resB_sound h' fun vs h => hK _ _ (by rwa [oneK_eq] at h)
  refine codeC_sound hB hΦ fuel _ f.body ha h.2 (fun E' env' T' ha' h' => fin E' env' T' ha' h') fun x E' env' T' hx ha' h' => ?_
  cases x with
  | normal => exact absurd rfl hx
  | exit i => cases h'
  | ret => exact fin E' env' T' ha' h'

/-- The functions of a table, made once. -/
def dispI (tab : Nat → Option FnC) (B : CallsB) : CallsB := fun k args T Q => match tab k with
  | some c => c.f B args T Q
  | none => false

def tabH (C : Ctx) (fuel : Nat) : List Hint → Nat → Option FnC
  | [], _ => none
  | h :: r, k => cond (Nat.beq h.fid k) (some (fnC fuel (decF C h))) (tabH C fuel r k)

theorem tabH_mem {C : Ctx} {fuel : Nat} : ∀ {L : List Hint} {k : Nat} {c : FnC}, tabH C fuel L k = some c → ∃ h, h ∈ L ∧ h.fid = k ∧ c = fnC fuel (decF C h)
  | [], _, _, h => by cases h
  | p :: r, k, c, h => by
    unfold tabH at h
    cases hb : Nat.beq p.fid k with
    | true =>
      rw [hb] at h
      simp only [cond_true, Option.some.injEq] at h
      exact ⟨p, List.mem_cons_self, Nat.eq_of_beq_eq_true hb, h.symm⟩
    | false =>
      rw [hb] at h
      obtain ⟨f, hf, hc⟩ := tabH_mem (L := r) h
      exact ⟨f, List.mem_cons_of_mem _ hf, hc⟩

theorem dispI_ok {P : Program} {GT : Nat → Option (List AV)} {L : List Hint} (hL : chkH (idC P GT) L = true) (fuel : Nat) : DispOK (ACall (idC P GT)) (dispI (tabH (idC P GT) fuel L)) := by
  intro B hB k args T K h Q hQ
  unfold dispI at h
  split at h
  · rename_i c hc
    obtain ⟨hi, hm, hk, rfl⟩ := tabH_mem hc
    have hs : fnSem (ACall (idC P GT)) (decF (idC P GT) hi) args T.ah Q := fnC_sound hB (ACall_mono _) h hQ
    refine ⟨fnSem_nv (ACall_nv _) hs, fun f hf G w Vs hG hrel hargs => ?_⟩
    have hfk : f = k := by
      simp only [idC] at hf
      cases hg : goodFn P k with
      | true => rw [hg] at hf; simpa using hf.symm
      | false => rw [hg] at hf; cases hf
    subst hfk
    exact fn_sound (idC_fok P GT) (by rw [← hk]; exact chkH_mem hL _ hm) hs hG hrel hargs
  · cases h
end
end Rb

/- Known calls, found by runs; closed runs. -/
set_option linter.unusedVariables false
namespace Rb
open Go
noncomputable section

/-- Reckoned as what is asked for, not as one side of an equation. -/
def forced (b : Bool) : Bool := Bool.rec (motive := fun _ => Bool) false true b
theorem forced_eq (b : Bool) : forced b = b := by cases b <;> rfl
theorem of_forced {b : Bool} (h : forced b = true) : b = true := by rwa [forced_eq] at h

def memL : List (Nat × List AV × AV) → Memo
  | [], _, _ => none
  | e :: r, k, args => cond (Nat.beq e.1 k) (cond (AV.sames e.2.1 args) (some e.2.2) (memL r k args)) (memL r k args)

/-- An entry, run. -/
def entry (B : CallsB) (e : Nat × List AV × AV) : Bool := and (AV.frozs e.2.1) (and e.2.2.froz (B e.1 e.2.1 TH.mt (fun u _ => u.same e.2.2)))

theorem memL_nil {Φ : Calls'} : MemoOK Φ (memL []) := fun _ _ _ h => by cases h
theorem memL_cons {C : Ctx} (hGT : GTok C) {B : CallsB} (hB : SoundB (ACall C) B) {e : Nat × List AV × AV} {L : List (Nat × List AV × AV)} (h : entry B e = true) (hL : MemoOK (ACall C) (memL L)) : MemoOK (ACall C) (memL (e :: L)) := by
  obtain ⟨k0, a0, v0⟩ := e
  simp only [entry, Bool.and_eq_true] at h
  obtain ⟨h1, h2, h3⟩ := h
  intro k args v hm H Q hQ
  unfold memL at hm
  dsimp only at hm
  cases hb : Nat.beq k0 k with
  | false => rw [hb] at hm; exact hL k args v hm H Q hQ
  | true =>
    rw [hb] at hm
    obtain rfl := Nat.eq_of_beq_eq_true hb
    cases hs : AV.sames a0 args with
    | false => rw [hs] at hm; exact hL k0 args v hm H Q hQ
    | true =>
      rw [hs] at hm
      simp only [cond_true, Option.some.injEq] at hm
      subst hm
      obtain rfl := AV.sames_sound _ _ hs
      exact run_any hGT hB h1 h2 h3 H Q hQ
theorem memL_app {C : Ctx} (hGT : GTok C) {B : CallsB} (hB : SoundB (ACall C) B) {L : List (Nat × List AV × AV)} (hL : MemoOK (ACall C) (memL L)) : ∀ {N : List (Nat × List AV × AV)}, N.all (entry B) = true → MemoOK (ACall C) (memL (N ++ L))
  | [], _ => hL
  | e :: N, h => by
    simp only [List.all_cons, Bool.and_eq_true] at h
    exact memL_cons hGT hB h.1 (memL_app hGT hB hL h.2)

/-- What is known, as a table of functions' runs. -/
def runI (fn : Nat → Option FnC) (L : List (Nat × List AV × AV)) : CallsB := runM (memL L) (dispI fn) 100
theorem runI_ok {C : Ctx} {fn : Nat → Option FnC} (hd : DispOK (ACall C) (dispI fn)) {L : List (Nat × List AV × AV)} (hL : MemoOK (ACall C) (memL L)) : SoundB (ACall C) (runI fn L) := runM_sound hL hd 100

theorem run_yes {C : Ctx} {B : CallsB} (hB : SoundB (ACall C) B) {k : Nat} {args : List AV} (h : B k args TH.mt (fun u _ => u.same (.bool true)) = true) : ACall C k args AH.mt (fun v _ => v = .bool true) := by
  have := hB k args TH.mt _ h (fun v _ => v = .bool true) (fun v T' h => AV.same_sound _ _ h)
  rwa [TH.ah_mt] at this
end
end Rb

/- Values told more weakly: which slice may still grow is forgotten. -/
set_option linter.unusedVariables false
set_option linter.unusedSimpArgs false
namespace Rb
open Go
mutual
def AV.weak : AV → AV
  | .fptr cs => .fptr (AV.weaks cs)
  | .lst _ len cs => .lst .dead len (AV.weaks cs)
  | .fn k cs => .fn k (AV.weaks cs)
  | .iface t v => .iface t (AV.weak v)
  | .agg cs => .agg (AV.weaks cs)
  | .tup cs => .tup (AV.weaks cs)
  | v => v
def AV.weaks : List AV → List AV
  | [] => []
  | c :: r => AV.weak c :: AV.weaks r
end
theorem weaks_map : ∀ cs : List AV, AV.weaks cs = cs.map AV.weak
  | [] => rfl
  | c :: r => by rw [AV.weaks, weaks_map r]; rfl
theorem weaks_get {cs : List AV} {j : Nat} {c : AV} (h : (AV.weaks cs)[j]? = some c) : ∃ d, cs[j]? = some d ∧ c = d.weak := by
  rw [weaks_map, List.getElem?_map] at h
  cases hc : cs[j]? with
  | none => rw [hc] at h; cases h
  | some d => rw [hc] at h; simp at h; exact ⟨d, rfl, h.symm⟩
theorem weaks_len (cs : List AV) : (AV.weaks cs).length = cs.length := by rw [weaks_map, List.length_map]

theorem VR.weak {F : FTab} {w : World} {G : Ghost} {c : AV} {V : Value} (h : VR F w G c V) : VR F w G c.weak V := by
  induction h with
  | bot V => exact .bot V
  | bool b => exact .bool b
  | int k n => exact .int k n
  | str s => exact .str s
  | nilp => exact .nilp
  | ptr id off h => exact .ptr id off h
  | fptr cells b o Vs h _ ih =>
    refine .fptr _ b o Vs (fun j c hj => ?_) fun j c hj => ?_
    · obtain ⟨d, hd, rfl⟩ := weaks_get hj; exact h j d hd
    · obtain ⟨d, hd, rfl⟩ := weaks_get hj; exact ih j d hd
  | lstnil => exact .lst0 none 0
  | lst0 a cap => exact .lst0 a cap
  | lst tk len cells b o cap Vs ht hle h _ ih =>
    refine .lst .dead len _ b o cap Vs trivial hle (fun j c hj => ?_) fun j c hj => ?_
    · obtain ⟨d, hd, rfl⟩ := weaks_get hj; exact h j d hd
    · obtain ⟨d, hd, rfl⟩ := weaks_get hj; exact ih j d hd
  | row id off len sz cap h hle hc => exact .row id off len sz cap h hle hc
  | map id h => exact .map id h
  | nilmap => exact .nilmap
  | fn key caps f Vs hk hf hl _ ih =>
    refine .fn key _ f Vs hk hf (by rw [weaks_len]; exact hl) fun j c V hc hV => ?_
    obtain ⟨d, hd, rfl⟩ := weaks_get hc; exact ih j d V hd hV
  | bfn key k caps f Vs hk hf hl _ ih =>
    refine .bfn key k _ f Vs hk hf (by rw [weaks_len]; exact hl) fun j c V hc hV => ?_
    obtain ⟨d, hd, rfl⟩ := weaks_get hc; exact ih j d V hd hV
  | nilfn => exact .nilfn
  | iface t v V _ ih => exact .iface t _ V ih
  | nilif => exact .nilif
  | agg cs Vs hl _ ih =>
    refine .agg _ Vs (by rw [weaks_len]; exact hl) fun j c V hc hV => ?_
    obtain ⟨d, hd, rfl⟩ := weaks_get hc; exact ih j d V hd hV
  | tup cs Vs hl _ ih =>
    refine .tup _ Vs (by rw [weaks_len]; exact hl) fun j c V hc hV => ?_
    obtain ⟨d, hd, rfl⟩ := weaks_get hc; exact ih j d V hd hV

/-- A result may be told more weakly. -/
theorem ACall.weak {C : Ctx} {key : Nat} {args : List AV} {H : AH} {Q : Post} (h : ACall C key args H (fun v H' => Q v.weak H')) : ACall C key args H Q := by
  refine ⟨by obtain ⟨v, H', hq⟩ := h.1; exact ⟨_, _, hq⟩, fun f hf G w Vs hG hrel hargs => ?_⟩
  refine Calls.mono (h.2 f hf G w Vs hG hrel hargs) fun e w' he => ?_
  obtain ⟨V, v, H', G', e1, hQ, hv, r⟩ := he
  exact ⟨V, v.weak, H', G', e1, hQ, hv.weak, r⟩

/-- What holds of arguments told weakly holds of them told strongly. -/
theorem ACall.weak_args {C : Ctx} {key : Nat} {args : List AV} {H : AH} {Q : Post} (h : ACall C key (AV.weaks args) H Q) : ACall C key args H Q := by
  refine ⟨h.1, fun f hf G w Vs hG hrel hargs => ?_⟩
  refine h.2 f hf G w Vs hG hrel ⟨by rw [weaks_len]; exact hargs.1, fun j c V hc hV => ?_⟩
  obtain ⟨d, hd, rfl⟩ := weaks_get hc
  exact (hargs.2 j d V hd hV).weak
end Rb

/- Known calls, found by function first; results and arguments told weakly. -/
set_option linter.unusedVariables false
namespace Rb
open Go
noncomputable section

def lookA : List (List AV × AV) → List AV → Option AV
  | [], _ => none
  | e :: r, a => cond (AV.sames e.1 a) (some e.2) (lookA r a)
def grp (k : Nat) : List (Nat × List AV × AV) → List (List AV × AV)
  | [] => []
  | e :: r => cond (Nat.beq e.1 k) ((e.2.1, e.2.2) :: grp k r) (grp k r)
theorem look_grp (k : Nat) (args : List AV) : ∀ L : List (Nat × List AV × AV), lookA (grp k L) args = memL L k args
  | [] => rfl
  | e :: r => by
    have ih := look_grp k args r
    unfold grp memL
    cases Nat.beq e.1 k with
    | false => exact ih
    | true =>
      simp only [cond_true, lookA]
      cases AV.sames e.2.1 args with
      | false => exact ih
      | true => rfl
def memG (L : List (Nat × List AV × AV)) : Memo := fun k args => match grp k L with
  | [] => none
  | l => lookA l (AV.weaks args)
theorem memG_ok {C : Ctx} {L : List (Nat × List AV × AV)} (h : MemoOK (ACall C) (memL L)) : MemoOK (ACall C) (memG L) := by
  intro k args v hm H Q hQ
  have : lookA (grp k L) (AV.weaks args) = some v := by
    unfold memG at hm
    split at hm
    · cases hm
    · exact hm
  rw [look_grp] at this
  exact ACall.weak_args (h k _ v this H Q hQ)

theorem run_anyW {C : Ctx} (hGT : GTok C) {B : CallsB} (hB : SoundB (ACall C) B) {k : Nat} {args : List AV} {v : AV} (ha : AV.frozs args = true) (hv : v.froz = true) (h : B k args TH.mt (fun u _ => u.weak.same v) = true) (H : AH) (Q : Post) (hQ : Q v H) : ACall C k args H Q :=
  ACall.frame2 hGT (ACall.weak (Q := fun u _ => u.same v = true) (run_closed hB (K := fun u => u.weak.same v) h)) ha H Q fun u _ hu => by rw [AV.same_sound _ _ hu]; exact ⟨hv, hQ⟩

/-- An entry, run; its result may be told more weakly. -/
def entryW (B : CallsB) (e : Nat × List AV × AV) : Bool := and (AV.frozs e.2.1) (and e.2.2.froz (B e.1 e.2.1 TH.mt (fun u _ => u.weak.same e.2.2)))
def allW (B : CallsB) : List (Nat × List AV × AV) → Bool
  | [] => true
  | e :: r => and (entryW B e) (allW B r)
theorem memL_consW {C : Ctx} (hGT : GTok C) {B : CallsB} (hB : SoundB (ACall C) B) {e : Nat × List AV × AV} {L : List (Nat × List AV × AV)} (h : entryW B e = true) (hL : MemoOK (ACall C) (memL L)) : MemoOK (ACall C) (memL (e :: L)) := by
  obtain ⟨k0, a0, v0⟩ := e
  simp only [entryW, Bool.and_eq_true] at h
  obtain ⟨h1, h2, h3⟩ := h
  intro k args v hm H Q hQ
  unfold memL at hm
  dsimp only at hm
  cases hb : Nat.beq k0 k with
  | false => rw [hb] at hm; exact hL k args v hm H Q hQ
  | true =>
    rw [hb] at hm
    obtain rfl := Nat.eq_of_beq_eq_true hb
    cases hs : AV.sames a0 args with
    | false => rw [hs] at hm; exact hL k0 args v hm H Q hQ
    | true =>
      rw [hs] at hm
      simp only [cond_true, Option.some.injEq] at hm
      subst hm
      obtain rfl := AV.sames_sound _ _ hs
      exact run_anyW hGT hB h1 h2 h3 H Q hQ
theorem memL_appW {C : Ctx} (hGT : GTok C) {B : CallsB} (hB : SoundB (ACall C) B) {L : List (Nat × List AV × AV)} (hL : MemoOK (ACall C) (memL L)) : ∀ {N : List (Nat × List AV × AV)}, allW B N = true → MemoOK (ACall C) (memL (N ++ L))
  | [], _ => hL
  | e :: N, h => by
    simp only [allW, Bool.and_eq_true] at h
    exact memL_consW hGT hB h.1 (memL_appW hGT hB hL h.2)
end
end Rb

/- The powers of ten, as a table of the library. -/
namespace Rb
open Go
/-- The powers of ten. -/
def tenTab : List Int := [1, 10, 100, 1000, 10000, 100000, 1000000, 10000000, 100000000, 1000000000, 10000000000, 100000000000, 1000000000000, 10000000000000, 100000000000000, 1000000000000000, 10000000000000000, 100000000000000000, 1000000000000000000, 10000000000000000000]
def pow10tab : List AV := tenTab.map (AV.int .u64)
end Rb
