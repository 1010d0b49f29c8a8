/- A part of the proof (part 2): see the last text. -/
import Derived.Test.YtiipdjhkcjbmkaaGreatDoorRb1
import Derived.Orders
import Derived.Carry
import Derived.OpenVars
import Derived.OpenShut
import Derived.ProofKit
import Derived.ChangeOld
set_option linter.unusedVariables false
set_option linter.unusedSimpArgs false
namespace Rb
open Go
def Opd.slots : Opd → List Nat
 | .t n => [n]
 | .k _ => []
def oslots : Option Opd → List Nat
 | some x => x.slots
 | none => []
def lslots (xs : List Opd) : List Nat := xs.flatMap Opd.slots
def pslots (xs : List (Nat × Nat × Opd)) : List Nat := xs.flatMap fun p => p.2.2.slots
def opReads : AOp → List Nat
 | .mv  x => (x.slots)
 | .pick  c x y => (c.slots) ++ (x.slots) ++ (y.slots)
 | .bin _ x y => (x.slots) ++ (y.slots)
 | .beq _ x y => (x.slots) ++ (y.slots)
 | .isnil _ _ x => (x.slots)
 | .eqagg _ _ x y => (x.slots) ++ (y.slots)
 | .un _ x => (x.slots)
 | .conv _ x => (x.slots)
 | .same  x => (x.slots)
 | .nilck  x => (x.slots)
 | .field _ _ _ x => (x.slots)
 | .idx _ _ _ x i => (x.slots) ++ (i.slots)
 | .idxs  x i => (x.slots) ++ (i.slots)
 | .faddr _ x => (x.slots)
 | .iaddr _ _ x i => (x.slots) ++ (i.slots)
 | .slice _ x lo hi mx => (x.slots) ++ (oslots lo) ++ (oslots hi) ++ (oslots mx)
 | .sslice  x lo hi => (x.slots) ++ (oslots lo) ++ (oslots hi)
 | .mkif _ x => (x.slots)
 | .mkfn _ caps => (lslots caps)
 | .extract _ x => (x.slots)
 | .build _ parts => (pslots parts)
 | .len _ x => (x.slots)
 | .lenk _  => []
 | .cap x => x.slots
 | .minmax _ xs => (lslots xs)
 | .load _ _ x => (x.slots)
 | .store _ x v => (x.slots) ++ (v.slots)
 | .box _ _ x => (x.slots)
 | .alloc _ _  => []
 | .bslice _ _ _ _ parts => (pslots parts)
 | .append _ _ _ x y => (x.slots) ++ (y.slots)
 | .make _ _ _ _ len cap => (len.slots) ++ (cap.slots)
 | .copy _ x y => (x.slots) ++ (y.slots)
 | .mkmap   => []
 | .lookup _ _ _ m k => (m.slots) ++ (k.slots)
 | .mapup _ m k v => (m.slots) ++ (k.slots) ++ (v.slots)
 | .delete _ m k => (m.slots) ++ (k.slots)
 | .maplen  m => (m.slots)
 | .sbytes x => (x.slots)
 | .bstr x => (x.slots)
 | .srange x => (x.slots)
 | .snext x => (x.slots)
 | .call _ args => (lslots args)
 | .callv  f args => (f.slots) ++ (lslots args)
 | .ext _ xs => lslots xs
 | .inv _ x args => (x.slots) ++ (lslots args)
section
variable {env env' : Env}
theorem ev_eq (x : Opd) (h : ∀ t ∈ x.slots, env.getD t .bot = env'.getD t .bot) : x.ev env = x.ev env' := by
 cases x with
 | t n => exact h n (by simp [Opd.slots])
 | k v => rfl
theorem evo_eq (x : Option Opd) (h : ∀ t ∈ oslots x, env.getD t .bot = env'.getD t .bot) : x.map (Opd.ev env) = x.map (Opd.ev env') := by
 cases x with
 | none => rfl
 | some x => simp only [Option.map_some]; rw [ev_eq x h]
theorem evs_eq (xs : List Opd) (h : ∀ t ∈ lslots xs, env.getD t .bot = env'.getD t .bot) : evs env xs = evs env' xs := by
 induction xs with
 | nil => rfl
 | cons x xs ih =>
  simp only [evs, List.map_cons] at ih ⊢
  rw [ev_eq x (fun t ht => h t (by simp [lslots]; left; exact ht)), ih (fun t ht => h t (by simp [lslots] at ht ⊢; right; exact ht))]
theorem evps_eq (xs : List (Nat × Nat × Opd)) (h : ∀ t ∈ pslots xs, env.getD t .bot = env'.getD t .bot) : evps env xs = evps env' xs := by
 induction xs with
 | nil => rfl
 | cons x xs ih =>
  simp only [evps, List.map_cons] at ih ⊢
  rw [ev_eq x.2.2 (fun t ht => h t (by simp [pslots]; left; exact ht)), ih (fun t ht => h t (by simp [pslots] at ht ⊢; right; exact ht))]
theorem opSem_eq {Φ : Calls'} {H : AH} {K : Post} (op : AOp) (h : ∀ t ∈ opReads op, env.getD t .bot = env'.getD t .bot) : opSem Φ env H K op = opSem Φ env' H K op := by
 cases op with
 | mv x => simp only [opSem]; rw [ev_eq x (fun t ht => h t (by simp only [opReads, List.mem_append]; simp [ht]))]
 | pick c x y => simp only [opSem]; rw [ev_eq c (fun t ht => h t (by simp only [opReads, List.mem_append]; simp [ht])), ev_eq x (fun t ht => h t (by simp only [opReads, List.mem_append]; simp [ht])), ev_eq y (fun t ht => h t (by simp only [opReads, List.mem_append]; simp [ht]))]
 | bin op x y => simp only [opSem]; rw [ev_eq x (fun t ht => h t (by simp only [opReads, List.mem_append]; simp [ht])), ev_eq y (fun t ht => h t (by simp only [opReads, List.mem_append]; simp [ht]))]
 | beq neg x y => simp only [opSem]; rw [ev_eq x (fun t ht => h t (by simp only [opReads, List.mem_append]; simp [ht])), ev_eq y (fun t ht => h t (by simp only [opReads, List.mem_append]; simp [ht]))]
 | isnil k neg x => simp only [opSem]; rw [ev_eq x (fun t ht => h t (by simp only [opReads, List.mem_append]; simp [ht]))]
 | eqagg neg ks x y => simp only [opSem]; rw [ev_eq x (fun t ht => h t (by simp only [opReads, List.mem_append]; simp [ht])), ev_eq y (fun t ht => h t (by simp only [opReads, List.mem_append]; simp [ht]))]
 | un op x => simp only [opSem]; rw [ev_eq x (fun t ht => h t (by simp only [opReads, List.mem_append]; simp [ht]))]
 | conv k x => simp only [opSem]; rw [ev_eq x (fun t ht => h t (by simp only [opReads, List.mem_append]; simp [ht]))]
 | same x => simp only [opSem]; rw [ev_eq x (fun t ht => h t (by simp only [opReads, List.mem_append]; simp [ht]))]
 | nilck x => simp only [opSem]; rw [ev_eq x (fun t ht => h t (by simp only [opReads, List.mem_append]; simp [ht]))]
 | field off sz agg x => simp only [opSem]; rw [ev_eq x (fun t ht => h t (by simp only [opReads, List.mem_append]; simp [ht]))]
 | idx len sz agg x i => simp only [opSem]; rw [ev_eq x (fun t ht => h t (by simp only [opReads, List.mem_append]; simp [ht])), ev_eq i (fun t ht => h t (by simp only [opReads, List.mem_append]; simp [ht]))]
 | idxs x i => simp only [opSem]; rw [ev_eq x (fun t ht => h t (by simp only [opReads, List.mem_append]; simp [ht])), ev_eq i (fun t ht => h t (by simp only [opReads, List.mem_append]; simp [ht]))]
 | faddr off x => simp only [opSem]; rw [ev_eq x (fun t ht => h t (by simp only [opReads, List.mem_append]; simp [ht]))]
 | iaddr arr sz x i => simp only [opSem]; rw [ev_eq x (fun t ht => h t (by simp only [opReads, List.mem_append]; simp [ht])), ev_eq i (fun t ht => h t (by simp only [opReads, List.mem_append]; simp [ht]))]
 | slice sz x lo hi mx => simp only [opSem]; rw [ev_eq x (fun t ht => h t (by simp only [opReads, List.mem_append]; simp [ht])), evo_eq lo (fun t ht => h t (by simp only [opReads, List.mem_append]; simp [ht])), evo_eq hi (fun t ht => h t (by simp only [opReads, List.mem_append]; simp [ht])), evo_eq mx (fun t ht => h t (by simp only [opReads, List.mem_append]; simp [ht]))]
 | sslice x lo hi => simp only [opSem]; rw [ev_eq x (fun t ht => h t (by simp only [opReads, List.mem_append]; simp [ht])), evo_eq lo (fun t ht => h t (by simp only [opReads, List.mem_append]; simp [ht])), evo_eq hi (fun t ht => h t (by simp only [opReads, List.mem_append]; simp [ht]))]
 | mkif t x => simp only [opSem]; rw [ev_eq x (fun t ht => h t (by simp only [opReads, List.mem_append]; simp [ht]))]
 | mkfn key caps => simp only [opSem]; rw [evs_eq caps (fun t ht => h t (by simp only [opReads, List.mem_append]; simp [ht]))]
 | extract i x => simp only [opSem]; rw [ev_eq x (fun t ht => h t (by simp only [opReads, List.mem_append]; simp [ht]))]
 | build zero parts => simp only [opSem]; rw [evps_eq parts (fun t ht => h t (by simp only [opReads, List.mem_append]; simp [ht]))]
 | len str x => simp only [opSem]; rw [ev_eq x (fun t ht => h t (by simp only [opReads, List.mem_append]; simp [ht]))]
 | lenk n => rfl
 | minmax mx xs => simp only [opSem]; rw [evs_eq xs (fun t ht => h t (by simp only [opReads, List.mem_append]; simp [ht]))]
 | load n agg x => simp only [opSem]; rw [ev_eq x (fun t ht => h t (by simp only [opReads, List.mem_append]; simp [ht]))]
 | store n x v => simp only [opSem]; rw [ev_eq x (fun t ht => h t (by simp only [opReads, List.mem_append]; simp [ht])), ev_eq v (fun t ht => h t (by simp only [opReads, List.mem_append]; simp [ht]))]
 | box mu n x => simp only [opSem]; rw [ev_eq x (fun t ht => h t (by simp only [opReads, List.mem_append]; simp [ht]))]
 | alloc mu zero => rfl
 | bslice mu sz len zero parts => simp only [opSem]; rw [evps_eq parts (fun t ht => h t (by simp only [opReads, List.mem_append]; simp [ht]))]
 | append mu sz bytes x y => simp only [opSem]; rw [ev_eq x (fun t ht => h t (by simp only [opReads, List.mem_append]; simp [ht])), ev_eq y (fun t ht => h t (by simp only [opReads, List.mem_append]; simp [ht]))]
 | make mu sz bytes zero len cap => simp only [opSem]; rw [ev_eq len (fun t ht => h t (by simp only [opReads, List.mem_append]; simp [ht])), ev_eq cap (fun t ht => h t (by simp only [opReads, List.mem_append]; simp [ht]))]
 | copy sz x y => simp only [opSem]; rw [ev_eq x (fun t ht => h t (by simp only [opReads, List.mem_append]; simp [ht])), ev_eq y (fun t ht => h t (by simp only [opReads, List.mem_append]; simp [ht]))]
 | mkmap  => rfl
 | lookup kk zero ok m k => simp only [opSem]; rw [ev_eq m (fun t ht => h t (by simp only [opReads, List.mem_append]; simp [ht])), ev_eq k (fun t ht => h t (by simp only [opReads, List.mem_append]; simp [ht]))]
 | mapup kk m k v => simp only [opSem]; rw [ev_eq m (fun t ht => h t (by simp only [opReads, List.mem_append]; simp [ht])), ev_eq k (fun t ht => h t (by simp only [opReads, List.mem_append]; simp [ht])), ev_eq v (fun t ht => h t (by simp only [opReads, List.mem_append]; simp [ht]))]
 | delete kk m k => simp only [opSem]; rw [ev_eq m (fun t ht => h t (by simp only [opReads, List.mem_append]; simp [ht])), ev_eq k (fun t ht => h t (by simp only [opReads, List.mem_append]; simp [ht]))]
 | maplen m => simp only [opSem]; rw [ev_eq m (fun t ht => h t (by simp only [opReads, List.mem_append]; simp [ht]))]
 | sbytes x => simp only [opSem]; rw [ev_eq x (fun t ht => h t (by simp only [opReads]; simp [ht]))]
 | bstr x => simp only [opSem]; rw [ev_eq x (fun t ht => h t (by simp only [opReads]; simp [ht]))]
 | srange x => simp only [opSem]; rw [ev_eq x (fun t ht => h t (by simp only [opReads]; simp [ht]))]
 | snext x => simp only [opSem]; rw [ev_eq x (fun t ht => h t (by simp only [opReads]; simp [ht]))]
 | call key args => simp only [opSem]; rw [evs_eq args (fun t ht => h t (by simp only [opReads, List.mem_append]; simp [ht]))]
 | callv f args => simp only [opSem]; rw [ev_eq f (fun t ht => h t (by simp only [opReads, List.mem_append]; simp [ht])), evs_eq args (fun t ht => h t (by simp only [opReads, List.mem_append]; simp [ht]))]
 | cap x => simp only [opSem]; rw [ev_eq x (fun t ht => h t (by simp only [opReads]; simp [ht]))]
 | ext e xs => simp only [opSem]; rw [evs_eq xs (fun t ht => h t (by simp only [opReads]; simp [ht]))]
 | inv tbl x args => simp only [opSem]; rw [ev_eq x (fun t ht => h t (by simp only [opReads, List.mem_append]; simp [ht])), evs_eq args (fun t ht => h t (by simp only [opReads, List.mem_append]; simp [ht]))]
end
def isP : AOp → Bool
 | .mv .. => true
 | .pick .. => true
 | .bin .. => true
 | .beq .. => true
 | .isnil .. => true
 | .eqagg .. => true
 | .un .. => true
 | .conv .. => true
 | .same .. => true
 | .nilck .. => true
 | .field .. => true
 | .idx .. => true
 | .idxs .. => true
 | .faddr .. => true
 | .iaddr .. => true
 | .slice .. => true
 | .sslice .. => true
 | .mkif .. => true
 | .mkfn .. => true
 | .extract .. => true
 | .build .. => true
 | .len .. => true
 | .lenk .. => true
 | .cap .. => true
 | .minmax .. => true
 | .sbytes .. => true
 | .box mu _ _ => !mu
 | .alloc mu _ => !mu
 | .bslice mu _ _ _ _ => !mu
 | _ => false
def isR : AOp → Bool
 | .load .. => true
 | .lookup .. => true
 | .maplen .. => true
 | .bstr .. => true
 | _ => false
def prOp (env : Env) (H : AH) : AOp → Option AV
 | .mv x => some (x.ev env)
 | .pick c x y => match c.ev env with | .bool b => some (if b = true then x.ev env else y.ev env) | _ => none
 | .bin op x y => abin op (x.ev env) (y.ev env)
 | .beq neg x y => abeq neg (x.ev env) (y.ev env)
 | .isnil k neg x => anil k neg (x.ev env)
 | .eqagg neg ks x y => aeqAgg neg ks (x.ev env) (y.ev env)
 | .un op x => aun op (x.ev env)
 | .conv k x => aconv k (x.ev env)
 | .same x => asame (x.ev env)
 | .nilck x => anilck (x.ev env)
 | .field off sz agg x => afield off sz agg (x.ev env)
 | .idx len sz agg x i => aidx len sz agg (x.ev env) (i.ev env)
 | .idxs x i => aidxs (x.ev env) (i.ev env)
 | .faddr off x => afaddr off (x.ev env)
 | .iaddr arr sz x i => aiaddr arr sz (x.ev env) (i.ev env)
 | .slice sz x lo hi mx => aslice sz (x.ev env) (lo.map (Opd.ev env)) (hi.map (Opd.ev env)) (mx.map (Opd.ev env))
 | .sslice x lo hi => asslice (x.ev env) (lo.map (Opd.ev env)) (hi.map (Opd.ev env))
 | .mkif t x => some (.iface t (x.ev env))
 | .mkfn key caps => some (.fn key (evs env caps))
 | .extract i x => aextract i (x.ev env)
 | .build zero parts => abuild zero (evps env parts)
 | .len str x => alen str (x.ev env)
 | .lenk n => some (.int .i64 n)
 | .cap x => acap (x.ev env)
 | .minmax mx xs => aminmax mx (evs env xs)
 | .load n agg x => aload H n agg (x.ev env)
 | .lookup kk zero ok m k => alookup H kk zero ok (m.ev env) (k.ev env)
 | .maplen m => amaplen H (m.ev env)
 | .sbytes x => asbytes (x.ev env)
 | .bstr x => abstr H (x.ev env)
 | .box mu n x => if mu then none else (if (x.ev env).known ∧ (x.ev env).cells.length = n then some (.fptr (x.ev env).cells) else none)
 | .alloc mu zero => if mu then none else some (.fptr zero)
 | .bslice mu sz len zero parts => if mu then none else (fillA (List.replicate len zero).flatten (evps env parts)).map fun cells => .lst .full len cells
 | _ => none
theorem pr_of_sem {Φ : Calls'} {env : Env} {H : AH} {K : Post} {op : AOp} (hp : isP op = true ∨ isR op = true) (h : opSem Φ env H K op) : ∃ v, prOp env H op = some v ∧ K v H := by
 cases op with
 | mv x => exact ⟨_, rfl, h⟩
 | pick c x y =>
  obtain ⟨b, hb, h⟩ := Gd_inv h
  refine ⟨_, by simp only [prOp]; rw [hb], ?_⟩
  cases b
  · simpa using h
  · simpa using h
 | mkif t x => exact ⟨_, rfl, h⟩
 | mkfn key caps => exact ⟨_, rfl, h⟩
 | lenk n => exact ⟨_, rfl, h⟩
 | box mu n x =>
  cases mu with
  | true => simp [isP, isR] at hp
  | false =>
   obtain ⟨v, H', hv, hK⟩ := h
   simp only [aboxv, abox, Bool.false_eq_true, if_false] at hv
   split at hv
   · rename_i hk
     cases hv
     exact ⟨_, by simp only [prOp, Bool.false_eq_true, if_false]; rw [if_pos hk], hK⟩
   · cases hv
 | alloc mu zero =>
  cases mu with
  | true => simp [isP, isR] at hp
  | false =>
   obtain ⟨v, H', hv, hK⟩ := h
   simp only [abox, Bool.false_eq_true, if_false] at hv
   cases hv
   exact ⟨_, rfl, hK⟩
 | bslice mu sz len zero parts =>
  cases mu with
  | true => simp [isP, isR] at hp
  | false =>
   obtain ⟨v, H', hv, hK⟩ := h
   simp only [abslice, Bool.false_eq_true, if_false] at hv
   cases hf : fillA (List.replicate len zero).flatten (evps env parts) with
   | none => simp [hf] at hv
   | some cells =>
    simp only [hf, Option.map_some, Option.some.injEq, Prod.mk.injEq] at hv
    obtain ⟨rfl, rfl⟩ := hv
    exact ⟨_, by simp [prOp, hf], hK⟩
 | store | append | make | copy | mkmap | mapup | delete | srange | snext | call | callv | ext | inv => simp [isP, isR] at hp
 | _ => obtain ⟨v, hv, hK⟩ := h; exact ⟨v, hv, hK⟩
theorem sem_of_pr {Φ : Calls'} {env : Env} {H : AH} {K : Post} {op : AOp} {v : AV} (h : prOp env H op = some v) (hK : K v H) : opSem Φ env H K op := by
 cases op with
 | mv x => cases h; exact hK
 | pick c x y =>
  simp only [prOp] at h
  simp only [opSem]
  split at h
  · rename_i b hb
    rw [hb]
    cases h
    cases b
    · simpa using hK
    · simpa using hK
  · cases h
 | mkif t x => cases h; exact hK
 | mkfn key caps => cases h; exact hK
 | lenk n => cases h; exact hK
 | box mu n x =>
  cases mu with
  | true => simp [prOp] at h
  | false =>
   simp only [prOp, Bool.false_eq_true, if_false] at h
   split at h
   · rename_i hk
     cases h
     exact ⟨_, H, by simp [aboxv, abox, hk], hK⟩
   · cases h
 | alloc mu zero =>
  cases mu with
  | true => simp [prOp] at h
  | false =>
   simp only [prOp, Bool.false_eq_true, if_false] at h
   cases h
   exact ⟨_, H, by simp [abox], hK⟩
 | bslice mu sz len zero parts =>
  cases mu with
  | true => simp [prOp] at h
  | false =>
   simp only [prOp, Bool.false_eq_true, if_false] at h
   cases hf : fillA (List.replicate len zero).flatten (evps env parts) with
   | none => simp [hf] at h
   | some cells =>
    simp only [hf, Option.map_some, Option.some.injEq] at h
    subst h
    exact ⟨_, H, by simp [abslice, hf], hK⟩
 | store | append | make | copy | mkmap | mapup | delete | srange | snext | call | callv | ext | inv => simp [prOp] at h
 | _ => exact ⟨v, h, hK⟩
theorem prOp_P {env : Env} {H H' : AH} {op : AOp} (h : isP op = true) : prOp env H op = prOp env H' op := by
 cases op <;> first | rfl | (simp [isP] at h)
theorem prOp_isPR {env : Env} {H : AH} {op : AOp} {v : AV} (hv : prOp env H op = some v) : isP op = true ∨ isR op = true := by
 cases op with
 | box mu n x => cases mu with
  | true => simp [prOp] at hv
  | false => left; rfl
 | alloc mu zero => cases mu with
  | true => simp [prOp] at hv
  | false => left; rfl
 | bslice mu sz len zero parts => cases mu with
  | true => simp [prOp] at hv
  | false => left; rfl
 | load | lookup | maplen | bstr => right; rfl
 | store | append | make | copy | mkmap | mapup | delete | srange | snext | call | callv | ext | inv => simp [prOp] at hv
 | _ => left; rfl
theorem prOp_eq {env env' : Env} {H : AH} {op : AOp} (h : ∀ t ∈ opReads op, env.getD t .bot = env'.getD t .bot) : prOp env H op = prOp env' H op := by
 cases hv : prOp env H op with
 | some v =>
  have h1 : opSem (fun _ _ _ _ => False) env H (fun u _ => u = v) op := sem_of_pr hv rfl
  rw [opSem_eq op h] at h1
  obtain ⟨u, hu, rfl⟩ := pr_of_sem (prOp_isPR hv) h1
  exact hu.symm
 | none =>
  cases hv' : prOp env' H op with
  | none => rfl
  | some v =>
   have h1 : opSem (fun _ _ _ _ => False) env' H (fun u _ => u = v) op := sem_of_pr hv' rfl
   rw [← opSem_eq op h] at h1
   obtain ⟨u, hu, _⟩ := pr_of_sem (prOp_isPR hv') h1
   rw [hv] at hu
   cases hu
end Rb

namespace Rb
open Go
def Mono (Φ : Calls') : Prop := ∀ key args H (Q Q' : Post), (∀ v H, Q v H → Q' v H) → Φ key args H Q → Φ key args H Q'
theorem ACall_mono (C : Ctx) : Mono (ACall C) := by
 intro key args H Q Q' hQ h
 refine ⟨h.1.imp fun v h => h.imp fun H' h => hQ _ _ h, fun f hf G w Vs hG hrel hargs => ?_⟩
 refine Calls.mono (h.2 f hf G w Vs hG hrel hargs) fun e w' he => ?_
 obtain ⟨V, v, H', G', h1, h2, h3⟩ := he
 exact ⟨V, v, H', G', h1, hQ _ _ h2, h3⟩
theorem Do.mono {α : Type} {x : Option α} {K K' : α → Prop} (hK : ∀ a, K a → K' a) (h : Do x K) : Do x K' := by
 obtain ⟨a, ha, h⟩ := h; exact ⟨a, ha, hK a h⟩
theorem DoH.mono {x : Option (AV × AH)} {K K' : Post} (hK : ∀ v H, K v H → K' v H) (h : DoH x K) : DoH x K' := by
 obtain ⟨a, H, ha, h⟩ := h; exact ⟨a, H, ha, hK a H h⟩
theorem Gd.mono {v : AV} {want : Bool} {A B A' B' : Prop} (hA : A → A') (hB : B → B') (h : Gd v want A B) : Gd v want A' B' := by
 unfold Gd at *
 split at h
 · split at h
   · rename_i hh; simp [hh, hA h]
   · rename_i hh; simp [hh, hB h]
 · exact h.elim
theorem opSem_mono {Φ : Calls'} (hΦ : Mono Φ) {env : Env} {H : AH} {K K' : Post} {op : AOp} (hK : ∀ v H, K v H → K' v H) (h : opSem Φ env H K op) : opSem Φ env H K' op := by
 cases op with
 | mv x => exact hK _ _ h
 | pick c x y => exact Gd.mono (hK _ _) (hK _ _) h
 | mkif t x => exact hK _ _ h
 | mkfn key caps => exact hK _ _ h
 | lenk n => exact hK _ _ h
 | box mu n x => exact DoH.mono hK h
 | alloc mu zero => exact DoH.mono hK h
 | bslice => exact DoH.mono hK h
 | append => exact DoH.mono hK h
 | make => exact DoH.mono hK h
 | copy => exact DoH.mono hK h
 | mkmap => exact hK _ _ h
 | srange => exact DoH.mono hK h
 | snext => exact DoH.mono hK h
 | call key args => exact hΦ _ _ _ _ _ hK h
 | callv f args => obtain ⟨key, caps, h1, h2⟩ := h; exact ⟨key, caps, h1, hΦ _ _ _ _ _ hK h2⟩
 | ext => exact DoH.mono hK h
 | inv tbl x args => obtain ⟨t, v, r, u, h1, h2, h3, h4⟩ := h; exact ⟨t, v, r, u, h1, h2, h3, hΦ _ _ _ _ _ hK h4⟩
 | store => exact Do.mono (fun H h => hK _ _ h) h
 | mapup => exact Do.mono (fun H h => hK _ _ h) h
 | delete => exact Do.mono (fun H h => hK _ _ h) h
 | _ => exact Do.mono (fun v h => hK _ _ h) h
def oReads (o : AOper) : List Nat := opReads o.op ++ (match o.guard with | some (s, _) => [s] | none => [])
def oneV (Φ : Calls') (o : AOper) (env : Env) (H : AH) (K : Post) : Prop :=
 match o.guard with
 | none => opSem Φ env H K o.op
 | some (s, want) => ∃ b, (env.getD s .bot).wanted want = some b ∧ if b = true then opSem Φ env H K o.op else K (.tup []) H
theorem set_same {env : Env} {s : Nat} {v : AV} (h : env.getD s .bot = v) : env.set s v = env := by
 apply List.ext_getElem?
 intro i
 rw [List.getElem?_set]
 split
 · rename_i hi
   subst hi
   split
   · rename_i hl
     rw [List.getD_eq_getElem?_getD, List.getElem?_eq_getElem hl] at h
     rw [List.getElem?_eq_getElem hl, ← h]; rfl
   · rename_i hl; rw [List.getElem?_eq_none (by omega)]
 · rfl
theorem oneSem_V {Φ : Calls'} {o : AOper} {env : Env} {H : AH} {K : Env → AH → Prop} : oneSem Φ o env H K ↔ oneV Φ o env H (fun v H' => K (setd env o.dst v) H') := by
 unfold oneSem oneV
 cases hg : o.guard with
 | none => exact Iff.rfl
 | some g =>
  obtain ⟨s, want⟩ := g
  dsimp only
  constructor
  · intro h
    unfold Gd3 at h
    split at h
    · rename_i b hb
      refine ⟨b == want, by rw [hb]; rfl, ?_⟩
      by_cases hbw : b = want
      · subst hbw
        rw [if_pos rfl] at h
        rw [if_pos (by simp)]
        rw [set_same hb] at h
        exact h
      · rw [if_neg hbw] at h
        rw [if_neg (by simpa using hbw)]
        have : b = !want := by cases b <;> cases want <;> simp at hbw ⊢
        subst this
        rw [set_same hb] at h
        exact h
    · rename_i hb
      refine ⟨false, by rw [hb]; rfl, ?_⟩
      rw [if_neg (by simp)]
      rw [set_same hb] at h
      exact h
    · exact h.elim
  · rintro ⟨b, hb, h⟩
    unfold Gd3
    cases b with
    | true =>
     have hw := AV.wanted_true hb
     rw [hw]
     dsimp only
     rw [if_pos rfl] at h ⊢
     rw [set_same hw]
     exact h
    | false =>
     rw [if_neg (by simp)] at h
     rcases AV.wanted_false hb with hw | hw
     · rw [hw]
       dsimp only
       rw [if_neg (by cases want <;> simp), set_same hw]
       exact h
     · rw [hw]
       dsimp only
       rw [set_same hw]
       exact h
def FactV (o : AOper) (env : Env) (H : AH) (v : AV) : Prop :=
 match o.guard with
 | none => prOp env H o.op = some v
 | some (s, want) => ∃ b, (env.getD s .bot).wanted want = some b ∧ if b = true then prOp env H o.op = some v else v = .tup []
theorem oneV_eq {Φ : Calls'} {o : AOper} {env env' : Env} {H : AH} {K : Post} (h : ∀ t ∈ oReads o, env.getD t .bot = env'.getD t .bot) : oneV Φ o env H K ↔ oneV Φ o env' H K := by
 have h1 := opSem_eq (Φ := Φ) (H := H) (K := K) o.op (fun t ht => h t (by simp [oReads, ht]))
 unfold oneV
 split
 · rw [h1]
 · rename_i s want hg
   rw [h1, h s (by simp [oReads, hg])]
theorem FactV_eq {o : AOper} {env env' : Env} {H : AH} {v : AV} (h : ∀ t ∈ oReads o, env.getD t .bot = env'.getD t .bot) : FactV o env H v ↔ FactV o env' H v := by
 have h1 := prOp_eq (H := H) (op := o.op) (fun t ht => h t (by simp [oReads, ht]))
 unfold FactV
 split
 · rw [h1]
 · rename_i s want hg
   rw [h1, h s (by simp [oReads, hg])]
theorem FactV_P {o : AOper} {env : Env} {H H' : AH} {v : AV} (h : isP o.op = true) : FactV o env H v ↔ FactV o env H' v := by
 unfold FactV
 rw [prOp_P (H' := H') h]
theorem oneV_fact {Φ : Calls'} {o : AOper} {env : Env} {H : AH} {K : Post} (hp : isP o.op = true ∨ isR o.op = true) (h : oneV Φ o env H K) : ∃ v, FactV o env H v ∧ K v H := by
 unfold oneV at h
 unfold FactV
 split at h
 · rename_i hg
   obtain ⟨v, h1, h2⟩ := pr_of_sem hp h
   exact ⟨v, h1, h2⟩
 · rename_i s want hg
   obtain ⟨b, hb, h⟩ := h
   split at h
   · rename_i hbw
     obtain ⟨v, h1, h2⟩ := pr_of_sem hp h
     exact ⟨v, ⟨b, hb, by rw [if_pos hbw]; exact h1⟩, h2⟩
   · rename_i hbw
     exact ⟨.tup [], ⟨b, hb, by rw [if_neg hbw]⟩, h⟩
theorem fact_oneV {Φ : Calls'} {o : AOper} {env : Env} {H : AH} {K : Post} {v : AV} (h : FactV o env H v) (hK : K v H) : oneV Φ o env H K := by
 unfold FactV at h
 unfold oneV
 split
 · rename_i hg
   rw [hg] at h
   exact sem_of_pr h hK
 · rename_i s want hg
   rw [hg] at h
   obtain ⟨b, hb, h⟩ := h
   refine ⟨b, hb, ?_⟩
   split at h
   · rename_i hbw; rw [if_pos hbw]; exact sem_of_pr h hK
   · rename_i hbw; rw [if_neg hbw]; subst h; exact hK
theorem oneV_mono {Φ : Calls'} (hΦ : Mono Φ) {o : AOper} {env : Env} {H : AH} {K K' : Post} (hK : ∀ v H, K v H → K' v H) (h : oneV Φ o env H K) : oneV Φ o env H K' := by
 unfold oneV at *
 split at h
 · exact opSem_mono hΦ hK h
 · obtain ⟨b, hb, h⟩ := h
   refine ⟨b, hb, ?_⟩
   split at h
   · rename_i hbw; rw [if_pos hbw]; exact opSem_mono hΦ hK h
   · rename_i hbw; rw [if_neg hbw]; exact hK _ _ h
end Rb

namespace Rb
open Go
def dstOf (ops : List AOper) (k : Nat) : Option Nat := (ops[k]?).bind fun o => o.dst
def late (ops : List AOper) (S : Nat → Bool) (t : Nat) : Bool := (List.range ops.length).any fun k => dstOf ops k == some t && !S k
def mix (ops : List AOper) (S : Nat → Bool) (e0 e1 : Env) : Env := (List.range e1.length).map fun t => if late ops S t then e0.getD t .bot else e1.getD t .bot
def prs (pr : List (List Nat)) (i : Nat) : List Nat := pr.getD i []
def isAl0 (ops : List AOper) (i : Nat) : Bool :=
 match ops[i]? with
 | some ⟨some _, .alloc true _, none⟩ => true
 | some ⟨some _, .mkmap, none⟩ => true
 | _ => false
def isMk (ops : List AOper) (pr : List (List Nat)) (i : Nat) : Bool :=
 match ops[i]? with
 | some ⟨some _, .make true _ _ _ _ _, none⟩ => (prs pr i).all fun k => match ops[k]? with | some o => isP o.op || isR o.op | none => false
 | _ => false
def isAl (ops : List AOper) (pr : List (List Nat)) (i : Nat) : Bool := isAl0 ops i || isMk ops pr i
def isCl (ops : List AOper) (i : Nat) : Bool :=
 match ops[i]? with
 | some ⟨some _, .call _ _, none⟩ => true
 | some ⟨some _, .append _ _ _ _ _, none⟩ => true
 | _ => false
theorem isCl_spec {al : List AOper} {i : Nat} (h : isCl al i = true) : ∃ t op, al[i]? = some ⟨some t, op, none⟩ ∧ ((∃ k args, op = .call k args) ∨ ∃ mu sz bytes x y, op = .append mu sz bytes x y) := by
 unfold isCl at h
 split at h
 · rename_i t k args heq; exact ⟨_, _, heq, .inl ⟨_, _, rfl⟩⟩
 · rename_i t mu sz bytes x y heq; exact ⟨_, _, heq, .inr ⟨_, _, _, _, _, rfl⟩⟩
 · cases h
def isAlOp (op : AOp) : Prop := (∃ zero, op = .alloc true zero) ∨ op = .mkmap ∨ ∃ sz bytes zero l c, op = .make true sz bytes zero l c
theorem isAl_spec {al : List AOper} {pr : List (List Nat)} {i : Nat} (h : isAl al pr i = true) : ∃ t op, al[i]? = some ⟨some t, op, none⟩ ∧ isAlOp op := by
 unfold isAl at h
 rw [Bool.or_eq_true] at h
 rcases h with h | h
 · unfold isAl0 at h
   split at h
   · rename_i t zero heq; exact ⟨_, _, heq, .inl ⟨_, rfl⟩⟩
   · rename_i t heq; exact ⟨_, _, heq, .inr (.inl rfl)⟩
   · cases h
 · unfold isMk at h
   split at h
   · rename_i t sz bytes zero l c heq; exact ⟨_, _, heq, .inr (.inr ⟨_, _, _, _, _, rfl⟩)⟩
   · cases h
theorem isAl_pre {al : List AOper} {pr : List (List Nat)} {i t sz bytes : Nat} {zero : List AV} {l c : Opd} (h : isAl al pr i = true) (ho : al[i]? = some ⟨some t, .make true sz bytes zero l c, none⟩) :
  ∀ k ∈ prs pr i, ∃ o, al[k]? = some o ∧ (isP o.op = true ∨ isR o.op = true) := by
 intro k hk
 unfold isAl isAl0 isMk at h
 rw [ho] at h
 simp only [Bool.false_or] at h
 rw [List.all_eq_true] at h
 have := h k hk
 split at this
 · rename_i o heq; exact ⟨o, heq, by simpa using this⟩
 · cases this
theorem isAlOp_no {op : AOp} (h : isAlOp op) (h2 : isP op = true ∨ isR op = true) : False := by
 rcases h with ⟨zero, rfl⟩ | rfl | ⟨_, _, _, _, _, rfl⟩ <;> rcases h2 with h | h <;> simp [isP, isR] at h
def chkOne (n : Nat) (ops : List AOper) (pr : List (List Nat)) (i : Nat) : Bool :=
 match ops[i]? with
 | none => false
 | some o =>
  (prs pr i).all (fun j => (prs pr j).all (prs pr i).contains) && !(prs pr i).contains i &&
  (oReads o).all (fun t => (List.range n).all fun k => !(dstOf ops k == some t) || (prs pr i).contains k || (!isR o.op && (k == i || (prs pr k).contains i))) &&
  (List.range n).all (fun k => k == i || o.dst == none || !(dstOf ops k == o.dst))
def chkAll (ops : List AOper) (pr : List (List Nat)) : Bool := (List.range ops.length).all (chkOne ops.length ops pr)
def chkSeg (ops : List AOper) (pr : List (List Nat)) (es : List Nat) : List Nat → List Nat → Bool
 | _, [] => true
 | D, i :: r => decide (i < ops.length) && !D.contains i && (prs pr i).all D.contains && es.all (prs pr i).contains && (match ops[i]? with | some o => isP o.op || isR o.op | none => false) && chkSeg ops pr es (i :: D) r
def chkEff (ops : List AOper) (pr : List (List Nat)) (es D : List Nat) (e : Nat) (st : List Nat) : Bool :=
 decide (e < ops.length) && !D.contains e && (prs pr e).all D.contains && ((isAl ops pr e && (isAl0 ops e || es.all fun x => isAl ops pr x || isCl ops x)) || es.all (prs pr e).contains) &&
 D.all fun i => (prs pr e).contains i || st.contains i || match ops[i]? with | some o => !isR o.op | none => false
def segOf (last : List Nat) : List (List Nat × Nat × List Nat) → List Nat
 | [] => last
 | (seg, _, _) :: _ => seg
def chkRem (ops : List AOper) (pr : List (List Nat)) (last : List Nat) : List Nat → List Nat → List (List Nat × Nat × List Nat) → Bool
 | es, D, [] => (List.range ops.length).all D.contains
 | es, D, (_, e, st) :: r => chkEff ops pr es D e st && chkSeg ops pr (e :: es) (e :: D) (segOf last r) && chkRem ops pr last (e :: es) ((segOf last r).reverse ++ (e :: D)) r
def nextE : List (List Nat × Nat × List Nat) → Option Nat
 | [] => none
 | (_, e, _) :: _ => some e
def chkDraw (ops : List AOper) (pr : List (List Nat)) (plan : List (List Nat × Nat × List Nat)) (last : List Nat) : Bool :=
 chkAll ops pr && chkSeg ops pr [] [] (segOf last plan) && chkRem ops pr last [] ((segOf last plan).reverse) plan
def remSem (Φ : Calls') (ops : List AOper) (last : List Nat) (K : Env → AH → Prop) : List (List Nat × Nat × List Nat) → Env → AH → Prop
 | [], env, H => K env H
 | (_, e, st) :: r, env, H => match ops[e]? with
  | some o => oneSem Φ o env H fun env2 H2 => sames ops env H2 (drawSem Φ ops last r env2 H2 K) st
  | none => False
section
variable {Φ : Calls'} {ops : List AOper} {pr : List (List Nat)} {last : List Nat} {K : Env → AH → Prop} {e0 e1 : Env} {H : AH} {S S' : Nat → Bool}
theorem drawSem_rem (plan : List (List Nat × Nat × List Nat)) (env : Env) : drawSem Φ ops last plan env H K = segSem Φ ops (segOf last plan) env H (fun env' H' => remSem Φ ops last K plan env' H') := by
 cases plan with
 | nil => simp only [drawSem, segOf, remSem]
 | cons p r =>
  obtain ⟨seg, e, st⟩ := p
  exact rfl
theorem mix_getD (h : e0.length = e1.length) (t : Nat) : (mix ops S e0 e1).getD t .bot = if late ops S t then e0.getD t .bot else e1.getD t .bot := by
 unfold mix
 by_cases ht : t < e1.length
 · simp [List.getD_eq_getElem?_getD, ht]
 · have h1 : e1.getD t .bot = .bot := by simp [List.getD_eq_getElem?_getD, List.getElem?_eq_none (Nat.le_of_not_lt ht)]
   have h0 : e0.getD t .bot = .bot := by simp [List.getD_eq_getElem?_getD, List.getElem?_eq_none (h ▸ Nat.le_of_not_lt ht)]
   rw [h1, h0]
   simp [List.getD_eq_getElem?_getD, ht]
theorem mix_length : (mix ops S e0 e1).length = e1.length := by simp [mix]
theorem env_ext {a b : Env} (hl : a.length = b.length) (h : ∀ t, t < a.length → a.getD t .bot = b.getD t .bot) : a = b := by
 apply List.ext_getElem hl
 intro i h1 h2
 have := h i h1
 simpa [List.getD_eq_getElem?_getD, h1, h2] using this
theorem late_iff {t : Nat} : late ops S t = true ↔ ∃ k, dstOf ops k = some t ∧ S k = false := by
 unfold late
 simp only [List.any_eq_true, List.mem_range, Bool.and_eq_true, beq_iff_eq, Bool.not_eq_true']
 constructor
 · rintro ⟨k, _, h⟩; exact ⟨k, h⟩
 · rintro ⟨k, h1, h2⟩
   refine ⟨k, ?_, h1, h2⟩
   unfold dstOf at h1
   rcases Nat.lt_or_ge k ops.length with h | h
   · exact h
   · simp [List.getElem?_eq_none h] at h1
structure Good (ops : List AOper) (pr : List (List Nat)) : Prop where
 trans : ∀ i, i < ops.length → ∀ j ∈ prs pr i, ∀ k ∈ prs pr j, k ∈ prs pr i
 irr : ∀ i, i < ops.length → i ∉ prs pr i
 reads : ∀ i o t k, ops[i]? = some o → t ∈ oReads o → dstOf ops k = some t → k ∈ prs pr i ∨ (isR o.op = false ∧ (k = i ∨ i ∈ prs pr k))
 uniq : ∀ i k t, dstOf ops i = some t → dstOf ops k = some t → i = k
theorem dstOf_lt {k t : Nat} (h : dstOf ops k = some t) : k < ops.length := by
 unfold dstOf at h
 rcases Nat.lt_or_ge k ops.length with h' | h'
 · exact h'
 · simp [List.getElem?_eq_none h'] at h
theorem chkAll_good (h : chkAll ops pr = true) : Good ops pr := by
 have one : ∀ i, i < ops.length → chkOne ops.length ops pr i = true := fun i hi => by
  unfold chkAll at h
  rw [List.all_eq_true] at h
  exact h i (List.mem_range.2 hi)
 refine ⟨fun i hi j hj k hk => ?_, fun i hi => ?_, fun i o t k ho ht hk => ?_, fun i k t hi hk => ?_⟩
 · have := one i hi
   unfold chkOne at this
   split at this
   · cases this
   · simp only [Bool.and_eq_true] at this
     have h2 := this.1.1.1
     rw [List.all_eq_true] at h2
     have h3 := h2 j hj
     rw [List.all_eq_true] at h3
     simpa using h3 k hk
 · have := one i hi
   unfold chkOne at this
   split at this
   · cases this
   · simp only [Bool.and_eq_true] at this
     have := this.1.1.2
     simpa using this
 · have hi : i < ops.length := by
     rcases Nat.lt_or_ge i ops.length with h' | h'
     · exact h'
     · simp [List.getElem?_eq_none h'] at ho
   have := one i hi
   unfold chkOne at this
   rw [ho] at this
   simp only [Bool.and_eq_true] at this
   have h2 := this.1.2
   rw [List.all_eq_true] at h2
   have h3 := h2 t ht
   rw [List.all_eq_true] at h3
   have h4 := h3 k (List.mem_range.2 (dstOf_lt hk))
   rw [hk] at h4
   simp at h4
   rcases h4 with h4 | ⟨h5, h4⟩
   · exact .inl h4
   · refine .inr ⟨h5, ?_⟩
     rcases h4 with h4 | h4
     · exact .inl h4
     · exact .inr h4
 · have hil := dstOf_lt hi
   have := one i hil
   unfold chkOne at this
   split at this
   · cases this
   · rename_i o ho
     simp only [Bool.and_eq_true] at this
     have h2 := this.2
     rw [List.all_eq_true] at h2
     have h3 := h2 k (List.mem_range.2 (dstOf_lt hk))
     have ho' : o.dst = some t := by simpa [dstOf, ho] using hi
     rw [ho', hk] at h3
     simp at h3
     exact h3.symm
theorem mix_reads (hg : Good ops pr) (hl : e0.length = e1.length) {i : Nat} {o : AOper} (ho : ops[i]? = some o)
  (h1 : ∀ k ∈ prs pr i, S k = true) (h2 : S i = false) (hd : ∀ k, S k = true → ∀ j ∈ prs pr k, S j = true)
  (h1' : ∀ k ∈ prs pr i, S' k = true) (h2' : S' i = false) (hd' : ∀ k, S' k = true → ∀ j ∈ prs pr k, S' j = true) :
  ∀ t ∈ oReads o, (mix ops S e0 e1).getD t .bot = (mix ops S' e0 e1).getD t .bot := by
 intro t ht
 rw [mix_getD hl, mix_getD hl]
 have : late ops S t = late ops S' t := by
  have key : ∀ {A B : Nat → Bool}, (∀ k ∈ prs pr i, A k = true) → B i = false → (∀ k, B k = true → ∀ j ∈ prs pr k, B j = true) → late ops A t = true → late ops B t = true := by
   intro A B a1 b2 bd h
   obtain ⟨k, hk, hn⟩ := late_iff.1 h
   refine late_iff.2 ⟨k, hk, ?_⟩
   rcases hg.reads i o t k ho ht hk with h | ⟨_, h⟩
   · rw [a1 k h] at hn; cases hn
   · rcases h with rfl | h
     · exact b2
     · cases hb : B k with
       | false => rfl
       | true => have := bd k hb i h; rw [b2] at this; cases this
  cases ha : late ops S t with
  | true => rw [key h1 h2' hd' ha]
  | false =>
   cases hb : late ops S' t with
   | false => rfl
   | true => rw [key h1' h2 hd hb] at ha; cases ha
 rw [this]
theorem mix_step (hg : Good ops pr) (hl : e0.length = e1.length) {i : Nat} {o : AOper} (ho : ops[i]? = some o) {v : AV}
  (hv : ∀ t, o.dst = some t → t < e1.length → e1.getD t .bot = v) :
  setd (mix ops S e0 e1) o.dst v = mix ops (fun k => k == i || S k) e0 e1 := by
 have hdi : dstOf ops i = o.dst := by simp [dstOf, ho]
 apply env_ext
 · cases hd : o.dst <;> simp [setd, mix_length]
 · intro t ht
   rw [mix_getD hl]
   cases hd : o.dst with
   | none =>
    simp only [setd]
    rw [mix_getD hl]
    have : late ops S t = late ops (fun k => k == i || S k) t := by
     rw [Bool.eq_iff_iff, late_iff, late_iff]
     constructor
     · rintro ⟨k, hk, hn⟩
       refine ⟨k, hk, ?_⟩
       have : k ≠ i := fun e => by subst e; rw [hdi, hd] at hk; cases hk
       simp [this, hn]
     · rintro ⟨k, hk, hn⟩
       simp at hn
       exact ⟨k, hk, hn.2⟩
    rw [this]
   | some s =>
    simp only [setd]
    by_cases hts : s = t
    · subst hts
      have hsl : s < (mix ops S e0 e1).length := by
       rw [hd] at ht; simpa [setd, List.length_set] using ht
      have hlate : late ops (fun k => k == i || S k) s = false := by
       cases hx : late ops (fun k => k == i || S k) s with
       | false => rfl
       | true =>
        obtain ⟨k, hk, hn⟩ := late_iff.1 hx
        have := hg.uniq i k s (by rw [hdi, hd]) hk
        subst this
        simp at hn
      rw [hlate]
      simp only [List.getD_eq_getElem?_getD, List.getElem?_set_self hsl, Bool.false_eq_true, if_false, Option.getD_some]
      rw [← hv s hd (by rw [mix_length] at hsl; exact hsl), List.getD_eq_getElem?_getD]
    · have h1 : ((mix ops S e0 e1).set s v).getD t .bot = (mix ops S e0 e1).getD t .bot := by
        rw [List.getD_eq_getElem?_getD, List.getElem?_set_ne hts, List.getD_eq_getElem?_getD]
      rw [h1, mix_getD hl]
      have : late ops S t = late ops (fun k => k == i || S k) t := by
       rw [Bool.eq_iff_iff, late_iff, late_iff]
       constructor
       · rintro ⟨k, hk, hn⟩
         refine ⟨k, hk, ?_⟩
         have : k ≠ i := fun e => by subst e; rw [hdi, hd] at hk; cases hk; exact hts rfl
         simp [this, hn]
       · rintro ⟨k, hk, hn⟩
         simp at hn
         exact ⟨k, hk, hn.2⟩
      rw [this]
theorem mix_put (hl : e0.length = e1.length) {i : Nat} {o : AOper} (hg : Good ops pr) (ho : ops[i]? = some o) (v : AV) (hi : S i = false) : mix ops S e0 (setd e1 o.dst v) = mix ops S e0 e1 := by
 have hdi : dstOf ops i = o.dst := by simp [dstOf, ho]
 have hl' : e0.length = (setd e1 o.dst v).length := by cases hd : o.dst <;> simp [setd, hl]
 apply env_ext
 · rw [mix_length, mix_length, ← hl, ← hl']
 · intro t _
   rw [mix_getD hl', mix_getD hl]
   cases hlt : late ops S t with
   | true => rfl
   | false =>
    simp only [Bool.false_eq_true, if_false]
    cases hd : o.dst with
    | none => rfl
    | some s =>
     simp only [setd]
     rw [List.getD_eq_getElem?_getD, List.getElem?_set_ne, List.getD_eq_getElem?_getD]
     intro e
     subst e
     have : late ops S s = true := late_iff.2 ⟨i, by rw [hdi, hd], hi⟩
     rw [hlt] at this; cases this
def Holds (e : Env) (d : Option Nat) (v : AV) : Prop := ∀ t, d = some t → t < e.length → e.getD t .bot = v
def Fact (ops : List AOper) (pr : List (List Nat)) (e0 e1 : Env) (H : AH) (i : Nat) : Prop :=
 ∃ o v, ops[i]? = some o ∧ (isP o.op = true ∨ isR o.op = true) ∧ FactV o (mix ops (fun k => (prs pr i).contains k) e0 e1) H v ∧ Holds e1 o.dst v
structure Inv (Φ : Calls') (ops : List AOper) (pr : List (List Nat)) (last : List Nat) (K : Env → AH → Prop) (plan : List (List Nat × Nat × List Nat)) (S : Nat → Bool) (env : Env) (H : AH) : Prop where
 ex : ∃ (e0 e1 : Env) (D es : List Nat),
  e0.length = e1.length ∧ env = mix ops S e0 e1 ∧ e1 = mix ops D.contains e0 e1 ∧
  (∀ i, S i = true → i ∈ D) ∧ (∀ i, i ∈ D → S i = false → Fact ops pr e0 e1 H i) ∧
  (∀ k, S k = true → ∀ j ∈ prs pr k, S j = true) ∧ (∀ k ∈ D, ∀ j ∈ prs pr k, j ∈ D) ∧
  chkRem ops pr last es D plan = true ∧ remSem Φ ops last K plan e1 H
theorem segSem_go (hg : Good ops pr) {es : List Nat} {Kc : Env → AH → Prop} : ∀ (seg D : List Nat) (e1 : Env), e0.length = e1.length → e1 = mix ops D.contains e0 e1 →
  (∀ i, S i = true → i ∈ D) → (∀ i, i ∈ D → S i = false → Fact ops pr e0 e1 H i) → (∀ k ∈ D, ∀ j ∈ prs pr k, j ∈ D) → chkSeg ops pr es D seg = true → segSem Φ ops seg e1 H Kc →
  ∃ e1', e0.length = e1'.length ∧ mix ops S e0 e1' = mix ops S e0 e1 ∧ e1' = mix ops (seg.reverse ++ D).contains e0 e1' ∧ (∀ i, S i = true → i ∈ seg.reverse ++ D) ∧
   (∀ i, i ∈ seg.reverse ++ D → S i = false → Fact ops pr e0 e1' H i) ∧ (∀ k ∈ seg.reverse ++ D, ∀ j ∈ prs pr k, j ∈ seg.reverse ++ D) ∧ Kc e1' H := by
 intro seg
 induction seg with
 | nil => intro D e1 hl hm hS hf hd _ h; exact ⟨e1, hl, rfl, by simpa using hm, by simpa using hS, by simpa using hf, by simpa using hd, h⟩
 | cons i seg ih =>
  intro D e1 hl hm hS hf hd hc h
  simp only [chkSeg, Bool.and_eq_true] at hc
  obtain ⟨⟨⟨⟨⟨hi, hnot⟩, hpr⟩, hes⟩, hop⟩, hrest⟩ := hc
  simp only [segSem] at h
  cases ho : ops[i]? with
  | none => rw [ho] at h; exact h.elim
  | some o =>
   rw [ho] at h hop
   dsimp only at h hop
   have hop' : isP o.op = true ∨ isR o.op = true := by simpa using hop
   have hni : i ∉ D := by simpa using hnot
   have hpri : ∀ k ∈ prs pr i, k ∈ D := by
    rw [List.all_eq_true] at hpr
    intro k hk
    simpa using hpr k hk
   have hSi : S i = false := by
    cases hs : S i with
    | false => rfl
    | true => exact absurd (hS i hs) hni
   rw [oneSem_V] at h
   obtain ⟨v, hv, h⟩ := oneV_fact hop' h
   have hdi : dstOf ops i = o.dst := by simp [dstOf, ho]
   have hl' : e0.length = (setd e1 o.dst v).length := by cases hd : o.dst <;> simp [setd, hl]
   have hholds : Holds (setd e1 o.dst v) o.dst v := by
    intro t ht hlt
    rw [ht] at hlt ⊢
    simp only [setd] at hlt ⊢
    rw [List.length_set] at hlt
    simp [List.getD_eq_getElem?_getD, hlt]
   have hcD : ∀ k, D.contains k = true → ∀ j ∈ prs pr k, D.contains j = true := fun k hk j hj => by
    simpa using hd k (by simpa using hk) j hj
   have hDi : D.contains i = false := by simpa using hni
   have hmix : setd e1 o.dst v = mix ops (i :: D).contains e0 (setd e1 o.dst v) := by
    have h1 := mix_step (S := D.contains) hg hl' ho hholds
    rw [mix_put hl hg ho v hDi, ← hm] at h1
    rw [h1]
    congr 1
   have hnew : Fact ops pr e0 (setd e1 o.dst v) H i := by
    refine ⟨o, v, ho, hop', ?_, hholds⟩
    have hirr : (prs pr i).contains i = false := by simpa using hg.irr i (by simpa using hi)
    rw [mix_put hl hg ho v hirr]
    rw [hm] at hv
    refine (FactV_eq (mix_reads hg hl ho ?_ ?_ ?_ ?_ ?_ ?_)).1 hv
    · intro k hk; simpa using hpri k hk
    · exact hDi
    · exact hcD
    · intro k hk; simpa using hk
    · exact hirr
    · intro k hk j hj; simpa using hg.trans i (by simpa using hi) k (by simpa using hk) j hj
   have hold : ∀ k, k ∈ D → S k = false → Fact ops pr e0 (setd e1 o.dst v) H k := by
    intro k hk hSk
    obtain ⟨ok, vk, hok, hopk, hfk, hhk⟩ := hf k hk hSk
    have hik : (prs pr k).contains i = false := by
     cases hx : (prs pr k).contains i with
     | false => rfl
     | true => exact absurd (hd k hk i (by simpa using hx)) hni
    refine ⟨ok, vk, hok, hopk, by rw [mix_put hl hg ho v hik]; exact hfk, ?_⟩
    intro t ht hlt
    rw [← hl', hl] at hlt
    have := hhk t ht hlt
    rw [← this]
    cases hdo : o.dst with
    | none => rfl
    | some s =>
     simp only [setd]
     rw [List.getD_eq_getElem?_getD, List.getElem?_set_ne, List.getD_eq_getElem?_getD]
     intro e
     subst e
     have := hg.uniq i k s (by rw [hdi, hdo]) (by simp [dstOf, hok, ht])
     subst this
     exact hni hk
   have hmS : mix ops S e0 (setd e1 o.dst v) = mix ops S e0 e1 := mix_put hl hg ho v hSi
   have hA : ∀ k, k ∈ i :: D → S k = false → Fact ops pr e0 (setd e1 o.dst v) H k := by
    intro k hk hSk
    rcases List.mem_cons.1 hk with rfl | hk
    · exact hnew
    · exact hold k hk hSk
   have hB : ∀ k ∈ i :: D, ∀ j ∈ prs pr k, j ∈ i :: D := by
    intro k hk j hj
    rcases List.mem_cons.1 hk with rfl | hk
    · exact List.mem_cons_of_mem _ (hpri j hj)
    · exact List.mem_cons_of_mem _ (hd k hk j hj)
   obtain ⟨e1', g1, g2, g3, g4, g5, g6, g7⟩ := ih (i :: D) (setd e1 o.dst v) hl' hmix (fun k hk => List.mem_cons_of_mem _ (hS k hk)) hA hB hrest h
   have hrev : (i :: seg).reverse ++ D = seg.reverse ++ i :: D := by simp
   rw [hrev]
   exact ⟨e1', g1, g2.trans hmS, g3, g4, g5, g6, g7⟩
theorem sames_spec {env : Env} {X : Prop} : ∀ {st : List Nat}, sames ops env H X st → X ∧ ∀ l ∈ st, ∀ o, ops[l]? = some o → SameG env H o := by
 intro st
 induction st with
 | nil => intro h; exact ⟨h, fun l hl => by cases hl⟩
 | cons l st ih =>
  intro h
  obtain ⟨h1, h2⟩ := h
  obtain ⟨h3, h4⟩ := ih h2
  refine ⟨h3, fun k hk o ho => ?_⟩
  rcases List.mem_cons.1 hk with rfl | hk
  · rw [ho] at h1; exact h1
  · exact h4 k hk o ho
theorem Same_pr {env : Env} {o : AOper} (hr : isR o.op = true) (h : Same env H o) : prOp env H o.op = some (env.getD (o.dst.getD 0) .bot) := by
 unfold Same at h
 cases ho : o.op <;> rw [ho] at hr h <;> first | (simp [isR] at hr; done) | exact h
theorem inv_start (hg : Good ops pr) {plan : List (List Nat × Nat × List Nat)} {env : Env} (hc : chkSeg ops pr [] [] (segOf last plan) = true) (hc2 : chkRem ops pr last [] ((segOf last plan).reverse) plan = true)
  (h : drawSem Φ ops last plan env H K) : Inv Φ ops pr last K plan (fun _ => false) env H := by
 rw [drawSem_rem] at h
 have hmix : ∀ S, mix ops S env env = env := fun S => env_ext mix_length fun t _ => by rw [mix_getD rfl]; split <;> rfl
 obtain ⟨e1', g1, g2, g3, g4, g5, g6, g7⟩ := segSem_go (S := fun _ => false) hg (segOf last plan) [] env rfl (hmix _).symm (fun i hi => by cases hi) (fun i hi => by cases hi) (fun k hk => by cases hk) hc h
 refine ⟨env, e1', _, [], g1, ?_, g3, g4, g5, fun k hk => (by cases hk), g6, by simpa using hc2, g7⟩
 rw [g2, hmix]
theorem es_of (hg : Good ops pr) {i : Nat} (hi : i < ops.length) : ∀ (plan : List (List Nat × Nat × List Nat)) (es D : List Nat), chkRem ops pr last es D plan = true → i ∉ D → isAl ops pr i = false → ∀ e ∈ es, e ∈ prs pr i := by
 intro plan
 induction plan with
 | nil =>
  intro es D h hn hal
  simp only [chkRem] at h
  rw [List.all_eq_true] at h
  exact absurd (by simpa using h i (List.mem_range.2 hi)) hn
 | cons p r ih =>
  obtain ⟨seg, e, st⟩ := p
  intro es D h hn hal
  simp only [chkRem, Bool.and_eq_true] at h
  obtain ⟨⟨h1, h2⟩, h3⟩ := h
  have segs : ∀ (seg : List Nat) (D : List Nat), chkSeg ops pr (e :: es) D seg = true → i ∈ seg → ∀ e' ∈ es, e' ∈ prs pr i := by
   intro seg
   induction seg with
   | nil => intro D _ h; cases h
   | cons k seg ihs =>
    intro D hc hk e' he'
    simp only [chkSeg, Bool.and_eq_true] at hc
    obtain ⟨⟨⟨⟨⟨_, _⟩, _⟩, hes⟩, _⟩, hrest⟩ := hc
    rcases List.mem_cons.1 hk with rfl | hk
    · rw [List.all_eq_true] at hes
      simpa using hes e' (List.mem_cons_of_mem _ he')
    · exact ihs _ hrest hk e' he'
  by_cases hie : i = e
  · subst hie
    simp only [chkEff, Bool.and_eq_true] at h1
    have := h1.1.2
    rw [hal, Bool.false_and, Bool.false_or, List.all_eq_true] at this
    intro e' he'
    simpa using this e' he'
  · by_cases hseg : i ∈ segOf last r
    · exact segs _ _ h2 hseg
    · have := ih (e :: es) _ h3 (by simp [hie, hseg, hn]) hal
      exact fun e' he' => this e' (List.mem_cons_of_mem _ he')
def alArgs (env : Env) : AOp → Option (Nat × Nat)
 | .make _ sz bytes zero l c => match l.ev env, c.ev env with
  | .int .i64 n, .int .i64 m => if 0 ≤ n ∧ n ≤ m ∧ bytes * m ≤ 281474976710656 ∧ m ≤ 9223372036854775807 ∧ zero.length = sz then some (n.toNat, m.toNat) else none
  | _, _ => none
 | _ => some (0, 0)
theorem mk_args {env : Env} {Kv : Post} {sz bytes : Nat} {zero : List AV} {l c : Opd} (h : opSem Φ env H Kv (.make true sz bytes zero l c)) :
  ∃ x, alArgs env (.make true sz bytes zero l c) = some x ∧ Kv (.row H.n 0 x.1 sz) (H.push (.row (List.replicate x.2 zero).flatten)) := by
 obtain ⟨v, H', he, hK⟩ := h
 unfold amake at he
 simp only [alArgs]
 split at he
 · rename_i n m h1 h2
   split at he
   · rename_i hc
     simp only [if_true, Option.some.injEq, Prod.mk.injEq] at he
     obtain ⟨rfl, rfl⟩ := he
     rw [h1, h2]
     dsimp only
     rw [if_pos hc]
     exact ⟨_, rfl, hK⟩
   · cases he
 · cases he
theorem alArgs_eq {env env' : Env} {op : AOp} (h : ∀ t ∈ opReads op, env.getD t .bot = env'.getD t .bot) : alArgs env op = alArgs env' op := by
 cases op <;> try rfl
 rename_i mu sz bytes zero l c
 have h1 := ev_eq l fun t ht => h t (by simp [opReads, ht])
 have h2 := ev_eq c fun t ht => h t (by simp [opReads, ht])
 simp only [alArgs, h1, h2]
theorem mix_sub {T : Nat → Bool} {a b : Env} (ha : e0.length = a.length) (hb : e0.length = b.length) (hST : ∀ k, S k = true → T k = true) (h : mix ops T e0 a = mix ops T e0 b) : mix ops S e0 a = mix ops S e0 b := by
 apply env_ext
 · rw [mix_length, mix_length, ← ha, ← hb]
 · intro t _
   rw [mix_getD ha, mix_getD hb]
   cases hs : late ops S t with
   | true => rfl
   | false =>
    have ht : late ops T t = false := by
     cases hx : late ops T t with
     | false => rfl
     | true =>
      obtain ⟨k, hk, hn⟩ := late_iff.1 hx
      have : late ops S t = true := late_iff.2 ⟨k, hk, by
        cases hsk : S k with
        | false => rfl
        | true => rw [hST k hsk] at hn; cases hn⟩
      rw [hs] at this; cases this
    have h1 := mix_getD (ops := ops) (S := T) ha t
    have h2 := mix_getD (ops := ops) (S := T) hb t
    rw [ht] at h1 h2
    simp only [Bool.false_eq_true, if_false] at h1 h2 ⊢
    rw [← h1, ← h2, h]
theorem chkSeg_op {es : List Nat} {i : Nat} : ∀ (seg D : List Nat), chkSeg ops pr es D seg = true → i ∈ seg → ∃ o, ops[i]? = some o ∧ (isP o.op = true ∨ isR o.op = true) := by
 intro seg
 induction seg with
 | nil => intro D _ h; cases h
 | cons k seg ih =>
  intro D hc hk
  simp only [chkSeg, Bool.and_eq_true] at hc
  obtain ⟨⟨⟨⟨⟨_, _⟩, _⟩, _⟩, hop⟩, hrest⟩ := hc
  rcases List.mem_cons.1 hk with rfl | hk
  · split at hop
    · rename_i o heq; exact ⟨o, heq, by simpa using hop⟩
    · cases hop
  · exact ih _ hrest hk
theorem ahead {i : Nat} {o : AOper} (ho : ops[i]? = some o) (h0 : isAl0 ops i = false) (hop : ¬(isP o.op = true ∨ isR o.op = true)) : ∀ (plan : List (List Nat × Nat × List Nat)) (es D : List Nat), chkRem ops pr last es D plan = true → i ∉ D →
  (∀ e ∈ es, isAl ops pr e = true ∨ isCl ops e = true) ∨ ∀ e ∈ es, e ∈ prs pr i := by
 intro plan
 induction plan with
 | nil =>
  intro es D h hn
  simp only [chkRem] at h
  rw [List.all_eq_true] at h
  exact absurd (by simpa using h i (List.mem_range.2 (List.getElem?_eq_some_iff.1 ho).1)) hn
 | cons p r ih =>
  obtain ⟨seg, e, st⟩ := p
  intro es D h hn
  simp only [chkRem, Bool.and_eq_true] at h
  obtain ⟨⟨h1, h2⟩, h3⟩ := h
  by_cases hie : i = e
  · subst hie
    simp only [chkEff, Bool.and_eq_true] at h1
    have := h1.1.2
    rw [h0, Bool.false_or, Bool.or_eq_true, Bool.and_eq_true, List.all_eq_true, List.all_eq_true] at this
    rcases this with ⟨_, h⟩ | h
    · exact .inl fun e he => by simpa using h e he
    · exact .inr fun e he => by simpa using h e he
  · have hseg : i ∉ segOf last r := by
      intro hs
      obtain ⟨o', ho', hop'⟩ := chkSeg_op _ _ h2 hs
      rw [ho] at ho'
      cases ho'
      exact hop hop'
    rcases ih (e :: es) _ h3 (by simp [hie, hseg, hn]) with h | h
    · exact .inl fun x hx => h x (List.mem_cons_of_mem _ hx)
    · exact .inr fun x hx => h x (List.mem_cons_of_mem _ hx)
theorem look (hNV : NonVac Φ) (hg : Good ops pr) {i t sz bytes : Nat} {zero : List AV} {l c : Opd} (ho : ops[i]? = some ⟨some t, .make true sz bytes zero l c, none⟩) : ∀ (plan : List (List Nat × Nat × List Nat)) (e1 : Env) (H : AH) (D es : List Nat),
  e0.length = e1.length → e1 = mix ops D.contains e0 e1 → (∀ k ∈ D, ∀ j ∈ prs pr k, j ∈ D) → chkRem ops pr last es D plan = true → remSem Φ ops last K plan e1 H → i ∉ D → (∀ k ∈ prs pr i, k ∈ D) →
  ∃ x, alArgs e1 (.make true sz bytes zero l c) = some x := by
 have h0 : isAl0 ops i = false := by simp [isAl0, ho]
 have hop : ¬(isP (AOp.make true sz bytes zero l c) = true ∨ isR (AOp.make true sz bytes zero l c) = true) := by simp [isP, isR]
 have hil := (List.getElem?_eq_some_iff.1 ho).1
 intro plan
 induction plan with
 | nil =>
  intro e1 H D es hl hm hd hc _ hn
  simp only [chkRem] at hc
  rw [List.all_eq_true] at hc
  exact absurd (by simpa using hc i (List.mem_range.2 hil)) hn
 | cons p r ih =>
  obtain ⟨seg, e, st⟩ := p
  intro e1 H D es hl hm hd hc hrem hn hpre
  have hc0 := hc
  simp only [chkRem, Bool.and_eq_true] at hc
  obtain ⟨⟨h1, h2⟩, h3⟩ := hc
  simp only [chkEff, Bool.and_eq_true] at h1
  obtain ⟨⟨⟨⟨he1, he2⟩, he3⟩, he4⟩, he5⟩ := h1
  have heD : e ∉ D := by simpa using he2
  by_cases hie : e = i
  · subst hie
    simp only [remSem, ho, oneSem] at hrem
    obtain ⟨x, hx, _⟩ := mk_args hrem
    exact ⟨x, hx⟩
  · have hseg : i ∉ segOf last r := by
      intro hs
      obtain ⟨o', ho', hop'⟩ := chkSeg_op _ _ h2 hs
      rw [ho] at ho'
      cases ho'
      exact hop hop'
    have hin : i ∉ (segOf last r).reverse ++ (e :: D) := by simp [hseg, hn, Ne.symm hie]
    have hale : isAl ops pr e = true ∨ isCl ops e = true := by
     rcases ahead ho h0 hop r _ _ h3 hin with h | h
     · exact h e List.mem_cons_self
     · exact absurd (hpre e (h e List.mem_cons_self)) heD
    obtain ⟨te, ope, hoe, hae⟩ : ∃ te ope, ops[e]? = some ⟨some te, ope, none⟩ ∧ (isAlOp ope ∨ (∃ k args, ope = .call k args) ∨ ∃ mu sz bytes x y, ope = .append mu sz bytes x y) := by
     rcases hale with h | h
     · obtain ⟨te, ope, h1, h2⟩ := isAl_spec h; exact ⟨te, ope, h1, .inl h2⟩
     · obtain ⟨te, ope, h1, h2⟩ := isCl_spec h; exact ⟨te, ope, h1, .inr h2⟩
    simp only [remSem, hoe, oneSem] at hrem
    have hv : ∃ v H2, drawSem Φ ops last r (setd e1 (some te) v) H2 K := by
     rcases hae with (⟨z, rfl⟩ | rfl | ⟨_, _, _, _, _, rfl⟩) | ⟨k, args, rfl⟩ | ⟨_, _, _, _, _, rfl⟩
     · obtain ⟨v, H2, _, h⟩ := hrem; exact ⟨v, H2, (sames_spec h).1⟩
     · exact ⟨_, _, (sames_spec hrem).1⟩
     · obtain ⟨v, H2, _, h⟩ := hrem; exact ⟨v, H2, (sames_spec h).1⟩
     · obtain ⟨v, H2, h⟩ := hNV _ _ _ _ hrem; exact ⟨v, H2, (sames_spec h).1⟩
     · obtain ⟨v, H2, _, h⟩ := hrem; exact ⟨v, H2, (sames_spec h).1⟩
    obtain ⟨v, H2, hdraw⟩ := hv
    rw [drawSem_rem] at hdraw
    have hl' : e0.length = (setd e1 (some te) v).length := by simp [setd, hl]
    have hDe : D.contains e = false := by simpa using heD
    have hmix : setd e1 (some te) v = mix ops (e :: D).contains e0 (setd e1 (some te) v) := by
     have h1 := mix_step (S := D.contains) hg hl' hoe (v := v) (fun s hs hlt => by
       cases hs
       simp only [setd] at hlt ⊢
       rw [List.length_set] at hlt
       simp [List.getD_eq_getElem?_getD, hlt])
     have h2 := mix_put hl hg hoe v hDe
     dsimp only at h1 h2
     rw [h2, ← hm] at h1
     rw [h1]
     congr 1
    have hB : ∀ k ∈ e :: D, ∀ j ∈ prs pr k, j ∈ e :: D := by
     intro k hk j hj
     rcases List.mem_cons.1 hk with rfl | hk
     · rw [List.all_eq_true] at he3
       exact List.mem_cons_of_mem _ (by simpa using he3 j hj)
     · exact List.mem_cons_of_mem _ (hd k hk j hj)
    obtain ⟨e1', g1, g2, g3, g4, g5, g6, g7⟩ := segSem_go (S := (e :: D).contains) hg (segOf last r) (e :: D) (setd e1 (some te) v) hl' hmix (fun k hk => by simpa using hk) (fun k hk hs => by
      have : (e :: D).contains k = true := by simpa using hk
      rw [hs] at this; cases this) hB h2 hdraw
    obtain ⟨x, hx⟩ := ih e1' H2 _ _ g1 g3 g6 h3 g7 hin (fun k hk => by
      have := hpre k hk
      simp [this])
    refine ⟨x, ?_⟩
    rw [← hx]
    apply alArgs_eq
    intro s hs
    have hsr : s ∈ oReads (⟨some t, .make true sz bytes zero l c, none⟩ : AOper) := by simp [oReads, hs]
    have cl : ∀ {A : List Nat}, (∀ k ∈ A, ∀ j ∈ prs pr k, j ∈ A) → ∀ k, A.contains k = true → ∀ j ∈ prs pr k, A.contains j = true := by
     intro A hA k hk j hj
     simpa using hA k (by simpa using hk) j hj
    have key := mix_reads (S := D.contains) (S' := ((segOf last r).reverse ++ (e :: D)).contains) (e1 := e1') hg g1 ho (fun k hk => by simpa using hpre k hk) (by simpa using hn) (cl hd)
     (fun k hk => by have := hpre k hk; simp [this]) (by simpa using hin) (cl g6) s hsr
    rw [← g3] at key
    have hmx : mix ops D.contains e0 e1' = mix ops D.contains e0 e1 := by
     rw [mix_sub g1 hl' (fun k hk => by simp at hk; simp [hk]) g2]
     exact mix_put hl hg hoe v hDe
    rw [hmx, ← hm] at key
    exact key
theorem inv_look (hNV : NonVac Φ) (hg : Good ops pr) {env : Env} {plan : List (List Nat × Nat × List Nat)} (h : Inv Φ ops pr last K plan S env H) {i t : Nat} {op : AOp} (ho : ops[i]? = some ⟨some t, op, none⟩) (hal : isAlOp op) (hSi : S i = false) (hpr : (∃ sz bytes zero l c, op = .make true sz bytes zero l c) → ∀ k ∈ prs pr i, S k = true) :
  ∃ x, alArgs env op = some x := by
 rcases hal with ⟨zero, rfl⟩ | rfl | ⟨sz, bytes, zero, l, c, rfl⟩
 · exact ⟨_, rfl⟩
 · exact ⟨_, rfl⟩
 · obtain ⟨e0, e1, D, es, hl, hm, hmD, hS, hf, hcS, hcD, hchk, hrem⟩ := h
   have hpr := hpr ⟨_, _, _, _, _, rfl⟩
   have hiD : i ∉ D := by
    intro hiD
    obtain ⟨o, v, ho', hop, _⟩ := hf i hiD hSi
    rw [ho] at ho'
    cases ho'
    exact isAlOp_no (.inr (.inr ⟨_, _, _, _, _, rfl⟩)) hop
   obtain ⟨x, hx⟩ := look hNV hg ho plan e1 H D es hl hmD hcD hchk hrem hiD (fun k hk => hS k (hpr k hk))
   refine ⟨x, ?_⟩
   rw [← hx]
   apply alArgs_eq
   intro s hs
   have hsr : s ∈ oReads (⟨some t, .make true sz bytes zero l c, none⟩ : AOper) := by simp [oReads, hs]
   have key := mix_reads (S := S) (S' := D.contains) hg hl ho hpr hSi hcS (fun k hk => by simpa using hS k (hpr k hk)) (by simpa using hiD) (fun k hk j hj => by simpa using hcD k (by simpa using hk) j hj) s hsr
   rw [← hm, ← hmD] at key
   exact key
theorem inv_step (hΦ : Mono Φ) (hg : Good ops pr) {env : Env} {plan : List (List Nat × Nat × List Nat)} (h : Inv Φ ops pr last K plan S env H) {i : Nat} {o : AOper} (ho : ops[i]? = some o) (hSi : S i = false) (hpr : ∀ k ∈ prs pr i, S k = true)
  (hal : isAl ops pr i = false ∨ nextE plan = some i) :
  oneSem Φ o env H (fun env' H' => Inv Φ ops pr last K (if nextE plan = some i then plan.tail else plan) (fun k => k == i || S k) env' H') := by
 obtain ⟨e0, e1, D, es, hl, hm, hmD, hS, hf, hcS, hcD, hchk, hrem⟩ := h
 have hi : i < ops.length := (List.getElem?_eq_some_iff.1 ho).1
 have hirr : (prs pr i).contains i = false := by simpa using hg.irr i hi
 have hcS' : ∀ k, (k == i || S k) = true → ∀ j ∈ prs pr k, (j == i || S j) = true := by
  intro k hk j hj
  simp only [Bool.or_eq_true, beq_iff_eq] at hk ⊢
  rcases hk with rfl | hk
  · exact .inr (hpr j hj)
  · exact .inr (hcS k hk j hj)
 rw [oneSem_V]
 by_cases hiD : i ∈ D
 · obtain ⟨o', v, ho', hop, hfv, hh⟩ := hf i hiD hSi
   rw [ho] at ho'; cases ho'
   have hfv' : FactV o env H v := by
    rw [hm]
    refine (FactV_eq (mix_reads hg hl ho ?_ ?_ ?_ ?_ ?_ ?_)).1 hfv
    · intro k hk; simpa using hk
    · exact hirr
    · intro k hk j hj; simpa using hg.trans i hi k (by simpa using hk) j hj
    · exact hpr
    · exact hSi
    · exact hcS
   have hnx : nextE plan ≠ some i := by
    cases plan with
    | nil => simp [nextE]
    | cons p r =>
     obtain ⟨seg, e, st⟩ := p
     simp only [chkRem, Bool.and_eq_true] at hchk
     have h1 := hchk.1.1
     simp only [chkEff, Bool.and_eq_true] at h1
     have heD : e ∉ D := by simpa using h1.1.1.1.2
     intro he
     simp only [nextE, Option.some.injEq] at he
     subst he
     exact heD hiD
   rw [if_neg hnx]
   refine fact_oneV hfv' ⟨e0, e1, D, es, hl, ?_, hmD, ?_, ?_, hcS', hcD, hchk, hrem⟩
   · rw [hm]; exact mix_step hg hl ho hh
   · intro k hk
     simp only [Bool.or_eq_true, beq_iff_eq] at hk
     rcases hk with rfl | hk
     · exact hiD
     · exact hS k hk
   · intro k hk hSk
     simp only [Bool.or_eq_false_iff] at hSk
     exact hf k hk hSk.2
 · cases plan with
   | nil =>
    simp only [chkRem] at hchk
    rw [List.all_eq_true] at hchk
    exact absurd (by simpa using hchk i (List.mem_range.2 hi)) hiD
   | cons p r =>
    obtain ⟨seg, e, st⟩ := p
    have hchk0 := hchk
    simp only [chkRem, Bool.and_eq_true] at hchk
    obtain ⟨⟨h1, h2⟩, h3⟩ := hchk
    simp only [chkEff, Bool.and_eq_true] at h1
    obtain ⟨⟨⟨⟨he1, he2⟩, he3⟩, he4⟩, he5⟩ := h1
    have heD : e ∉ D := by simpa using he2
    have hie : i = e := by
     by_cases hie : i = e
     · exact hie
     exfalso
     have hal : isAl ops pr i = false := by
      rcases hal with h | h
      · exact h
      · simp only [nextE, Option.some.injEq] at h
        exact absurd h.symm hie
     have hein : e ∈ prs pr i := by
      by_cases hseg : i ∈ segOf last r
      · have segs : ∀ (seg : List Nat) (D : List Nat), chkSeg ops pr (e :: es) D seg = true → i ∈ seg → e ∈ prs pr i := by
          intro seg
          induction seg with
          | nil => intro D _ h; cases h
          | cons k seg ihs =>
           intro D hc hk
           simp only [chkSeg, Bool.and_eq_true] at hc
           obtain ⟨⟨⟨⟨⟨_, _⟩, _⟩, hes⟩, _⟩, hrest⟩ := hc
           rcases List.mem_cons.1 hk with rfl | hk
           · rw [List.all_eq_true] at hes
             simpa using hes e List.mem_cons_self
           · exact ihs _ hrest hk
        exact segs _ _ h2 hseg
      · exact es_of hg hi r (e :: es) _ h3 (by simp [hie, hseg, hiD]) hal e List.mem_cons_self
     exact heD (hS e (hpr e hein))
    subst hie
    rw [if_pos (show nextE ((seg, i, st) :: r) = some i from rfl)]
    simp only [remSem, ho] at hrem
    rw [oneSem_V] at hrem
    have hprD : ∀ k ∈ prs pr i, k ∈ D := fun k hk => hS k (hpr k hk)
    have hDi : D.contains i = false := by simpa using hiD
    have hcD' : ∀ k, D.contains k = true → ∀ j ∈ prs pr k, D.contains j = true := fun k hk j hj => by
     simpa using hcD k (by simpa using hk) j hj
    have hrem' : oneV Φ o env H (fun v H' => sames ops e1 H' (drawSem Φ ops last r (setd e1 o.dst v) H' K) st) := by
     have agree : ∀ t ∈ oReads o, e1.getD t .bot = env.getD t .bot := by
      intro t ht
      have := mix_reads (S := D.contains) (S' := S) hg hl ho (fun k hk => by simpa using hprD k hk) hDi hcD' hpr hSi hcS t ht
      rw [← hmD, ← hm] at this
      exact this
     exact (oneV_eq agree).1 hrem
    refine oneV_mono hΦ ?_ hrem'
    intro v H' hs
    obtain ⟨hdraw, hst⟩ := sames_spec hs
    have hdi : dstOf ops i = o.dst := by simp [dstOf, ho]
    have hl' : e0.length = (setd e1 o.dst v).length := by cases hd : o.dst <;> simp [setd, hl]
    have hholds : Holds (setd e1 o.dst v) o.dst v := by
     intro t ht hlt
     rw [ht] at hlt ⊢
     simp only [setd] at hlt ⊢
     rw [List.length_set] at hlt
     simp [List.getD_eq_getElem?_getD, hlt]
    have hmix : setd e1 o.dst v = mix ops (i :: D).contains e0 (setd e1 o.dst v) := by
     have h1 := mix_step (S := D.contains) hg hl' ho hholds
     rw [mix_put hl hg ho v hDi, ← hmD] at h1
     rw [h1]
     congr 1
    have hmS : setd env o.dst v = mix ops (fun k => k == i || S k) e0 (setd e1 o.dst v) := by
     have h1 := mix_step (S := S) hg hl' ho hholds
     rw [mix_put hl hg ho v hSi, ← hm] at h1
     exact h1
    have hfacts : ∀ k, k ∈ i :: D → (k == i || S k) = false → Fact ops pr e0 (setd e1 o.dst v) H' k := by
     intro k hk hSk
     simp only [Bool.or_eq_false_iff, beq_eq_false_iff_ne] at hSk
     obtain ⟨hki, hSk⟩ := hSk
     have hkD : k ∈ D := (List.mem_cons.1 hk).resolve_left hki
     obtain ⟨ok, vk, hok, hopk, hfk, hhk⟩ := hf k hkD hSk
     have hik : (prs pr k).contains i = false := by
      cases hx : (prs pr k).contains i with
      | false => rfl
      | true => exact absurd (hcD k hkD i (by simpa using hx)) hiD
     have keepH : ∀ u, Holds e1 ok.dst u → Holds (setd e1 o.dst v) ok.dst u := by
      intro u hu t ht hlt
      rw [← hl', hl] at hlt
      have := hu t ht hlt
      rw [← this]
      cases hdo : o.dst with
      | none => rfl
      | some s =>
       simp only [setd]
       rw [List.getD_eq_getElem?_getD, List.getElem?_set_ne, List.getD_eq_getElem?_getD]
       intro e
       subst e
       have := hg.uniq i k s (by rw [hdi, hdo]) (by simp [dstOf, hok, ht])
       exact hki this.symm
     by_cases hP : isP ok.op = true
     · refine ⟨ok, vk, hok, hopk, ?_, keepH _ hhk⟩
       rw [mix_put hl hg ho v hik]
       exact (FactV_P hP).1 hfk
     · have hR : isR ok.op = true := hopk.resolve_left hP
       have hkst : k ∈ st := by
        rw [List.all_eq_true] at he5
        have := he5 k hkD
        rw [hok] at this
        simp [hR] at this
        rcases this with h | h
        · exact absurd (hpr k h) (by rw [hSk]; simp)
        · exact h
       have hsame := hst k hkst ok hok
       have agree : ∀ t ∈ oReads ok, (mix ops (fun j => (prs pr k).contains j) e0 e1).getD t .bot = e1.getD t .bot := by
        intro t ht
        conv => rhs; rw [hmD]
        rw [mix_getD hl, mix_getD hl]
        have hA : ∀ (A : Nat → Bool), (∀ j ∈ prs pr k, A j = true) → late ops A t = false := by
         intro A hA
         cases hx : late ops A t with
         | false => rfl
         | true =>
          obtain ⟨j, hj, hn⟩ := late_iff.1 hx
          rcases hg.reads k ok t j hok ht hj with h | ⟨h, _⟩
          · rw [hA j h] at hn; cases hn
          · rw [hR] at h; cases h
        rw [hA _ (fun j hj => by simpa using hj), hA _ (fun j hj => by simpa using hcD k hkD j hj)]
       rw [FactV_eq agree] at hfk
       unfold SameG at hsame
       unfold FactV at hfk
       cases hgd : ok.guard with
       | none =>
        rw [hgd] at hsame
        refine ⟨ok, e1.getD (ok.dst.getD 0) .bot, hok, hopk, ?_, keepH _ ?_⟩
        · rw [mix_put hl hg ho v hik]
          refine (FactV_eq agree).2 ?_
          unfold FactV
          rw [hgd]
          exact Same_pr hR hsame
        · intro t ht _; rw [ht]; rfl
       | some g =>
        obtain ⟨s, want⟩ := g
        rw [hgd] at hsame hfk
        dsimp only at hsame hfk
        obtain ⟨b, hb, hfk⟩ := hfk
        by_cases hbw : b = true
        · subst hbw
          refine ⟨ok, e1.getD (ok.dst.getD 0) .bot, hok, hopk, ?_, keepH _ ?_⟩
          · rw [mix_put hl hg ho v hik]
            refine (FactV_eq agree).2 ?_
            unfold FactV
            rw [hgd]
            exact ⟨true, hb, by rw [if_pos rfl]; exact Same_pr hR (hsame (AV.wanted_true hb))⟩
          · intro t ht _; rw [ht]; rfl
        · rw [if_neg hbw] at hfk
          subst hfk
          refine ⟨ok, .tup [], hok, hopk, ?_, keepH _ hhk⟩
          rw [mix_put hl hg ho v hik]
          refine (FactV_eq agree).2 ?_
          unfold FactV
          rw [hgd]
          exact ⟨b, hb, by rw [if_neg hbw]⟩
    rw [drawSem_rem] at hdraw
    have hA : ∀ k, (k == i || S k) = true → k ∈ i :: D := by
     intro k hk
     simp only [Bool.or_eq_true, beq_iff_eq] at hk
     rcases hk with rfl | hk
     · exact List.mem_cons_self
     · exact List.mem_cons_of_mem _ (hS k hk)
    have hB : ∀ k ∈ i :: D, ∀ j ∈ prs pr k, j ∈ i :: D := by
     intro k hk j hj
     rcases List.mem_cons.1 hk with rfl | hk
     · exact List.mem_cons_of_mem _ (hprD j hj)
     · exact List.mem_cons_of_mem _ (hcD k hk j hj)
    obtain ⟨e1', g1, g2, g3, g4, g5, g6, g7⟩ := segSem_go (S := fun k => k == i || S k) hg (segOf last r) (i :: D) (setd e1 o.dst v) hl' hmix hA hfacts hB h2 hdraw
    exact ⟨e0, e1', _, i :: es, g1, by rw [g2]; exact hmS, g3, g4, g5, hcS', g6, h3, g7⟩
theorem inv_done {env : Env} {plan : List (List Nat × Nat × List Nat)} (h : Inv Φ ops pr last K plan S env H) (hall : ∀ i, i < ops.length → S i = true) : K env H := by
 obtain ⟨e0, e1, D, es, hl, hm, hmD, hS, hf, hcS, hcD, hchk, hrem⟩ := h
 cases plan with
 | nil =>
  have : env = e1 := by
   rw [hm]
   refine env_ext mix_length fun t _ => ?_
   rw [mix_getD hl]
   have : late ops S t = false := by
    cases hx : late ops S t with
    | false => rfl
    | true =>
     obtain ⟨j, hj, hn⟩ := late_iff.1 hx
     rw [hall j (dstOf_lt hj)] at hn; cases hn
   rw [this]; rfl
  rw [this]
  exact hrem
 | cons p r =>
  obtain ⟨seg, e, st⟩ := p
  simp only [chkRem, Bool.and_eq_true] at hchk
  obtain ⟨⟨h1, h2⟩, h3⟩ := hchk
  simp only [chkEff, Bool.and_eq_true] at h1
  obtain ⟨⟨⟨⟨he1, he2⟩, he3⟩, he4⟩, he5⟩ := h1
  have heD : e ∉ D := by simpa using he2
  exact absurd (hS e (hall e (by simpa using he1))) heD
theorem inv_wait (hg : Good ops pr) {env : Env} {plan : List (List Nat × Nat × List Nat)} (h : Inv Φ ops pr last K plan S env H) :
  (∀ k, S k = true → ∀ j ∈ prs pr k, S j = true) ∧
  ∀ p, isAl ops pr p = true → S p = false → nextE plan ≠ some p → ∀ i, i < ops.length → S i = false → p ∈ prs pr i → isAl ops pr i = false → (∀ k ∈ prs pr i, S k = true ∨ (isAl ops pr k = true ∧ nextE plan ≠ some k)) → False := by
 obtain ⟨e0, e1, D, es, hl, hm, hmD, hS, hf, hcS, hcD, hchk, hrem⟩ := h
 refine ⟨hcS, fun p hp hSp hnp i hi hSi hpi hali hall => ?_⟩
 have hpD : p ∉ D := by
  intro hpD
  obtain ⟨o, v, ho, hop, _⟩ := hf p hpD hSp
  obtain ⟨t', op', ho', hal'⟩ := isAl_spec hp
  rw [ho] at ho'
  cases ho'
  exact isAlOp_no hal' hop
 have hiD : i ∉ D := fun hiD => hpD (hcD i hiD p hpi)
 cases plan with
 | nil =>
  simp only [chkRem] at hchk
  rw [List.all_eq_true] at hchk
  exact absurd (by simpa using hchk i (List.mem_range.2 hi)) hiD
 | cons q r =>
  obtain ⟨seg, e, st⟩ := q
  have hchk0 := hchk
  simp only [chkRem, Bool.and_eq_true] at hchk
  obtain ⟨⟨h1, h2⟩, h3⟩ := hchk
  simp only [chkEff, Bool.and_eq_true] at h1
  obtain ⟨⟨⟨⟨he1, he2⟩, he3⟩, he4⟩, he5⟩ := h1
  have heD : e ∉ D := by simpa using he2
  by_cases hie : i = e
  · subst hie
    rw [List.all_eq_true] at he3
    exact hpD (by simpa using he3 p hpi)
  · have hein : e ∈ prs pr i := by
      by_cases hseg : i ∈ segOf last r
      · have segs : ∀ (seg : List Nat) (D : List Nat), chkSeg ops pr (e :: es) D seg = true → i ∈ seg → e ∈ prs pr i := by
          intro seg
          induction seg with
          | nil => intro D _ h; cases h
          | cons k seg ihs =>
           intro D hc hk
           simp only [chkSeg, Bool.and_eq_true] at hc
           obtain ⟨⟨⟨⟨⟨_, _⟩, _⟩, hes⟩, _⟩, hrest⟩ := hc
           rcases List.mem_cons.1 hk with rfl | hk
           · rw [List.all_eq_true] at hes
             simpa using hes e List.mem_cons_self
           · exact ihs _ hrest hk
        exact segs _ _ h2 hseg
      · exact es_of hg hi r (e :: es) _ h3 (by simp [hie, hseg, hiD]) hali e List.mem_cons_self
    rcases hall e hein with h | ⟨_, h⟩
    · exact heD (hS e h)
    · exact h rfl
theorem inv_next {env : Env} {plan : List (List Nat × Nat × List Nat)} (h : Inv Φ ops pr last K plan S env H) {e : Nat} (he : nextE plan = some e) :
  S e = false ∧ e < ops.length ∧ ∀ k ∈ prs pr e, isAl ops pr k = true → S k = true := by
 obtain ⟨e0, e1, D, es, hl, hm, hmD, hS, hf, hcS, hcD, hchk, hrem⟩ := h
 cases plan with
 | nil => cases he
 | cons q r =>
  obtain ⟨seg, e', st⟩ := q
  simp only [nextE, Option.some.injEq] at he
  subst he
  simp only [chkRem, Bool.and_eq_true] at hchk
  obtain ⟨⟨h1, h2⟩, h3⟩ := hchk
  simp only [chkEff, Bool.and_eq_true] at h1
  obtain ⟨⟨⟨⟨he1, he2⟩, he3⟩, he4⟩, he5⟩ := h1
  have heD : e' ∉ D := by simpa using he2
  refine ⟨?_, by simpa using he1, fun k hk hal => ?_⟩
  · cases hs : S e' with
    | false => rfl
    | true => exact absurd (hS e' hs) heD
  · cases hs : S k with
    | true => rfl
    | false =>
     rw [List.all_eq_true] at he3
     have hkD : k ∈ D := by simpa using he3 k hk
     obtain ⟨o, v, ho, hop, _⟩ := hf k hkD hs
     obtain ⟨t', op', ho', hal'⟩ := isAl_spec hal
     rw [ho] at ho'
     cases ho'
     exact (isAlOp_no hal' hop).elim
end
end Rb

namespace Rb
open Go
def guardOk (ops : Array Oper) (x : Option (Nat × Bool)) (y : Option (Nat × Bool)) : Bool :=
 match x, y with
 | none, none => true
 | some (j, want), some (s, want') => want == want' && ((ops[j]?).bind (·.dst)) == some s
 | _, _ => false
def chkReg (C : Ctx) (ops : Array Oper) : List Oper → List AOper → Bool
 | [], [] => true
 | o :: r, a :: s => o.dst == a.dst && chkOp C o.op a.op && guardOk ops o.guard a.guard && chkReg C ops r s
 | _, _ => false
def regAsg : List AOper → List Nat
 | [] => []
 | o :: r => o.dst.toList ++ (match o.guard with | some (s, _) => [s] | none => []) ++ regAsg r
def asg : ACode → List Nat
 | .region ops => regAsg ops
 | .draw ops _ _ _ => regAsg ops
 | .seq a b => asg a ++ asg b
 | .join _ _ a b => asg a ++ asg b
 | .cond _ a b => asg a ++ asg b
 | .block _ a => asg a
 | .loop _ _ a => asg a
 | .freeze t a => t :: asg a
 | .rjoin _ _ ops b => regAsg ops ++ asg b
 | _ => []
def chkEdges (ops : Array Oper) (pr : List (List Nat)) : Bool := (List.range ops.size).all fun i => match ops[i]? with
 | some o =>
  let es := (o.after.toList.filter (Region.binds .any)).map Edge.on
  es.all (fun j => decide (j < i)) && (prs pr i).all fun j => es.contains j || es.any fun k => (prs pr k).contains j
 | none => false
def covers (ks vs : List Nat) (az : List Nat) : Bool := az.all fun t => ks.contains t || vs.contains t
def chkSplit (C : Ctx) (ops : Array Oper) : List Oper → ACode → Bool
 | l, .region al => chkReg C ops l al
 | l, .rjoin vs ks al b => chkReg C ops (l.take al.length) al && covers ks vs (regAsg al) && chkSplit C ops (l.drop al.length) b
 | _, _ => false
def chkC (C : Ctx) : Code → ACode → Bool
 | .skip, .skip => true
 | .region _ ops false, .region al => chkReg C ops ops.toList al
 | .region _ ops true, .draw al pr plan last => chkReg C ops ops.toList al && chkEdges ops pr && chkDraw al pr plan last && C.P.follows .mixedOrders
 | .seq a b, .seq x y => chkC C a x && chkC C b y
 | .seq a b, .join vs ks x y => chkC C a x && chkC C b y && covers ks vs (asg x)
 | .cond c a b, .cond x p q => chkO C c x && chkC C a p && chkC C b q
 | .block id a, .block id' x => id == id' && chkC C a x
 | .loop a, .loop vs ks x => chkC C a x && covers ks vs (asg x)
 | .exit id, .exit id' => id == id'
 | .ret, .ret => true
 | .region _ ops false, .rjoin vs ks al b => chkSplit C ops ops.toList (.rjoin vs ks al b)
 | c, .freeze t x => chkC C c x
 | _, _ => false
def Keep (az : List Nat) (a a' : Act) : Prop := a'.tmps.size = a.tmps.size ∧ ∀ t, t ∉ az → a'.tmps[t]? = a.tmps[t]?
theorem Keep.refl (az : List Nat) (a : Act) : Keep az a a := ⟨rfl, fun _ _ => rfl⟩
theorem Keep.trans {az : List Nat} {a b c : Act} (h : Keep az a b) (k : Keep az b c) : Keep az a c := ⟨k.1.trans h.1, fun t ht => (k.2 t ht).trans (h.2 t ht)⟩
theorem Keep.mono {az bs : List Nat} {a b : Act} (h : Keep az a b) (hs : ∀ t, t ∈ az → t ∈ bs) : Keep bs a b := ⟨h.1, fun t ht => h.2 t fun h' => ht (hs t h')⟩
theorem Keep.put (a : Act) (d : Option Tmp) (V : Value) : Keep d.toList a (a.put d V) := by
 cases d with
 | none => exact Keep.refl _ _
 | some d =>
  refine ⟨by simp [Act.put], fun t ht => ?_⟩
  simp only [Option.toList_some, List.mem_singleton] at ht
  simp only [Act.put]
  rw [Array.getElem?_setIfInBounds, if_neg (fun e => ht e.symm)]
section
variable {C : Ctx} {w : World} {G : Ghost} {H : AH} {env : Env} {a : Act}
theorem VRs.setd (h : VRs C.F w G env a.tmps) (d : Option Tmp) {v : AV} {V : Value} (hv : VR C.F w G v V) : VRs C.F w G (Rb.setd env d v) (a.put d V).tmps := by
 cases d with
 | none => exact h
 | some d => exact h.set d hv
theorem VRs.same {F : FTab} {cs : List AV} {Vs : Array Value} (h : VRs F w G cs Vs) {t : Nat} {v : AV} (hv : cs[t]? = some v) : VRs F w G (cs.set t v) Vs := by
 refine ⟨by simp [h.1], fun j c V hc hV => ?_⟩
 by_cases hj : t = j
 · subst hj
   rw [List.getElem?_set_self (List.getElem?_eq_some_iff.1 hv).1] at hc
   cases hc
   exact h.2 t v V hv hV
 · rw [List.getElem?_set_ne hj] at hc
   exact h.2 j c V hc hV
theorem Oper.wp_next {P : Program} {o : Oper} {n1 n2 : Act → World → Prop} {Q : Exit → Act → World → Prop} (h : o.wp P a w n1 Q) (hn : ∀ a w, n1 a w → n2 a w) : o.wp P a w n2 Q := by
 unfold Oper.wp at h ⊢
 cases hr : (execOp a.eval o).run P w with
 | halt hh w' =>
  rw [hr] at h
  cases hh <;> first | exact h | exact h.elim
 | ok x w' =>
  rw [hr] at h
  cases x with
  | value v => exact hn _ _ h
  | skip => exact hn _ _ h
  | defer d => exact hn _ _ h
  | enter f args =>
   refine Calls.mono h fun e w'' he => ?_
   cases e with
   | returned v => exact hn _ _ he
   | panicked c => exact he
   | outgrown => exact he
  | row r args => exact Rows.mono h fun v w'' hv => hn _ _ hv
  | _ => exact h.elim
theorem put_defers (d : Option Tmp) (V : Value) : (a.put d V).defers = a.defers := by cases d <;> rfl
theorem wanted_none {P : Program} {ops : Array Oper} {Q : Exit → Act → World → Prop} {rest : List Oper} {o : Oper} (hg : o.guard = none) (h : o.wp P a w (wpList P ops Q rest) Q) : wpList P ops Q (o :: rest) a w := by
 unfold wpList
 rw [if_pos (by simp [Region.wanted, hg])]
 exact .inl h
theorem reg_sound' (hF : FOK C) {ops : Array Oper} {Q : Exit → Act → World → Prop} {K : Env → AH → Prop} {w0 : World} {G0 : Ghost} {H0 : AH} {a0 : Act} {az : List Nat} {rest : List Oper} :
  ∀ (l : List Oper) (al : List AOper) (env : Env) (H : AH) (G : Ghost) (w : World) (a : Act), chkReg C ops l al = true → regSem (ACall C) al env H K → GOX C w G H → Rel C.F w G H → VRs C.F w G env a.tmps → a.defers = [] →
   Step w0 G0 H0 w G H → Keep az a0 a → (∀ t, t ∈ regAsg al → t ∈ az) →
   (∀ env' H' G' a' w', K env' H' → GOX C w' G' H' → Rel C.F w' G' H' → VRs C.F w' G' env' a'.tmps → a'.defers = [] → Step w0 G0 H0 w' G' H' → Keep az a0 a' → wpList C.P ops Q rest a' w') →
   wpList C.P ops Q (l ++ rest) a w := by
 intro l
 induction l with
 | nil =>
  intro al env H G w a hchk h hG hrel he hd hst hk _ hQ
  cases al with
  | nil => exact hQ env H G a w h hG hrel he hd hst hk
  | cons _ _ => simp [chkReg] at hchk
 | cons o l ih =>
  intro al env H G w a hchk h hG hrel he hd hst hk hsub hQ
  cases al with
  | nil => simp [chkReg] at hchk
  | cons ao al =>
   simp only [chkReg, Bool.and_eq_true, beq_iff_eq] at hchk
   obtain ⟨⟨⟨hdst, hop⟩, hgd⟩, hrest⟩ := hchk
   have hsub' : ∀ t, t ∈ regAsg al → t ∈ az := fun t ht => hsub t (by simp [regAsg, ht])
   have hsubd : ∀ t, t ∈ o.dst.toList → t ∈ az := fun t ht => hsub t (by rw [hdst] at ht; simp [regAsg]; left; simpa using ht)
   have step : ∀ (env1 : Env) (a1 : Act) , a1 = a → VRs C.F w G env1 a.tmps → opSem (ACall C) env1 H (fun v H' => regSem (ACall C) al (setd env1 ao.dst v) H' K) ao.op → o.wp C.P a w (wpList C.P ops Q (l ++ rest)) Q := by
    intro env1 a1 _ he1 hop1
    refine Oper.wp_next (op_sound hF hop hG hrel he1 hop1) fun a' w' hpost => ?_
    obtain ⟨v, H', G', V, rfl, hK, hv, hr, hs⟩ := hpost
    rw [← hdst] at hK
    exact ih al _ H' G' w' _ hrest hK (hG.step hs) hr ((he1.mono hs.toGLe).setd o.dst hv) (by rw [put_defers]; exact hd) (hst.trans hs) (hk.trans ((Keep.put a o.dst V).mono hsubd)) hsub' hQ
   cases hgo : o.guard with
   | none =>
    rw [hgo] at hgd
    have hga : ao.guard = none := by
     cases hga : ao.guard with
     | none => rfl
     | some _ => rw [hga] at hgd; simp [guardOk] at hgd
    simp only [regSem, hga] at h
    exact wanted_none hgo (step env a rfl he h)
   | some g =>
    obtain ⟨j, want⟩ := g
    rw [hgo] at hgd
    cases hga : ao.guard with
    | none => rw [hga] at hgd; simp [guardOk] at hgd
    | some g' =>
     obtain ⟨s, want'⟩ := g'
     rw [hga] at hgd
     simp only [guardOk, Bool.and_eq_true, beq_iff_eq] at hgd
     obtain ⟨rfl, hs⟩ := hgd
     simp only [regSem, hga] at h
     have get : ∀ c, env.getD s .bot = c → c ≠ .bot → env[s]? = some c := by
      intro c hb' hc
      rw [List.getD_eq_getElem?_getD] at hb'
      cases hes : env[s]? with
      | none => rw [hes] at hb'; exact absurd hb'.symm hc
      | some c => rw [hes] at hb'; simp at hb'; rw [hb']
     unfold Gd3 at h
     split at h
     · rename_i b hb'
       have hb := get _ hb' (by simp)
       obtain ⟨V, hV, hr⟩ := he.get hb
       obtain rfl := hr.bool_inv
       have hy : yielded ops a.tmps j = some b := by simp [yielded, hs, hV]
       by_cases hbw : b = want
       · subst hbw
         rw [if_pos rfl] at h
         rw [List.cons_append]
         unfold wpList
         rw [if_pos (by simp [Region.wanted, hgo, hy])]
         exact .inl (step _ a rfl (he.same hb) h)
       · rw [if_neg hbw] at h
         have hbn : b = !want := by cases b <;> cases want <;> simp at hbw ⊢
         subst hbn
         rw [List.cons_append]
         unfold wpList
         rw [if_neg (by simp [Region.wanted, hgo, hy])]
         rw [← hdst] at h
         exact ih al _ H G w _ hrest h hG hrel ((he.same hb).setd o.dst undef_vr) (by rw [put_defers]; exact hd) hst (hk.trans ((Keep.put a o.dst undef).mono hsubd)) hsub' hQ
     · rename_i hb'
       have hb := get _ hb' (by simp)
       obtain ⟨V, hV, hr⟩ := he.get hb
       obtain rfl := hr.tup0_inv
       have hy : yielded ops a.tmps j = none := by simp [yielded, hs, hV]
       rw [List.cons_append]
       unfold wpList
       rw [if_neg (by simp [Region.wanted, hgo, hy])]
       rw [← hdst] at h
       exact ih al _ H G w _ hrest h hG hrel ((he.same hb).setd o.dst undef_vr) (by rw [put_defers]; exact hd) hst (hk.trans ((Keep.put a o.dst undef).mono hsubd)) hsub' hQ
     · exact h.elim
theorem reg_sound (hF : FOK C) {ops : Array Oper} {Q : Exit → Act → World → Prop} {K : Env → AH → Prop} {w0 : World} {G0 : Ghost} {H0 : AH} {a0 : Act} {az : List Nat}
  (l : List Oper) (al : List AOper) (env : Env) (H : AH) (G : Ghost) (w : World) (a : Act) (hchk : chkReg C ops l al = true) (h : regSem (ACall C) al env H K) (hG : GOX C w G H) (hrel : Rel C.F w G H) (he : VRs C.F w G env a.tmps) (hd : a.defers = [])
   (hst : Step w0 G0 H0 w G H) (hk : Keep az a0 a) (hsub : ∀ t, t ∈ regAsg al → t ∈ az)
   (hQ : ∀ env' H' G' a' w', K env' H' → GOX C w' G' H' → Rel C.F w' G' H' → VRs C.F w' G' env' a'.tmps → a'.defers = [] → Step w0 G0 H0 w' G' H' → Keep az a0 a' → Q .normal a' w') :
   wpList C.P ops Q l a w := by
 have := reg_sound' (rest := []) hF l al env H G w a hchk h hG hrel he hd hst hk hsub hQ
 rwa [List.append_nil] at this
theorem chkReg_get {ops : Array Oper} : ∀ {l : List Oper} {al : List AOper}, chkReg C ops l al = true → l.length = al.length ∧ ∀ (i : Nat) (o : Oper), l[i]? = some o → ∃ ao, al[i]? = some ao ∧ o.dst = ao.dst ∧ chkOp C o.op ao.op = true ∧ guardOk ops o.guard ao.guard = true := by
 intro l
 induction l with
 | nil => intro al h; cases al <;> simp [chkReg] at h ⊢
 | cons o l ih =>
  intro al h
  cases al with
  | nil => simp [chkReg] at h
  | cons ao al =>
   simp only [chkReg, Bool.and_eq_true, beq_iff_eq] at h
   obtain ⟨⟨⟨hdst, hop⟩, hgd⟩, hrest⟩ := h
   obtain ⟨h1, h2⟩ := ih hrest
   refine ⟨by simp [h1], fun i o' ho' => ?_⟩
   cases i with
   | zero => simp at ho'; subst ho'; exact ⟨ao, rfl, hdst, hop, hgd⟩
   | succ i => exact h2 i o' (by simpa using ho')
theorem regAsg_mem {ao : AOper} : ∀ {al : List AOper} {i : Nat}, al[i]? = some ao → ∀ t, ao.dst = some t → t ∈ regAsg al := by
 intro al
 induction al with
 | nil => intro i h; simp at h
 | cons x al ih =>
  intro i h t ht
  cases i with
  | zero => simp at h; subst h; simp [regAsg, ht]
  | succ i => simp only [regAsg, List.mem_append]; exact .inr (ih (by simpa using h) t ht)
theorem wpOp_soundV (hF : FOK C) {ops : Array Oper} {Q : Exit → Act → World → Prop} {N : Act → World → Prop} {Kv : Post} {i : Nat} {o : Oper} {ao : AOper} (ho : ops[i]? = some o) (hdst : o.dst = ao.dst) (hop : chkOp C o.op ao.op = true)
  (hgd : guardOk ops o.guard ao.guard = true) (h : oneV (ACall C) ao env H Kv) (hG : GOX C w G H) (hrel : Rel C.F w G H) (he : VRs C.F w G env a.tmps)
  (hN : ∀ v V H' G' w', Kv v H' → GOX C w' G' H' → VR C.F w' G' v V → Rel C.F w' G' H' → Step w G H w' G' H' → N (a.put ao.dst V) w') : wpOp C.P ops Q i N a w := by
 unfold wpOp
 rw [ho]
 dsimp only
 have step : opSem (ACall C) env H Kv ao.op → o.wp C.P a w N Q := by
  intro hop1
  refine Oper.wp_next (op_sound hF hop hG hrel he hop1) fun a' w' hpost => ?_
  obtain ⟨v, H', G', V, rfl, hK, hv, hr, hs⟩ := hpost
  rw [hdst]
  exact hN v V H' G' w' hK (hG.step hs) hv hr hs
 unfold oneV at h
 cases hgo : o.guard with
 | none =>
  rw [hgo] at hgd
  have hga : ao.guard = none := by
   cases hga : ao.guard with
   | none => rfl
   | some _ => rw [hga] at hgd; simp [guardOk] at hgd
  rw [hga] at h
  rw [if_pos (by simp [Region.wanted, hgo])]
  exact .inl (step h)
 | some g =>
  obtain ⟨j, want⟩ := g
  rw [hgo] at hgd
  cases hga : ao.guard with
  | none => rw [hga] at hgd; simp [guardOk] at hgd
  | some g' =>
   obtain ⟨s, want'⟩ := g'
   rw [hga] at hgd
   simp only [guardOk, Bool.and_eq_true, beq_iff_eq] at hgd
   obtain ⟨rfl, hs⟩ := hgd
   rw [hga] at h
   dsimp only at h
   obtain ⟨b, hb', h⟩ := h
   have get : ∀ c, env.getD s .bot = c → c ≠ .bot → env[s]? = some c := by
    intro c hb' hc
    rw [List.getD_eq_getElem?_getD] at hb'
    cases hes : env[s]? with
    | none => rw [hes] at hb'; exact absurd hb'.symm hc
    | some c => rw [hes] at hb'; simp at hb'; rw [hb']
   cases b with
   | true =>
    have hb := get _ (AV.wanted_true hb') (by simp)
    obtain ⟨V, hV, hr⟩ := he.get hb
    obtain rfl := hr.bool_inv
    have hy : yielded ops a.tmps j = some want := by simp [yielded, hs, hV]
    rw [if_pos rfl] at h
    rw [if_pos (by simp [Region.wanted, hgo, hy])]
    exact .inl (step h)
   | false =>
    rw [if_neg (by simp)] at h
    have hw : Region.wanted o (yielded ops a.tmps) = false := by
     rcases AV.wanted_false hb' with hb2 | hb2
     · have hb := get _ hb2 (by simp)
       obtain ⟨V, hV, hr⟩ := he.get hb
       obtain rfl := hr.bool_inv
       have hy : yielded ops a.tmps j = some (!want) := by simp [yielded, hs, hV]
       simp [Region.wanted, hgo, hy]
     · have hb := get _ hb2 (by simp)
       obtain ⟨V, hV, hr⟩ := he.get hb
       obtain rfl := hr.tup0_inv
       have hy : yielded ops a.tmps j = none := by simp [yielded, hs, hV]
       simp [Region.wanted, hgo, hy]
    rw [if_neg (by simp [hw])]
    rw [hdst]
    exact hN _ _ H G w h hG undef_vr hrel (Step.refl _ _ _)
theorem countP_lt {p p' : Nat → Bool} : ∀ {l : List Nat}, (∀ x, p' x = true → p x = true) → (∃ x ∈ l, p x = true ∧ p' x = false) → l.countP p' < l.countP p := by
 have le : ∀ {l : List Nat}, (∀ x, p' x = true → p x = true) → l.countP p' ≤ l.countP p := fun {l} h => List.countP_mono_left fun x _ => h x
 intro l
 induction l with
 | nil => rintro _ ⟨x, hx, _⟩; cases hx
 | cons y l ih =>
  intro h ⟨x, hx, h1, h2⟩
  rw [List.countP_cons, List.countP_cons]
  rcases List.mem_cons.1 hx with rfl | hx
  · rw [h1, h2]
    have := le (l := l) h
    simp; omega
  · have := ih h ⟨x, hx, h1, h2⟩
    by_cases hy : p' y = true
    · rw [hy, h y hy]; omega
    · simp at hy
      rw [hy]
      simp; omega
theorem Step.drawn {F : FTab} {w : World} {G : Ghost} {H : AH} (n : Nat) (h : Rel F w G H) : Rel F { w with drawn := n } G H ∧ Step w G H { w with drawn := n } G H := by
 have hg : GLe w G { w with drawn := n } G := ⟨Nat.le_refl _, fun _ _ => rfl, fun _ _ => rfl, fun _ _ h => h, fun _ _ _ _ h => h⟩
 exact ⟨⟨h.n, h.over, fun j => (h.obj j).keep hg (fun hl => h.idlt hl) (fun _ => rfl) fun hl k hf => hf, h.dist, h.fzc⟩,
   { hg with size := Nat.le_refl _, os := rfl, tape := rfl, output := rfl, old := fun _ _ _ => rfl, owned := fun i hi _ => ⟨i, hi, rfl⟩, fznew := fun _ _ h => .inl h }⟩
def msk (al : List AOper) (Pd : List Nat) (env : Env) : Env := (List.range env.length).map fun j => if Pd.any (fun p => dstOf al p == some j) then .bot else env.getD j .bot
theorem msk_getD (al : List AOper) (Pd : List Nat) (env : Env) (t : Nat) : (msk al Pd env).getD t .bot = if Pd.any (fun p => dstOf al p == some t) then .bot else env.getD t .bot := by
 unfold msk
 by_cases ht : t < env.length
 · simp [List.getD_eq_getElem?_getD, ht]
 · have h1 : env.getD t .bot = .bot := by simp [List.getD_eq_getElem?_getD, List.getElem?_eq_none (Nat.le_of_not_lt ht)]
   rw [h1]
   simp [List.getD_eq_getElem?_getD, ht]
def alObj : AOp → Nat × Nat → AObj
 | .alloc _ zero, _ => .row zero
 | .make _ _ _ zero _ _, x => .row (List.replicate x.2 zero).flatten
 | _, _ => .map []
def alPtr : AOp → Nat × Nat → Nat → AV
 | .alloc _ _, _, i => .ptr i 0
 | .make _ sz _ _ _ _, x, i => .row i 0 x.1 sz
 | _, _, i => .map i
def alVal : AOp → Nat × Nat → Nat → Value
 | .alloc _ _, _, b => .pointer (some ⟨b, 0, none⟩)
 | .make _ _ _ _ _ _, x, b => .slice (some ⟨b, 0, none⟩) x.1 x.2
 | _, _, b => .map (some b)
def alBlk (F : FTab) (w : World) (G : Ghost) : AOp → Nat × Nat → Nat → Nat → Prop
 | .alloc _ zero, _, b, cap => ∃ (Cs : Array Value) (e : TypeId), w.heap[b]? = some (.cells Cs e (0, 0)) ∧ Cs.size = cap ∧ VRs F w G zero Cs
 | .make _ sz _ zero _ _, x, b, cap => (∃ (Cs : Array Value) (e : TypeId), w.heap[b]? = some (.cells Cs e (0, 0)) ∧ Cs.size = cap ∧ VRs F w G (List.replicate x.2 zero).flatten Cs) ∧ x.1 ≤ x.2 ∧ x.2 * sz = cap
 | _, _, b, _ => ∃ clock : Nat, w.heap[b]? = some (.map #[] clock)
theorem alBlk_lt {F : FTab} {op : AOp} {x : Nat × Nat} (ho : isAlOp op) {b cap : Nat} (h : alBlk F w G op x b cap) : b < w.heap.size := by
 rcases ho with ⟨zero, rfl⟩ | rfl | ⟨_, _, _, _, _, rfl⟩
 · obtain ⟨_, _, h, _⟩ := h; exact (Array.getElem?_eq_some_iff.1 h).1
 · obtain ⟨_, h⟩ := h; exact (Array.getElem?_eq_some_iff.1 h).1
 · obtain ⟨⟨_, _, h, _⟩, _⟩ := h; exact (Array.getElem?_eq_some_iff.1 h).1
theorem alBlk_mono {F : FTab} {w' : World} {G' : Ghost} {op : AOp} {x : Nat × Nat} (ho : isAlOp op) {b cap : Nat} (h : alBlk F w G op x b cap) (hg : GLe w G w' G') (hb : w'.heap[b]? = w.heap[b]?) : alBlk F w' G' op x b cap := by
 rcases ho with ⟨zero, rfl⟩ | rfl | ⟨_, _, _, _, _, rfl⟩
 · obtain ⟨Cs, e, h1, h2, h3⟩ := h; exact ⟨Cs, e, hb.trans h1, h2, h3.mono hg⟩
 · obtain ⟨c, h⟩ := h; exact ⟨c, hb.trans h⟩
 · obtain ⟨⟨Cs, e, h1, h2, h3⟩, h4⟩ := h; exact ⟨⟨Cs, e, hb.trans h1, h2, h3.mono hg⟩, h4⟩
theorem al_obj {F : FTab} {op : AOp} {x : Nat × Nat} (ho : isAlOp op) {b cap i : Nat} (h : alBlk F w G op x b cap) {G' : Ghost} (hg : GLe w G w G') (hl : G'.loc i = b) (hc : G'.cap i = cap) (hf : ∀ j, ¬ G'.fz b j) : ObjR F w G' i (alObj op x) := by
 rcases ho with ⟨zero, rfl⟩ | rfl | ⟨_, _, _, _, _, rfl⟩
 · obtain ⟨Cs, e, h1, h2, h3⟩ := h
   exact ⟨Cs, e, by rw [hl]; exact h1, by rw [hc]; exact h2, fun j => by rw [hl]; exact hf j, fun j c hj => by
     obtain ⟨V, hV, hr⟩ := h3.get hj; exact ⟨V, hV, hr.mono hg⟩⟩
 · obtain ⟨c, h⟩ := h
   exact ⟨#[], c, by rw [hl]; exact h, rfl, fun j => by rw [hl]; exact hf j, fun j k v hj => by simp at hj⟩
 · obtain ⟨⟨Cs, e, h1, h2, h3⟩, _⟩ := h
   exact ⟨Cs, e, by rw [hl]; exact h1, by rw [hc]; exact h2, fun j => by rw [hl]; exact hf j, fun j c hj => by
     obtain ⟨V, hV, hr⟩ := h3.get hj; exact ⟨V, hV, hr.mono hg⟩⟩
theorem al_vr {F : FTab} {op : AOp} {x : Nat × Nat} (ho : isAlOp op) {w0 : World} {G0 : Ghost} {b cap i : Nat} (h : alBlk F w0 G0 op x b cap) (hi : i < G.n) (hl : G.loc i = b) (hc : G.cap i = cap) : VR F w G (alPtr op x i) (alVal op x b) := by
 subst hl hc
 rcases ho with ⟨zero, rfl⟩ | rfl | ⟨_, _, _, _, _, rfl⟩
 · exact .ptr i 0 hi
 · exact .map i hi
 · obtain ⟨_, h1, h2⟩ := h
   exact .row _ _ _ _ _ hi h1 (by rw [Nat.zero_add]; exact h2)
theorem opSem_al {Φ : Calls'} {env : Env} {K : Post} {op : AOp} {x : Nat × Nat} (ho : isAlOp op) (ha : alArgs env op = some x) (h : opSem Φ env H K op) : K (alPtr op x H.n) (H.push (alObj op x)) := by
 rcases ho with ⟨zero, rfl⟩ | rfl | ⟨_, _, _, _, _, rfl⟩
 · simp only [opSem, DoH, abox, if_true, Option.some.injEq, Prod.mk.injEq] at h
   obtain ⟨v, H', ⟨rfl, rfl⟩, h⟩ := h
   exact h
 · exact h
 · obtain ⟨y, hy, h⟩ := mk_args h
   rw [ha] at hy
   cases hy
   exact h
theorem make_exec {P : Program} {F : FTab} {t e : TypeId} {inf : TypeInfo} {sz bytes : Nat} {zero : List AV} {z : Value} (ht : P.underlying t = some (.slice e)) (hi : P.info? e = some inf) (hs : inf.size = sz) (hb : inf.bytes = bytes) (hz : inf.zero = some z)
  {n' c' : Nat} (hnc' : n' ≤ c') (h48 : (bytes : Int) * (c' : Int) ≤ 281474976710656) (h63 : (c' : Int) ≤ 9223372036854775807) (hzl : zero.length = sz) :
  (Instr.makeSlice t (.int .i64 n') (.int .i64 c')).run P w = .ok (.slice (some ⟨w.heap.size, 0, none⟩) n' c') (w.alloc (.cells ((Array.range (c' * zero.length)).map fun i => z.cells[i % z.cells.size]!) e)) := by
 have w1 : IntKind.i64.wrap (n' : Int) = n' := by simp [IntKind.wrap, IntKind.bits, IntKind.signed]; omega
 have w2 : IntKind.i64.wrap (c' : Int) = c' := by simp [IntKind.wrap, IntKind.bits, IntKind.signed]; omega
 have hlarge : ¬ (281474976710656 < (inf.bytes : Int) * (c' : Int)) := by rw [hb]; omega
 have hn0 : ¬ ((n' : Int) < 0) := by omega
 have hc0 : ¬ ((c' : Int) < 0) := by omega
 have hcn : ¬ (c' < n') := by omega
 rw [hzl]
 subst hs
 by_cases hz0 : c' * inf.size = 0
 · simp [Instr.makeSlice, run_underlying ht, asInt, asIntOf, typeInfo, Go.sizeOf, hi, w1, w2, hlarge, hn0, hc0, hcn, hz0, range_zero, newRow]
 · simp [Instr.makeSlice, run_underlying ht, asInt, asIntOf, typeInfo, Go.sizeOf, zeroValue, hi, hz, w1, w2, hlarge, hn0, hc0, hcn, hz0, newRow]
theorem make_run {o : Oper} {sz bytes : Nat} {zero : List AV} {l c : Opd} {x : Nat × Nat} (hG : GOK C w G) (he : VRs C.F w G env a.tmps) (hop : chkOp C o.op (.make true sz bytes zero l c) = true) (hx : alArgs env (.make true sz bytes zero l c) = some x) :
  ∃ (ob : Obj) (cap : Nat), (execOp a.eval o).run C.P w = .ok (.value (alVal (.make true sz bytes zero l c) x w.heap.size)) (w.alloc ob) ∧ ∀ (w2 : World) (G2 : Ghost), GLe w G w2 G2 → w2.heap[w.heap.size]? = some ob → alBlk C.F w2 G2 (.make true sz bytes zero l c) x w.heap.size cap := by
 simp only [chkOp] at hop
 split at hop
 · rename_i t ol oc ho
   simp only [Bool.and_eq_true] at hop
   obtain ⟨⟨h1, h2⟩, h3⟩ := hop
   split at h3
   · rename_i e hel
     obtain ⟨inf, z, hinf, hs, hb, hz, hzs, hzc⟩ := zeroIs_inv (F := C.F) h3
     have hz0 := constsOk_sound (C := C) (w := w) (G := G) hzc
     have hz1 : VRs C.F w G zero z.cells := by simpa using hz0
     have hv1 := chkO_sound hG he h1
     have hv2 := chkO_sound hG he h2
     simp only [alArgs] at hx
     split at hx
     · rename_i n m e1 e2
       split at hx
       · rename_i hc
         obtain ⟨k0, k1, k2, k3, k4⟩ := hc
         cases hx
         rw [e1] at hv1
         rw [e2] at hv2
         have hr1 := hv1.int_inv
         have hr2 := hv2.int_inv
         obtain ⟨n', rfl⟩ := Int.eq_ofNat_of_zero_le k0
         obtain ⟨c', rfl⟩ := Int.eq_ofNat_of_zero_le (Int.le_trans k0 k1)
         have hrun := make_exec (P := C.P) (w := w) (F := C.F) (elemOfSlice_inv hel) hinf hs hb hz (n' := n') (c' := c') (by omega) k2 k3 k4
         refine ⟨.cells ((Array.range (c' * zero.length)).map fun i => z.cells[i % z.cells.size]!) e, c' * sz, ?_, fun w2 G2 hg hb => ⟨⟨_, _, hb, ?_, ?_⟩, by simp; omega, by simp⟩⟩
         · simp only [execOp, ho, hr1, hr2]
           simp [hrun, alVal]
         · simp [k4]
         · simp only [Int.toNat_natCast]
           exact (zeros_sound hz1 c').mono hg
       · cases hx
     · cases hx
   · cases h3
 · cases hop
def Pend (C : Ctx) (al : List AOper) (w0 w : World) (G : Ghost) (H : AH) (a : Act) (i b : Nat) (x : Nat × Nat) : Prop :=
 ∃ (t : Nat) (op : AOp) (cap : Nat), al[i]? = some ⟨some t, op, none⟩ ∧ isAlOp op ∧ (t < a.tmps.size → a.tmps[t]? = some (alVal op x b)) ∧ alBlk C.F w G op x b cap ∧
  w0.heap.size ≤ b ∧ (∀ k, (H.o k).live = true → G.loc k ≠ b) ∧ ∀ j, ¬ G.fz b j
theorem Pend.step {al : List AOper} {w0 w' : World} {G' : Ghost} {H' : AH} {i b : Nat} {x : Nat × Nat} (h : Pend C al w0 w G H a i b x) (hs : Step w G H w' G' H') (d : Option Tmp) (V : Value) (hd : ∀ t, dstOf al i = some t → d ≠ some t) : Pend C al w0 w' G' H' (a.put d V) i b x := by
 obtain ⟨t, op, cap, h1, h0, h2, h3, h5, h6, h7⟩ := h
 have hb : b < w.heap.size := alBlk_lt h0 h3
 refine ⟨t, op, cap, h1, h0, fun ht => ?_, alBlk_mono h0 h3 hs.toGLe (hs.old b hb h6), h5, fun k hk e => ?_, fun j hf => ?_⟩
 · cases hdd : d with
   | none => rw [hdd] at ht; exact h2 ht
   | some d' =>
    rw [hdd] at ht
    have hne : d' ≠ t := fun e => hd t (by simp [dstOf, h1]) (by rw [hdd, e])
    simp only [Act.put] at ht ⊢
    rw [Array.size_setIfInBounds] at ht
    rw [Array.getElem?_setIfInBounds_ne hne]
    exact h2 ht
 · obtain ⟨j, hj, e'⟩ := hs.owned k hk (by rw [e]; exact hb)
   exact h6 j hj (e'.trans e)
 · rcases hs.fznew b j hf with hf | hlt | ⟨k, hk, e⟩
   · exact h7 j hf
   · omega
   · exact h6 k hk e
structure Way (C : Ctx) (al : List AOper) (pr : List (List Nat)) (last : List Nat) (K : Env → AH → Prop) (w0 : World) (G0 : Ghost) (H0 : AH) (a0 : Act)
  (plan : List (List Nat × Nat × List Nat)) (S : Nat → Bool) (Pd : List Nat) (bl : Nat → Nat) (ag : Nat → Nat × Nat) (env : Env) (H : AH) (G : Ghost) (a : Act) (w : World) : Prop where
 inv : Inv (ACall C) al pr last K plan S env H
 sep : ∀ p ∈ Pd, S p = false ∧ isAl al pr p = true ∧ ∀ k ∈ prs pr p, S k = true ∨ k ∈ Pd
 pend : ∀ p ∈ Pd, Pend C al w0 w G H a p (bl p) (ag p)
 args : ∀ p ∈ Pd, ∀ t op, al[p]? = some ⟨some t, op, none⟩ → alArgs env op = some (ag p)
 inj : ∀ p ∈ Pd, ∀ q ∈ Pd, bl p = bl q → p = q
 gok : GOX C w G H
 rel : Rel C.F w G H
 vrs : VRs C.F w G (msk al Pd env) a.tmps
 defers : a.defers = []
 step : Step w0 G0 H0 w G H
 keep : Keep (regAsg al) a0 a
theorem args_keep {al : List AOper} {pr : List (List Nat)} (hg : Good al pr) {q i t' : Nat} {op' : AOp} {o : AOper} {v : AV} (hq : al[q]? = some ⟨some t', op', none⟩) (halq : isAl al pr q = true) (ho : al[i]? = some o)
  (hi : i ∉ prs pr q ∨ isAl al pr i = true) (hne : i ≠ q) (hqi : q ∉ prs pr i) : alArgs (setd env o.dst v) op' = alArgs env op' := by
 apply alArgs_eq
 intro s hs
 cases hd : o.dst with
 | none => rfl
 | some d =>
  simp only [setd]
  by_cases hds : d = s
  · subst hds
    exfalso
    have hdi : dstOf al i = some d := by simp [dstOf, ho, hd]
    rcases hg.reads q _ d i hq (by simp [oReads, hs]) hdi with h | ⟨_, h⟩
    · rcases hi with hi | hi
      · exact hi h
      · obtain ⟨t2, op2, ho2, hal2⟩ := isAl_spec hi
        obtain ⟨t3, op3, ho3, hal3⟩ := isAl_spec halq
        rw [hq] at ho3
        cases ho3
        rcases hal3 with ⟨zero, rfl⟩ | rfl | ⟨_, _, _, _, _, rfl⟩
        · simp [opReads] at hs
        · simp [opReads] at hs
        · obtain ⟨o4, ho4, hop4⟩ := isAl_pre halq hq i h
          rw [ho2] at ho4
          cases ho4
          exact isAlOp_no hal2 hop4
    · rcases h with h | h
      · exact hne h
      · exact hqi h
  · rw [List.getD_eq_getElem?_getD, List.getElem?_set_ne hds, List.getD_eq_getElem?_getD]
theorem Way.settle {al : List AOper} {pr : List (List Nat)} {last : List Nat} {K : Env → AH → Prop} {w0 : World} {G0 : Ghost} {H0 : AH} {a0 : Act} (hg : Good al pr) {bl : Nat → Nat} {ag : Nat → Nat × Nat} :
  ∀ (n : Nat) (plan : List (List Nat × Nat × List Nat)) (S : Nat → Bool) (Pd : List Nat) (env : Env) (H : AH) (G : Ghost), plan.length = n → Way C al pr last K w0 G0 H0 a0 plan S Pd bl ag env H G a w →
   ∃ plan' S' Pd' env' H' G', Way C al pr last K w0 G0 H0 a0 plan' S' Pd' bl ag env' H' G' a w ∧ (∀ k, (S' k = true ∨ k ∈ Pd') ↔ (S k = true ∨ k ∈ Pd)) ∧ ∀ p ∈ Pd', nextE plan' ≠ some p := by
 intro n
 induction n with
 | zero =>
  intro plan S Pd env H G hn hw
  have : plan = [] := List.length_eq_zero_iff.1 hn
  subst this
  exact ⟨[], S, Pd, env, H, G, hw, fun k => Iff.rfl, fun p hp h => by cases h⟩
 | succ n ih =>
  intro plan S Pd env H G hn hw
  by_cases hne : ∃ p ∈ Pd, nextE plan = some p
  · obtain ⟨p, hp, hnp⟩ := hne
    obtain ⟨hSp, hal, hprs⟩ := hw.sep p hp
    obtain ⟨_, hpl, hnx⟩ := inv_next hw.inv hnp
    have hpr : ∀ k ∈ prs pr p, S k = true := by
     intro k hk
     rcases hprs k hk with h | h
     · exact h
     · exact hnx k hk (hw.sep k h).2.1
    obtain ⟨t, op, cap, h1, h0, h2, h3, h5, h6, h7⟩ := hw.pend p hp
    have hone := inv_step (ACall_mono C) hg hw.inv h1 hSp hpr (.inr hnp)
    rw [if_pos hnp] at hone
    simp only [oneSem] at hone
    have hinv := opSem_al h0 (hw.args p hp t op h1) hone
    have hn' := hw.rel.n
    obtain ⟨hgle, hrel⟩ := hw.rel.adopt (b := bl p) (c := cap) h6 (alObj op (ag p)) (fun hgle => al_obj h0 h3 hgle (if_pos hn'.symm) (if_pos hn'.symm) h7)
    have hloc : ∀ i, i ≠ H.n → (G.more (bl p) cap).loc i = G.loc i := fun i hi => if_neg (show ¬ i = G.n by omega)
    have hlocn : (G.more (bl p) cap).loc H.n = bl p := if_pos hn'.symm
    have ho : ∀ i, i ≠ H.n → (H.push (alObj op (ag p))).o i = H.o i := fun i hi => if_neg hi
    have hdp : dstOf al p = some t := by simp [dstOf, h1]
    have hlen : (msk al Pd env).length = env.length := by simp [msk]
    have hway : Way C al pr last K w0 G0 H0 a0 plan.tail (fun k => k == p || S k) (Pd.filter (fun q => !(q == p))) bl ag (setd env (some t) (alPtr op (ag p) H.n)) (H.push (alObj op (ag p))) (G.more (bl p) cap) a w := by
     refine ⟨hinv, fun q hq => ?_, fun q hq => ?_, fun q hq t' op' hoq => ?_, fun q hq q' hq' h => ?_, hw.gok.adopt hgle hw.rel.n h7, hrel, ?_, hw.defers, ?_, hw.keep⟩
     · obtain ⟨hq, hqp⟩ := List.mem_filter.1 hq
       have hqp' : q ≠ p := by simpa using hqp
       obtain ⟨g1, g2, g3⟩ := hw.sep q hq
       refine ⟨by simp [hqp', g1], g2, fun k hk => ?_⟩
       rcases g3 k hk with h | h
       · left; simp [h]
       · by_cases hkp : k = p
         · left; simp [hkp]
         · right; exact List.mem_filter.2 ⟨h, by simp [hkp]⟩
     · obtain ⟨hq, hqp⟩ := List.mem_filter.1 hq
       have hqp' : q ≠ p := by simpa using hqp
       obtain ⟨t', op', cap', k1, k0, k2, k3, k5, k6, k7⟩ := hw.pend q hq
       refine ⟨t', op', cap', k1, k0, k2, alBlk_mono k0 k3 hgle rfl, k5, fun k hk e => ?_, fun j hf => k7 j hf⟩
       by_cases hkn : k = H.n
       · subst hkn
         rw [hlocn] at e
         exact hqp' (hw.inj q hq p hp e.symm)
       · rw [hloc k hkn] at e
         rw [ho k hkn] at hk
         exact k6 k hk e
     · obtain ⟨hq, hqp⟩ := List.mem_filter.1 hq
       have hqp' : q ≠ p := by simpa using hqp
       rw [← hw.args q hq t' op' hoq]
       exact args_keep hg hoq (hw.sep q hq).2.1 h1 (.inr hal) (fun e => hqp' e.symm) fun h => by
        have := hpr q h
        rw [(hw.sep q hq).1] at this; cases this
     · exact hw.inj q (List.mem_filter.1 hq).1 q' (List.mem_filter.1 hq').1 h
     · have hv := hw.vrs.mono hgle
       refine ⟨by simp only [msk, setd, List.length_map, List.length_range, List.length_set]; rw [← hv.1, hlen], fun j c V hc hV => ?_⟩
       have hjl : j < env.length := by
        have := (List.getElem?_eq_some_iff.1 hc).1
        simpa [msk, setd] using this
       have hcd : c = (msk al (Pd.filter (fun q => !(q == p))) (setd env (some t) (alPtr op (ag p) H.n))).getD j .bot := by rw [List.getD_eq_getElem?_getD, hc]; rfl
       rw [msk_getD] at hcd
       by_cases hjt : j = t
       · subst hjt
         have hnot : (Pd.filter (fun q => !(q == p))).any (fun q => dstOf al q == some j) = false := by
          rw [Bool.eq_false_iff]
          intro hx
          rw [List.any_eq_true] at hx
          obtain ⟨q, hq, hqd⟩ := hx
          have hqd' : dstOf al q = some j := by simpa using hqd
          have := hg.uniq q p j hqd' hdp
          subst this
          simp at hq
         rw [hnot] at hcd
         simp only [Bool.false_eq_true, if_false, setd, List.getD_eq_getElem?_getD, List.getElem?_set_self hjl, Option.getD_some] at hcd
         subst hcd
         have hjs : j < a.tmps.size := (Array.getElem?_eq_some_iff.1 hV).1
         rw [h2 hjs] at hV
         cases hV
         exact al_vr h0 h3 (show H.n < G.n + 1 by omega) hlocn (if_pos hn'.symm)
       · have hold : (msk al Pd env).getD j .bot = if (Pd.filter (fun q => !(q == p))).any (fun q => dstOf al q == some j) then .bot else env.getD j .bot := by
           rw [msk_getD]
           have : Pd.any (fun q => dstOf al q == some j) = (Pd.filter (fun q => !(q == p))).any (fun q => dstOf al q == some j) := by
            rw [Bool.eq_iff_iff, List.any_eq_true, List.any_eq_true]
            constructor
            · rintro ⟨q, hq, hqd⟩
              refine ⟨q, List.mem_filter.2 ⟨hq, ?_⟩, hqd⟩
              have : q ≠ p := by
               rintro rfl
               rw [hdp] at hqd
               exact hjt (by simpa using hqd : t = j).symm
              simp [this]
            · rintro ⟨q, hq, hqd⟩
              exact ⟨q, (List.mem_filter.1 hq).1, hqd⟩
           rw [this]
         have hset : (setd env (some t) (alPtr op (ag p) H.n)).getD j .bot = env.getD j .bot := by
          simp only [setd]
          rw [List.getD_eq_getElem?_getD, List.getElem?_set_ne (fun e => hjt e.symm), List.getD_eq_getElem?_getD]
         rw [hset, ← hold] at hcd
         have hjl' : j < (msk al Pd env).length := by rw [hlen]; exact hjl
         refine hv.2 j c V ?_ hV
         rw [hcd, List.getD_eq_getElem?_getD, List.getElem?_eq_getElem hjl']
         rfl
     · have hs := hw.step
       refine { hs.toGLe.trans hgle with size := hs.size, os := hs.os, tape := hs.tape, output := hs.output, old := hs.old, owned := fun k hk hlt => ?_, fznew := fun b o hf => hs.fznew b o hf }
       by_cases hkn : k = H.n
       · subst hkn
         rw [hlocn] at hlt
         omega
       · rw [hloc k hkn] at hlt ⊢
         rw [ho k hkn] at hk
         exact hs.owned k hk hlt
    obtain ⟨plan', S', Pd', env', H', G', r1, r2, r3⟩ := ih plan.tail _ _ _ _ _ (by simp [hn]) hway
    refine ⟨plan', S', Pd', env', H', G', r1, fun k => (r2 k).trans ?_, r3⟩
    simp only [Bool.or_eq_true, beq_iff_eq, List.mem_filter, Bool.not_eq_true', beq_eq_false_iff_ne]
    constructor
    · rintro ((rfl | h) | ⟨h, _⟩)
      · exact .inr hp
      · exact .inl h
      · exact .inr h
    · rintro (h | h)
      · exact .inl (.inr h)
      · by_cases hkp : k = p
        · exact .inl (.inl hkp)
        · exact .inr ⟨h, hkp⟩
  · exact ⟨plan, S, Pd, env, H, G, hw, fun k => Iff.rfl, fun p hp h => hne ⟨p, hp, h⟩⟩
theorem draw_sound (hF : FOK C) {ops : Array Oper} {Q : Exit → Act → World → Prop} {K : Env → AH → Prop} {al : List AOper} {pr : List (List Nat)} {plan : List (List Nat × Nat × List Nat)} {last : List Nat} {rid : Nat}
  (hc1 : chkReg C ops ops.toList al = true) (hc2 : chkEdges ops pr = true) (hc3 : chkDraw al pr plan last = true) (hm : C.P.follows .mixedOrders = true)
  (h : drawSem (ACall C) al last plan env H K) (hG : GOX C w G H) (hrel : Rel C.F w G H) (he : VRs C.F w G env a.tmps) (hd : a.defers = [])
  (hQ : ∀ env' H' G' a' w', K env' H' → GOX C w' G' H' → Rel C.F w' G' H' → VRs C.F w' G' env' a'.tmps → a'.defers = [] → Step w G H w' G' H' → Keep (regAsg al) a a' → Q .normal a' w') :
  (Code.region rid ops true).wp C.P Q a w := by
 obtain ⟨hlen, hget⟩ := chkReg_get hc1
 have hsz : ops.size = al.length := by simpa using hlen
 simp only [chkDraw, Bool.and_eq_true] at hc3
 obtain ⟨⟨ha, hb⟩, hc⟩ := hc3
 have hg := chkAll_good ha
 have hedge : ∀ (i : Nat) (o : Oper), ops[i]? = some o → (∀ e ∈ o.after, Region.binds .any e = true → e.on < i) ∧ ∀ j ∈ prs pr i, ∃ e ∈ o.after, Region.binds .any e = true ∧ (e.on = j ∨ j ∈ prs pr e.on) := by
  intro i o ho
  have hi : i < ops.size := (Array.getElem?_eq_some_iff.1 ho).1
  unfold chkEdges at hc2
  rw [List.all_eq_true] at hc2
  have := hc2 i (List.mem_range.2 hi)
  rw [ho] at this
  simp only [Bool.and_eq_true] at this
  obtain ⟨h1, h2⟩ := this
  rw [List.all_eq_true] at h1 h2
  refine ⟨fun e hem hb => ?_, fun j hj => ?_⟩
  · have := h1 e.on (List.mem_map.2 ⟨e, List.mem_filter.2 ⟨by simpa using hem, hb⟩, rfl⟩)
    simpa using this
  · have := h2 j hj
    rw [Bool.or_eq_true, List.any_eq_true] at this
    rcases this with h | ⟨k, hk, h⟩
    · have hmem : j ∈ (o.after.toList.filter (Region.binds .any)).map Edge.on := by simpa [List.contains_iff_mem] using h
      obtain ⟨e, hem, rfl⟩ := List.mem_map.1 hmem
      obtain ⟨hem, hbb⟩ := List.mem_filter.1 hem
      exact ⟨e, by simpa using hem, hbb, .inl rfl⟩
    · obtain ⟨e, hem, rfl⟩ := List.mem_map.1 hk
      obtain ⟨hem, hbb⟩ := List.mem_filter.1 hem
      exact ⟨e, by simpa using hem, hbb, .inr (by simpa using h)⟩
 refine wp_region_any hm ?_
 have main : ∀ (fuel : Nat) (listed : Array Bool) (plan : List (List Nat × Nat × List Nat)) (S : Nat → Bool) (Pd : List Nat) (bl : Nat → Nat) (ag : Nat → Nat × Nat) (env' : Env) (H' : AH) (G' : Ghost) (a' : Act) (w' : World),
   Way C al pr last K w G H a plan S Pd bl ag env' H' G' a' w' → (∀ k, listed.getD k false = true ↔ S k = true ∨ k ∈ Pd) → listed.size = ops.size →
   (List.range ops.size).countP (fun k => !listed.getD k false) ≤ fuel → wpAny C.P .any ops Q fuel listed a' w' := by
  have done : ∀ (listed : Array Bool), listed.size = ops.size → Region.ready .any ops listed = [] → ∀ i, i < ops.size → listed.getD i false = true := by
   intro listed hls hr i
   induction i using Nat.strongRecOn with
   | _ i ih =>
    intro hi
    cases hx : listed.getD i false with
    | true => rfl
    | false =>
     exfalso
     have hmem : i ∈ Region.ready .any ops listed := by
      rw [mem_ready]
      have hil : i < listed.size := by omega
      refine ⟨?_, ops[i], by simp [hi], fun e hem hbb => ?_⟩
      · simpa [hil] using hx
      · have := (hedge i ops[i] (by simp [hi])).1 e hem hbb
        exact ih e.on this (by omega)
     rw [hr] at hmem
     cases hmem
  have fin : ∀ (listed : Array Bool) (plan : List (List Nat × Nat × List Nat)) (S : Nat → Bool) (Pd : List Nat) (bl : Nat → Nat) (ag : Nat → Nat × Nat) (env' : Env) (H' : AH) (G' : Ghost) (a' : Act) (w' : World),
    Way C al pr last K w G H a plan S Pd bl ag env' H' G' a' w' → (∀ k, listed.getD k false = true ↔ S k = true ∨ k ∈ Pd) → (∀ i, i < ops.size → listed.getD i false = true) → Q .normal a' w' := by
   intro listed plan S Pd bl ag env' H' G' a' w' hw hL hall
   obtain ⟨plan', S', Pd', env2, H2, G2, r1, r2, r3⟩ := hw.settle hg _ _ _ _ _ _ _ rfl
   have hPd : Pd' = [] := by
    cases hPd : Pd' with
    | nil => rfl
    | cons p r =>
     exfalso
     have hp : p ∈ Pd' := by rw [hPd]; exact List.mem_cons_self
     cases hx : nextE plan' with
     | none =>
      obtain ⟨e0, e1, D, es, hl, hm, hmD, hS, hf, hcS, hcD, hchk, hrem⟩ := r1.inv
      cases plan' with
      | cons q r => cases hx
      | nil =>
       simp only [chkRem] at hchk
       rw [List.all_eq_true] at hchk
       obtain ⟨g1, g2, _⟩ := r1.sep p hp
       obtain ⟨t, op, hz, hal'⟩ := isAl_spec g2
       have hpl : p < al.length := (List.getElem?_eq_some_iff.1 hz).1
       have hpD : p ∈ D := by simpa using hchk p (List.mem_range.2 hpl)
       obtain ⟨o, v, ho, hop, _⟩ := hf p hpD g1
       rw [hz] at ho
       cases ho
       exact isAlOp_no hal' hop
     | some e =>
      obtain ⟨g1, g2, _⟩ := inv_next r1.inv hx
      have := hall e (by omega)
      rcases (r2 e).2 ((hL e).1 this) with h | h
      · rw [g1] at h; cases h
      · exact r3 e h hx
   subst hPd
   have hSall : ∀ i, i < al.length → S' i = true := by
    intro i hi
    rcases (r2 i).2 ((hL i).1 (hall i (by omega))) with h | h
    · exact h
    · cases h
   have hmsk : msk al [] env2 = env2 := by
    apply env_ext (by simp [msk])
    intro t _
    rw [msk_getD]; rfl
   have hv := r1.vrs
   rw [hmsk] at hv
   exact hQ env2 H2 G2 a' w' (inv_done r1.inv hSall) r1.gok r1.rel hv r1.defers r1.step r1.keep
  intro fuel
  induction fuel with
  | zero =>
   intro listed plan S Pd bl ag env' H' G' a' w' hw hL hls hcount
   have hall : ∀ i, i < ops.size → listed.getD i false = true := by
    intro i hi
    have h0 := Nat.le_zero.1 hcount
    rw [List.countP_eq_zero] at h0
    simpa using h0 i (List.mem_range.2 hi)
   have hre : Region.ready .any ops listed = [] := by
    apply List.eq_nil_iff_forall_not_mem.2
    intro i hi
    obtain ⟨h0, o, ho, _⟩ := mem_ready.1 hi
    have hil : i < ops.size := (Array.getElem?_eq_some_iff.1 ho).1
    have := hall i hil
    have hil' : i < listed.size := by omega
    simp [hil'] at h0 this
    rw [h0] at this; cases this
   exact ⟨hre, fin listed plan S Pd bl ag env' H' G' a' w' hw hL hall⟩
  | succ fuel ih =>
   intro listed plan0 S0 Pd0 bl ag env0' H0' G0' a' w' hw0 hL0 hls hcount
   refine ⟨fun hre => fin listed plan0 S0 Pd0 bl ag env0' H0' G0' a' w' hw0 hL0 fun i hi => done listed hls hre i hi, fun i hi => ?_⟩
   obtain ⟨plan, S, Pd, env', H', G', hw, r2, hnext⟩ := hw0.settle hg _ _ _ _ _ _ _ rfl
   have hL : ∀ k, listed.getD k false = true ↔ S k = true ∨ k ∈ Pd := fun k => (hL0 k).trans (r2 k).symm
   obtain ⟨h0, o, ho, hall⟩ := mem_ready.1 hi
   have hil : i < ops.size := (Array.getElem?_eq_some_iff.1 ho).1
   have hil' : i < listed.size := by omega
   have hLi : listed.getD i false = false := by simpa [hil'] using h0
   have hSi : S i = false := by
    cases hx : S i with
    | false => rfl
    | true => have := (hL i).2 (.inl hx); rw [hLi] at this; cases this
   have hiPd : i ∉ Pd := fun hx => by have := (hL i).2 (.inr hx); rw [hLi] at this; cases this
   obtain ⟨ao, hao, hdst, hop, hgd⟩ := hget i o (by simpa using ho)
   have hdi : dstOf al i = ao.dst := by simp [dstOf, hao]
   obtain ⟨hcS, hwait⟩ := inv_wait hg hw.inv
   have hclosed : ∀ k, listed.getD k false = true → ∀ j ∈ prs pr k, listed.getD j false = true := by
    intro k hk j hj
    rw [hL] at hk ⊢
    rcases hk with hk | hk
    · exact .inl (hcS k hk j hj)
    · exact (hw.sep k hk).2.2 j hj
   have hprL : ∀ k ∈ prs pr i, listed.getD k false = true := by
    intro k hk
    obtain ⟨e, hem, hbb, hor⟩ := (hedge i o ho).2 k hk
    have := hall e hem hbb
    rcases hor with rfl | hor
    · exact this
    · exact hclosed e.on this k hor
   have hset : ∀ k, (listed.setIfInBounds i true).getD k false = true ↔ k = i ∨ listed.getD k false = true := by
    intro k
    by_cases hki : k = i
    · subst hki; simp [hil']
    · rw [getD_set_ne false (fun e => hki e.symm)]; simp [hki]
   have hdec : (List.range ops.size).countP (fun k => !(listed.setIfInBounds i true).getD k false) ≤ fuel := by
    refine Nat.lt_succ_iff.1 (Nat.lt_of_lt_of_le (countP_lt (fun x hx => ?_) ⟨i, List.mem_range.2 hil, by rw [hLi]; rfl, by simp [hil']⟩) hcount)
    by_cases hxi : x = i
    · subst hxi; simp [hil'] at hx
    · rw [getD_set_ne false (fun e => hxi e.symm)] at hx; exact hx
   by_cases hwt : isAl al pr i = true ∧ nextE plan ≠ some i
   ·
     obtain ⟨hal, hnx⟩ := hwt
     obtain ⟨t, op, hz, hal'⟩ := isAl_spec hal
     rw [hao] at hz
     cases hz
     unfold wpOp
     rw [ho]
     dsimp only
     have hgo : o.guard = none := by
      cases hgo : o.guard with
      | none => rfl
      | some _ => rw [hgo] at hgd; simp [guardOk] at hgd
     rw [if_pos (by simp [Region.wanted, hgo])]
     refine .inl ?_
     have hprS : (∃ sz bytes zero l c, op = .make true sz bytes zero l c) → ∀ k ∈ prs pr i, S k = true := by
      rintro ⟨sz, bytes, zero, l, c, rfl⟩ k hk
      rcases (hL k).1 (hprL k hk) with h | h
      · exact h
      · obtain ⟨o4, ho4, hop4⟩ := isAl_pre hal hao k hk
        obtain ⟨t2, op2, ho2, hal2⟩ := isAl_spec (hw.sep k h).2.1
        rw [ho2] at ho4
        cases ho4
        exact (isAlOp_no hal2 hop4).elim
     obtain ⟨x, hx0⟩ := inv_look (ACall_nv C) hg hw.inv hao hal' hSi hprS
     have hx : alArgs (msk al Pd env') op = some x := by
      rw [← hx0]
      apply alArgs_eq
      intro s hs
      rw [msk_getD]
      have : Pd.any (fun p => dstOf al p == some s) = false := by
       rw [Bool.eq_false_iff]
       intro hxx
       rw [List.any_eq_true] at hxx
       obtain ⟨p, hp, hpd⟩ := hxx
       have hpd' : dstOf al p = some s := by simpa using hpd
       obtain ⟨g1, g2, g3⟩ := hw.sep p hp
       have hmk : ∃ sz bytes zero l c, op = .make true sz bytes zero l c := by
        rcases hal' with ⟨zero, rfl⟩ | rfl | h
        · simp [opReads] at hs
        · simp [opReads] at hs
        · exact h
       rcases hg.reads i _ s p hao (by simp [oReads, hs]) hpd' with h | ⟨_, h⟩
       · have := hprS hmk p h; rw [g1] at this; cases this
       · rcases h with rfl | h
         · exact hiPd hp
         · rcases g3 i h with h' | h'
           · rw [hSi] at h'; cases h'
           · exact hiPd h'
      rw [this]; rfl
     have hv0 := hw.vrs
     obtain ⟨ob, cap, hrun, hblk⟩ : ∃ (ob : Obj) (cap : Nat), (execOp a'.eval o).run C.P w' = .ok (.value (alVal op x w'.heap.size)) (w'.alloc ob) ∧ ∀ (w2 : World) (G2 : Ghost), GLe w' G' w2 G2 → w2.heap[w'.heap.size]? = some ob → alBlk C.F w2 G2 op x w'.heap.size cap := by
      rcases hal' with ⟨zero, rfl⟩ | rfl | ⟨sz, bytes, zero, ol, oc, rfl⟩
      · simp only [chkOp] at hop
        split at hop
        · rename_i ty hoo
          split at hop
          · rename_i inf hinf
            split at hop
            · rename_i z hzz
              have hz0 := constsOk_sound (C := C) (w := w') (G := G') hop
              have hz1 : VRs C.F w' G' zero z.cells := by simpa using hz0
              refine ⟨.cells z.cells ty, z.cells.size, ?_, fun w2 G2 hg hb => ⟨_, _, hb, rfl, hz1.mono hg⟩⟩
              have hr : (Instr.alloc ty true (.tuple #[])).run C.P w' = .ok (.pointer (some ⟨w'.heap.size, 0, none⟩)) (w'.alloc (.cells z.cells ty)) := by
               simp [Instr.alloc, zeroValue, typeInfo, hinf, hzz, newVar, newRow]
              simp [execOp, hoo, hr, alVal]
            · cases hop
          · cases hop
        · cases hop
      · simp only [chkOp] at hop
        split at hop
        · rename_i ty r hoo
          have hr : r = none := by simpa using hop
          subst hr
          refine ⟨.map #[] 0, 0, ?_, fun w2 G2 hg hb => ⟨_, hb⟩⟩
          have hr : (Instr.makeMap ty none).run C.P w' = .ok (.map (some w'.heap.size)) (w'.alloc (.map #[] 0)) := rfl
          simp [execOp, hoo, hr, alVal]
        · cases hop
      · exact make_run hw.gok.1 hv0 hop hx
     refine wp_value hrun ?_
     have hp := Pushed.alloc w' ob
     obtain ⟨hrel2, hst2⟩ := hw.rel.junk hp
     have hdt : o.dst = some t := hdst
     rw [hdt]
     refine ih _ plan S (i :: Pd) (fun k => if k = i then w'.heap.size else bl k) (fun k => if k = i then x else ag k) env' H' G' _ _ ⟨hw.inv, fun p hp' => ?_, fun p hp' => ?_, fun p hp' t' op' hop' => ?_, fun p hp' q hq' hpq => ?_, hw.gok.step hst2, hrel2, ?_, by rw [put_defers]; exact hw.defers, hw.step.trans hst2, hw.keep.trans ((Keep.put a' (some t) _).mono fun s hs => regAsg_mem hao s (by simpa [eq_comm] using hs))⟩ ?_ (by simp [hls]) hdec
     · rcases List.mem_cons.1 hp' with rfl | hp'
       · exact ⟨hSi, hal, fun k hk => by
           rcases (hL k).1 (hprL k hk) with h | h
           · exact .inl h
           · exact .inr (List.mem_cons_of_mem _ h)⟩
       · obtain ⟨g1, g2, g3⟩ := hw.sep p hp'
         exact ⟨g1, g2, fun k hk => (g3 k hk).imp id fun h => List.mem_cons_of_mem _ h⟩
     · rcases List.mem_cons.1 hp' with rfl | hp'
       · rw [if_pos rfl, if_pos rfl]
         refine ⟨t, op, cap, hao, hal', fun ht => ?_, hblk _ _ hst2.toGLe hp.new, hw.step.size, fun k hk => Nat.ne_of_lt ((hw.rel.obj k).lt hk), fun j hf => ?_⟩
         · simp only [Act.put] at ht ⊢
           rw [Array.size_setIfInBounds] at ht
           simp [ht]
         · obtain ⟨V, hV⟩ := hw.rel.fzc _ _ hf
           have := World.block_lt_of_cell? w' _ hV
           simp at this
       · have hpi : p ≠ i := fun e => hiPd (e ▸ hp')
         rw [if_neg hpi, if_neg hpi]
         refine (hw.pend p hp').step hst2 (some t) _ fun s hs e => ?_
         have e' : t = s := Option.some.inj e
         subst e'
         exact hpi (hg.uniq p i t hs (by rw [hdi]))
     · rcases List.mem_cons.1 hp' with rfl | hp'
       · rw [if_pos rfl]
         rw [hao] at hop'
         cases hop'
         exact hx0
       · have hpi : p ≠ i := fun e => hiPd (e ▸ hp')
         rw [if_neg hpi]
         exact hw.args p hp' t' op' hop'
     · have hblt : ∀ q ∈ Pd, bl q < w'.heap.size := by
         intro q hq
         obtain ⟨_, _, _, _, h0, _, h3, _⟩ := hw.pend q hq
         exact alBlk_lt h0 h3
       have hp2 := List.mem_cons.1 hp'
       have hq2 := List.mem_cons.1 hq'
       by_cases h1 : p = i <;> by_cases h2 : q = i
       · rw [h1, h2]
       · rw [if_pos h1, if_neg h2] at hpq
         have := hblt q (hq2.resolve_left h2); omega
       · rw [if_neg h1, if_pos h2] at hpq
         have := hblt p (hp2.resolve_left h1); omega
       · rw [if_neg h1, if_neg h2] at hpq
         exact hw.inj p (hp2.resolve_left h1) q (hq2.resolve_left h2) hpq
     · have hv := hw.vrs.mono hst2.toGLe
       refine ⟨by simpa [msk, Act.put] using hv.1, fun j c V hc hV => ?_⟩
       have hjl : j < env'.length := by
        have := (List.getElem?_eq_some_iff.1 hc).1
        simpa [msk] using this
       have hcd : c = (msk al (i :: Pd) env').getD j .bot := by rw [List.getD_eq_getElem?_getD, hc]; rfl
       rw [msk_getD] at hcd
       by_cases hjt : t = j
       · subst hjt
         have : (i :: Pd).any (fun q => dstOf al q == some t) = true := by simp [hdi]
         rw [this] at hcd
         simp only [if_true] at hcd
         subst hcd
         exact .bot _
       · simp only [Act.put] at hV
         rw [Array.getElem?_setIfInBounds_ne hjt] at hV
         have h1 : (i :: Pd).any (fun q => dstOf al q == some j) = Pd.any (fun q => dstOf al q == some j) := by
          rw [List.any_cons, hdi]
          have : (some t == some j) = false := by simpa using hjt
          rw [this, Bool.false_or]
         rw [h1, ← msk_getD] at hcd
         have hjl' : j < (msk al Pd env').length := by simpa [msk] using hjl
         refine hv.2 j c V ?_ hV
         rw [hcd, List.getD_eq_getElem?_getD, List.getElem?_eq_getElem hjl']
         rfl
     · intro k
       rw [hset k, hL k]
       simp only [List.mem_cons]
       constructor
       · rintro (h | h | h)
         · exact .inr (.inl h)
         · exact .inl h
         · exact .inr (.inr h)
       · rintro (h | h | h)
         · exact .inr (.inl h)
         · exact .inl h
         · exact .inr (.inr h)
   · have hal : isAl al pr i = false ∨ nextE plan = some i := by
       by_cases h1 : isAl al pr i = true
       · by_cases h2 : nextE plan = some i
         · exact .inr h2
         · exact absurd ⟨h1, h2⟩ hwt
       · exact .inl (by simpa using h1)
     have hprS : ∀ k ∈ prs pr i, S k = true := by
      intro p hp
      rcases (hL p).1 (hprL p hp) with h | h
      · exact h
      · exfalso
        obtain ⟨g1, g2, _⟩ := hw.sep p h
        rcases hal with hal | hal
        · refine hwait p g2 g1 (hnext p h) i (by omega) hSi hp hal fun k hk => ?_
          rcases (hL k).1 (hprL k hk) with h' | h'
          · exact .inl h'
          · exact .inr ⟨(hw.sep k h').2.1, hnext k h'⟩
        · have := (inv_next hw.inv hal).2.2 p hp g2
          rw [g1] at this; cases this
     have hone := inv_step (ACall_mono C) hg hw.inv hao hSi hprS hal
     rw [oneSem_V] at hone
     have agree : ∀ t ∈ oReads ao, env'.getD t .bot = (msk al Pd env').getD t .bot := by
      intro t ht
      rw [msk_getD]
      have : Pd.any (fun p => dstOf al p == some t) = false := by
       rw [Bool.eq_false_iff]
       intro hx
       rw [List.any_eq_true] at hx
       obtain ⟨p, hp, hpd⟩ := hx
       have hpd' : dstOf al p = some t := by simpa using hpd
       obtain ⟨g1, g2, g3⟩ := hw.sep p hp
       rcases hg.reads i ao t p hao ht hpd' with h | ⟨_, h⟩
       · have := hprS p h; rw [g1] at this; cases this
       · rcases h with rfl | h
         · exact hiPd hp
         · rcases g3 i h with h' | h'
           · rw [hSi] at h'; cases h'
           · exact hiPd h'
      rw [this]; rfl
     rw [oneV_eq agree] at hone
     refine wpOp_soundV hF ho hdst hop hgd hone hw.gok hw.rel hw.vrs ?_
     intro v V H2 G2 w2 hK hG2 hv2 hr2 hst2
     refine ih _ _ (fun k => k == i || S k) Pd bl ag _ H2 G2 _ w2 ⟨hK, fun p hp => ?_, fun p hp => ?_, fun p hp t' op' hop' => ?_, hw.inj, hG2, hr2, ?_, by rw [put_defers]; exact hw.defers, hw.step.trans hst2, hw.keep.trans ((Keep.put a' ao.dst V).mono fun s hs => regAsg_mem hao s (by simpa [Option.mem_toList, eq_comm] using hs))⟩ ?_ (by simp [hls]) hdec
     · obtain ⟨g1, g2, g3⟩ := hw.sep p hp
       have hpi : p ≠ i := fun e => hiPd (e ▸ hp)
       exact ⟨by simp [hpi, g1], g2, fun k hk => (g3 k hk).imp (fun h => by simp [h]) id⟩
     · have hpi : p ≠ i := fun e => hiPd (e ▸ hp)
       refine (hw.pend p hp).step hst2 ao.dst V fun s hs e => ?_
       exact hpi (hg.uniq p i s hs (by rw [hdi, e]))
     · have hpi : i ≠ p := fun e => hiPd (e ▸ hp)
       rw [← hw.args p hp t' op' hop']
       exact args_keep hg hop' (hw.sep p hp).2.1 hao (.inl fun h => by
         rcases (hw.sep p hp).2.2 i h with h' | h'
         · rw [hSi] at h'; cases h'
         · exact hiPd h') hpi fun h => by
         have := hprS p h
         rw [(hw.sep p hp).1] at this; cases this
     · have hv := hw.vrs.mono hst2.toGLe
       have hnot : ∀ t, ao.dst = some t → Pd.any (fun p => dstOf al p == some t) = false := by
        intro t ht
        rw [Bool.eq_false_iff]
        intro hx
        rw [List.any_eq_true] at hx
        obtain ⟨p, hp, hpd⟩ := hx
        have hpd' : dstOf al p = some t := by simpa using hpd
        exact hiPd ((hg.uniq p i t hpd' (by rw [hdi, ht])) ▸ hp)
       have hms : msk al Pd (setd env' ao.dst v) = setd (msk al Pd env') ao.dst v := by
        apply env_ext
        · cases hd' : ao.dst <;> simp [msk, setd]
        · intro s _
          rw [msk_getD]
          cases hd' : ao.dst with
          | none => simp only [setd]; rw [msk_getD]
          | some t =>
           simp only [setd]
           by_cases hst : t = s
           · subst hst
             rw [hnot t hd']
             by_cases htl : t < env'.length
             · have htl' : t < (msk al Pd env').length := by simpa [msk] using htl
               simp [List.getD_eq_getElem?_getD, htl, htl']
             · have htl' : ¬ t < (msk al Pd env').length := by simpa [msk] using htl
               rw [List.set_eq_of_length_le (Nat.le_of_not_lt htl), List.set_eq_of_length_le (Nat.le_of_not_lt htl')]
               rw [msk_getD, hnot t hd']
           · have h1 : (env'.set t v).getD s .bot = env'.getD s .bot := by
               rw [List.getD_eq_getElem?_getD, List.getElem?_set_ne hst, List.getD_eq_getElem?_getD]
             have h2 : ((msk al Pd env').set t v).getD s .bot = (msk al Pd env').getD s .bot := by
              rw [List.getD_eq_getElem?_getD, List.getElem?_set_ne hst, List.getD_eq_getElem?_getD]
             rw [h1, h2, msk_getD]
       rw [hms]
       exact hv.setd ao.dst hv2
     · intro k
       rw [hset k, hL k]
       simp only [Bool.or_eq_true, beq_iff_eq]
       constructor
       · rintro (h | h | h)
         · exact .inl (.inl h)
         · exact .inl (.inr h)
         · exact .inr h
       · rintro ((h | h) | h)
         · exact .inl h
         · exact .inr (.inl h)
         · exact .inr (.inr h)
 obtain ⟨hr1, hst1⟩ := Step.drawn (w.drawn + 1) hrel
 refine main ops.size (Array.replicate ops.size false) plan (fun _ => false) [] (fun _ => 0) (fun _ => (0, 0)) env H G a _ ⟨inv_start hg hb hc h, fun p hp => (by cases hp), fun p hp => (by cases hp), fun p hp => (by cases hp), fun p hp => (by cases hp), hG.step hst1, hr1, ?_, hd, hst1, Keep.refl _ _⟩ ?_ (by simp) ?_
 · have hmsk : msk al [] env = env := by
     apply env_ext (by simp [msk])
     intro t _
     rw [msk_getD]; rfl
   rw [hmsk]
   exact he.mono hst1.toGLe
 · intro k
   by_cases hk : k < ops.size <;> simp [hk]
 · exact Nat.le_trans (List.countP_le_length) (by simp)
theorem frzA_spec {o : Nat → AObj} : ∀ {cells l : List AV} {id : Nat}, frzA o cells = some (l, id) → ∃ pre off len sz post cs, cells = pre ++ .row id off len sz :: post ∧ l = pre ++ .lst .dead len ((cs.drop off).take (len * sz)) :: post ∧ o id = .row cs ∧ off + len * sz ≤ cs.length := by
 intro cells
 induction cells with
 | nil => intro l id h; cases h
 | cons c r ih =>
  intro l id h
  unfold frzA at h
  split at h
  · rename_i heq; cases heq
  · rename_i id' off len sz r' heq
    cases heq
    split at h
    · rename_i cs ho
      split at h
      · rename_i hle
        cases h
        exact ⟨[], _, _, _, _, cs, rfl, rfl, ho, hle⟩
      · cases h
    · cases h
  · rename_i c' r' _ heq
    cases heq
    cases hr : frzA o r with
    | none => rw [hr] at h; cases h
    | some q =>
     obtain ⟨q1, q2⟩ := q
     rw [hr] at h
     cases h
     obtain ⟨pre, off, len, sz, post, cs, h1, h2, h3, h4⟩ := ih hr
     exact ⟨c :: pre, off, len, sz, post, cs, by rw [h1]; rfl, by rw [h2]; rfl, h3, h4⟩
theorem Rel.retell {F : FTab} {H : AH} {id : Nat} {cs l : List AV} (hrel : Rel F w G H) (ho : H.o id = .row cs) (h : ObjR F w G id (.row l)) : Rel F w G (H.set id (.row l)) := by
 have hl : ∀ i, ((H.set id (.row l)).o i).live = true → (H.o i).live = true := by
  intro i hi
  simp only [AH.set] at hi
  split at hi
  · rename_i e; rw [e, ho]; rfl
  · exact hi
 refine ⟨hrel.n, fun i hi => ?_, fun i => ?_, fun i j hne hi hj => hrel.dist i j hne (hl i hi) (hl j hj), hrel.fzc⟩
 · simp only [AH.set] at hi ⊢
   split
   · rename_i e
     have := hrel.over i hi
     rw [e, ho] at this
     cases this
   · exact hrel.over i hi
 · simp only [AH.set]
   split
   · rename_i e; rw [e]; exact h
   · exact hrel.obj i
theorem freeze_sound {x v : AV} {X : Value} {H' : AH} {F : FTab} (hrel : Rel F w G H) (h : afreeze H x = some (v, H')) (hx : VR F w G x X) : ∃ G', Rel F w G' H' ∧ Step w G H w G' H' ∧ VR F w G' v X := by
 have key : ∀ (id : Nat) (cs : List AV), H.o id = .row cs → ∃ G', Rel F w G' (H.set id .gone) ∧ Step w G H w G' (H.set id .gone) ∧
   ∃ Vs : Nat → Value, (∀ (j : Nat) (c : AV), cs[j]? = some c → G'.fz (G.loc id) j ∧ w.cell? ⟨G.loc id, j, none⟩ = some (Vs j)) ∧ (∀ (j : Nat) (c : AV), cs[j]? = some c → VR F w G' c (Vs j)) := by
  intro id cs ho
  have hlive : (H.o id).live = true := by rw [ho]; rfl
  have hid := hrel.idlt hlive
  have hk := hrel.kill id (hrel.n ▸ hid)
  have hobj := hrel.obj id
  rw [ho] at hobj
  have hcells := hobj.row_cells
  have hgle : GLe w G w (G.ice (G.loc id) 0 cs.length) := ⟨Nat.le_refl _, fun _ _ => rfl, fun _ _ => rfl, fun _ _ hf => .inl hf, fun _ _ _ _ hc => hc⟩
  have hother : ∀ j, ((H.set id .gone).o j).live = true → j ≠ id ∧ (H.o j).live = true := by
   intro j hj
   simp only [AH.set] at hj
   split at hj
   · cases hj
   · rename_i hne; exact ⟨hne, hj⟩
  refine ⟨G.ice (G.loc id) 0 cs.length, ⟨hk.1.n, hk.1.over, fun j => ?_, hk.1.dist, fun b o hb => ?_⟩, ?_, fun j => (w.cell? ⟨G.loc id, j, none⟩).getD undef, fun j c hj => ?_, fun j c hj => ?_⟩
  · refine (hk.1.obj j).keep hgle (fun hl => hk.1.idlt hl) (fun _ => rfl) fun hl k hf => ?_
    rcases hf with hf | ⟨hf, _⟩
    · exact hf
    · obtain ⟨h1, h2⟩ := hother j hl
      exact absurd hf (hrel.dist j id h1 h2 hlive)
  · rcases hb with hb | ⟨rfl, _, hlt⟩
    · exact hrel.fzc b o hb
    · obtain ⟨V, hV, _⟩ := hcells o cs[o] (List.getElem?_eq_getElem hlt)
      exact ⟨V, by simpa using hV⟩
  · exact { hgle with size := Nat.le_refl _, os := rfl, tape := rfl, output := rfl, old := fun _ _ _ => rfl, owned := fun j hl _ => ⟨j, (hother j hl).2, rfl⟩, fznew := fun b o hf => hf.imp (fun h => h) fun hf => .inr ⟨id, hlive, hf.1.symm⟩ }
  · obtain ⟨V, hV, _⟩ := hcells j c hj
    rw [Nat.zero_add] at hV
    exact ⟨.inr ⟨rfl, Nat.zero_le _, (List.getElem?_eq_some_iff.1 hj).1⟩, by dsimp only; rw [hV]; rfl⟩
  · obtain ⟨V, hV, hr⟩ := hcells j c hj
    rw [Nat.zero_add] at hV
    dsimp only
    rw [hV]
    exact hr.mono hgle
 unfold afreeze at h
 split at h
 · rename_i id o len sz
   split at h
   · rename_i cs ho
     split at h
     · cases h
       obtain ⟨G', hr, hst, Vs, h1, h2⟩ := key id cs ho
       refine ⟨G', hr, hst, ?_⟩
       cases hx with
       | row _ _ _ _ cap hid hle hc =>
        have gets : ∀ (j : Nat) (c : AV), ((cs.drop o).take (len * sz))[j]? = some c → cs[o + j]? = some c := by
         intro j c hj
         rw [List.getElem?_take] at hj
         split at hj
         · rw [List.getElem?_drop] at hj; exact hj
         · cases hj
        exact .lst _ _ _ _ o cap (fun j => Vs (o + j)) trivial hle (fun j c hj => h1 _ c (gets j c hj)) fun j c hj => h2 _ c (gets j c hj)
     · cases h
   · cases h
 · rename_i id o
   split at h
   · rename_i cs ho
     split at h
     · rename_i l id' hfz
       split at h
       · cases h
       · rename_i hne
         cases h
         obtain ⟨pre, off, len, sz, post, cs', rfl, rfl, ho', hle⟩ := frzA_spec hfz
         obtain ⟨G', hr, hst, Vs, h1, h2⟩ := key id' cs' ho'
         have hlive : (H.o id').live = true := by rw [ho']; rfl
         have hid' := hrel.idlt hlive
         have hloc : G'.loc id' = G.loc id' := hst.loc id' (hrel.n ▸ hid')
         have ho1 : (H.set id' .gone).o id = .row (pre ++ .row id' off len sz :: post) := by
          simp only [AH.set]
          rw [if_neg (fun e => hne e.symm)]
          exact ho
         have hobj := hr.obj id
         rw [ho1] at hobj
         obtain ⟨Cc, e, hC, hsz, hnf, hcl⟩ := hobj
         have hobj' : ObjR F w G' id (.row (pre ++ .lst .dead len ((cs'.drop off).take (len * sz)) :: post)) := by
          refine ⟨Cc, e, hC, hsz, hnf, fun j c hj => ?_⟩
          rcases Nat.lt_trichotomy j pre.length with hlt | rfl | hgt
          · rw [List.getElem?_append_left hlt] at hj
            exact hcl j c (by rw [List.getElem?_append_left hlt]; exact hj)
          · have h0 : (pre ++ AV.row id' off len sz :: post)[pre.length]? = some (.row id' off len sz) := by simp
            have hc : c = .lst .dead len ((cs'.drop off).take (len * sz)) := by
             have h3 : (pre ++ AV.lst .dead len ((cs'.drop off).take (len * sz)) :: post)[pre.length]? = some (.lst .dead len ((cs'.drop off).take (len * sz))) := by simp
             rw [h3] at hj
             exact (Option.some.inj hj).symm
            subst hc
            obtain ⟨V, hV, hrow⟩ := hcl _ _ h0
            refine ⟨V, hV, ?_⟩
            cases hrow with
            | row _ _ _ _ cap hid hle2 hc2 =>
             have gets : ∀ (j : Nat) (c : AV), ((cs'.drop off).take (len * sz))[j]? = some c → cs'[off + j]? = some c := by
              intro j c hj
              rw [List.getElem?_take] at hj
              split at hj
              · rw [List.getElem?_drop] at hj; exact hj
              · cases hj
             rw [hloc]
             exact .lst _ _ _ _ off cap (fun j => Vs (off + j)) trivial hle2 (fun j c hj => h1 _ c (gets j c hj)) fun j c hj => h2 _ c (gets j c hj)
          · have e : ∀ y : AV, (pre ++ y :: post)[j]? = post[j - pre.length - 1]? := by
              intro y
              rw [List.getElem?_append_right (by omega)]
              obtain ⟨d, hd⟩ : ∃ d, j - pre.length = d + 1 := ⟨j - pre.length - 1, by omega⟩
              rw [hd]; rfl
            rw [e] at hj
            exact hcl j c (by rw [e]; exact hj)
         have hl : ∀ i, (((H.set id' .gone).set id (.row (pre ++ .lst .dead len ((cs'.drop off).take (len * sz)) :: post))).o i).live = true → ((H.set id' .gone).o i).live = true := by
          intro i hi
          by_cases ei : i = id
          · rw [ei, ho1]; rfl
          · simp only [AH.set, if_neg ei] at hi ⊢; exact hi
         refine ⟨G', hr.retell ho1 hobj', { hst with owned := fun i hi hb => hst.owned i (hl i hi) hb }, hx.mono hst.toGLe⟩
     · cases h
       obtain ⟨G', hr, hst, Vs, h1, h2⟩ := key id cs ho
       refine ⟨G', hr, hst, ?_⟩
       cases hx with
       | ptr _ _ hid =>
        exact .fptr _ _ o (fun j => Vs (o + j)) (fun j c hj => h1 _ c (by rw [List.getElem?_drop] at hj; exact hj)) fun j c hj => h2 _ c (by rw [List.getElem?_drop] at hj; exact hj)
   · cases h
 · cases h; exact ⟨G, hrel, Step.refl _ _ _, hx⟩
 · cases h; exact ⟨G, hrel, Step.refl _ _ _, hx⟩
 · rename_i cells
   split at h
   · rename_i l id hfz
     cases h
     obtain ⟨pre, off, len, sz, post, cs, rfl, rfl, ho, hle⟩ := frzA_spec hfz
     obtain ⟨G', hr, hst, Vs, h1, h2⟩ := key id cs ho
     refine ⟨G', hr, hst, ?_⟩
     obtain ⟨Xs, rfl, hXs⟩ := hx.agg_inv
     refine .agg _ _ (by have := hXs.1; simp at this ⊢; omega) fun j c V hj hV => ?_
     rcases Nat.lt_trichotomy j pre.length with hlt | rfl | hgt
     · rw [List.getElem?_append_left hlt] at hj
       exact (hXs.2 j c V (by rw [List.getElem?_append_left hlt]; exact hj) hV).mono hst.toGLe
     · have h0 : (pre ++ AV.row id off len sz :: post)[pre.length]? = some (.row id off len sz) := by simp
       have hc : c = .lst .dead len ((cs.drop off).take (len * sz)) := by
        have h3 : (pre ++ AV.lst .dead len ((cs.drop off).take (len * sz)) :: post)[pre.length]? = some (.lst .dead len ((cs.drop off).take (len * sz))) := by simp
        rw [h3] at hj
        exact (Option.some.inj hj).symm
       subst hc
       have hrow := hXs.2 _ _ V h0 hV
       cases hrow with
       | row _ _ _ _ cap hid hle2 hc2 =>
        have gets : ∀ (j : Nat) (c : AV), ((cs.drop off).take (len * sz))[j]? = some c → cs[off + j]? = some c := by
         intro j c hj
         rw [List.getElem?_take] at hj
         split at hj
         · rw [List.getElem?_drop] at hj; exact hj
         · cases hj
        exact .lst _ _ _ _ off cap (fun j => Vs (off + j)) trivial hle2 (fun j c hj => h1 _ c (gets j c hj)) fun j c hj => h2 _ c (gets j c hj)
     · have e : ∀ y : AV, (pre ++ y :: post)[j]? = post[j - pre.length - 1]? := by
         intro y
         rw [List.getElem?_append_right (by omega)]
         obtain ⟨d, hd⟩ : ∃ d, j - pre.length = d + 1 := ⟨j - pre.length - 1, by omega⟩
         rw [hd]; rfl
       rw [e] at hj
       exact (hXs.2 j c V (by rw [e]; exact hj) hV).mono hst.toGLe
   · cases h; exact ⟨G, hrel, Step.refl _ _ _, hx⟩
 · cases h
end
end Rb

namespace Rb
open Go
section
variable {C : Ctx} {w : World} {G : Ghost} {H : AH} {env : Env} {a : Act}
theorem gets_sound {F : FTab} {Vs : Array Value} (h : VRs F w G env Vs) (vs : List Nat) : ∀ (j : Nat) (c : AV), (gets env vs)[j]? = some c → ∃ t V, vs[j]? = some t ∧ (Vs[t]? = some V ∧ VR F w G c V ∨ c = .bot) := by
 intro j c hj
 simp only [gets, List.getElem?_map] at hj
 cases hv : vs[j]? with
 | none => simp [hv] at hj
 | some t =>
  simp [hv] at hj
  subst hj
  cases he : env[t]? with
  | none => exact ⟨t, undef, rfl, .inr (by simp)⟩
  | some c =>
   obtain ⟨V, hV, hr⟩ := h.get he
   exact ⟨t, V, rfl, .inl ⟨hV, by simpa [he] using hr⟩⟩
theorem kills_sound {F : FTab} : ∀ (ks : List Nat) {env : Env} {Vs : Array Value}, VRs F w G env Vs → VRs F w G (kills env ks) Vs := by
 intro ks
 induction ks with
 | nil => intro env Vs h; exact h
 | cons t ks ih =>
  intro env Vs h
  refine ih ⟨by simp [h.1], fun j c V hc hV => ?_⟩
  by_cases hj : t = j
  · subst hj
    rw [List.getElem?_set] at hc
    simp only [if_true] at hc
    split at hc
    · cases hc; exact .bot _
    · cases hc
  · rw [List.getElem?_set_ne hj] at hc
    exact h.2 j c V hc hV
theorem kills_length : ∀ (ks : List Nat) (env : Env), (kills env ks).length = env.length := by
 intro ks
 induction ks with
 | nil => intro env; rfl
 | cons t ks ih => intro env; rw [kills, ih]; simp
theorem kills_get : ∀ (ks : List Nat) (env : Env) (t : Nat), t ∈ ks → ∀ c, (kills env ks)[t]? = some c → c = .bot := by
 intro ks
 induction ks with
 | nil => intro env t ht; cases ht
 | cons s ks ih =>
  intro env t ht c hc
  by_cases h : t ∈ ks
  · exact ih _ t h c hc
  · have hts : t = s := by rcases List.mem_cons.1 ht with h' | h'; exact h'; exact absurd h' h
    subst hts
    have key : ∀ (ks : List Nat) (env : Env), t ∉ ks → (kills env ks)[t]? = env[t]? := by
     intro ks
     induction ks with
     | nil => intro env _; rfl
     | cons u ks ih =>
      intro env hn
      rw [kills, ih _ (fun h => hn (List.mem_cons_of_mem _ h)), List.getElem?_set_ne (fun e => hn (by rw [e]; exact List.mem_cons_self))]
    rw [kills, key ks _ h, List.getElem?_set] at hc
    simp only [if_true] at hc
    split at hc
    · cases hc; rfl
    · cases hc
theorem kept_sound {F : FTab} {ks vs az : List Nat} {Vs Vs' : Array Value} (h : VRs F w G env Vs) (hc : covers ks vs az = true) (hs : Vs'.size = Vs.size) (hk : ∀ t, t ∉ az → Vs'[t]? = Vs[t]?) (st : List AV)
  (hst : ∀ (j : Nat) (c : AV), st[j]? = some c → ∃ t V, vs[j]? = some t ∧ (Vs'[t]? = some V ∧ VR F w G c V ∨ c = .bot)) (hl : st.length = vs.length) : VRs F w G (puts (kills env ks) vs st) Vs' := by
 have hall : ∀ (vs : List Nat) (st : List AV) (env : Env), env.length = Vs'.size → st.length = vs.length →
   (∀ (j : Nat) (c : AV), st[j]? = some c → ∃ t V, vs[j]? = some t ∧ (Vs'[t]? = some V ∧ VR F w G c V ∨ c = .bot)) →
   (∀ (j : Nat) (c : AV) (V : Value), env[j]? = some c → Vs'[j]? = some V → j ∈ vs ∨ VR F w G c V) → VRs F w G (puts env vs st) Vs' := by
  intro vs
  induction vs with
  | nil => intro st env hle _ _ h; exact ⟨hle, fun j c V hc hV => (h j c V hc hV).resolve_left (by simp)⟩
  | cons t vs ih =>
   intro st env hle hl hst h
   cases st with
   | nil => simp at hl
   | cons d st =>
    rw [puts]
    refine ih st _ (by simp [hle]) (by simpa using hl) (fun j c hj => by
      obtain ⟨t', V, ht', hr⟩ := hst (j + 1) c (by simpa using hj)
      exact ⟨t', V, by simpa using ht', hr⟩) fun j c V hc hV => ?_
    by_cases hj : t = j
    · subst hj
      rw [List.getElem?_set] at hc
      simp only [if_true] at hc
      split at hc
      · cases hc
        obtain ⟨t', V', ht', hr⟩ := hst 0 d rfl
        simp at ht'
        subst ht'
        rcases hr with ⟨hV', hr⟩ | rfl
        · rw [hV] at hV'; cases hV'; exact .inr hr
        · exact .inr (.bot _)
      · cases hc
    · rw [List.getElem?_set_ne hj] at hc
      rcases h j c V hc hV with h' | h'
      · rcases List.mem_cons.1 h' with h' | h'
        · exact absurd h'.symm hj
        · exact .inl h'
      · exact .inr h'
 refine hall vs st _ (by rw [kills_length, h.1, hs]) hl hst fun j c V hc' hV => ?_
 by_cases hj : j ∈ az
 · have := List.all_eq_true.1 hc j hj
   simp at this
   rcases this with h1 | h1
   · rw [kills_get ks env j h1 c hc']; exact .inr (.bot _)
   · exact .inl h1
 · rw [hk j hj] at hV
   exact .inr ((kills_sound ks h).2 j c V hc' hV)
theorem gets_length (env : Env) (vs : List Nat) : (gets env vs).length = vs.length := by simp [gets]
def ExOk : AExit → Exit → Prop
 | .normal, .normal => True
 | .exit i, .exit j => i = j
 | .ret, .ret => True
 | _, _ => False
theorem split_sound (hF : FOK C) {ops : Array Oper} {Q : Exit → Act → World → Prop} {w0 : World} {G0 : Ghost} {H0 : AH} {a0 : Act} {az : List Nat} :
  ∀ (b : ACode) (l : List Oper) (env : Env) (H : AH) (G : Ghost) (w : World) (a : Act) (K : AExit → Env → AH → Prop), chkSplit C ops l b = true → codeSem (ACall C) b env H K → GOX C w G H → Rel C.F w G H → VRs C.F w G env a.tmps → a.defers = [] →
   Step w0 G0 H0 w G H → Keep az a0 a → (∀ t, t ∈ asg b → t ∈ az) →
   (∀ env' H' G' a' w', K .normal env' H' → GOX C w' G' H' → Rel C.F w' G' H' → VRs C.F w' G' env' a'.tmps → a'.defers = [] → Step w0 G0 H0 w' G' H' → Keep az a0 a' → Q .normal a' w') →
   wpList C.P ops Q l a w := by
 intro b
 induction b with
 | region al =>
  intro l env H G w a K hchk h hG hrel he hd hst hk hsub hQ
  exact reg_sound hF l al env H G w a hchk h hG hrel he hd hst hk hsub hQ
 | rjoin vs ks al b ih =>
  intro l env H G w a K hchk h hG hrel he hd hst hk hsub hQ
  simp only [chkSplit, Bool.and_eq_true] at hchk
  obtain ⟨⟨h1, hcov⟩, h2⟩ := hchk
  rw [← List.take_append_drop al.length l]
  simp only [codeSem] at h
  refine reg_sound' (w0 := w) (G0 := G) (H0 := H) (a0 := a) (az := regAsg al) hF (l.take al.length) al env H G w a h1 h hG hrel he hd (Step.refl _ _ _) (Keep.refl _ _) (fun _ ht => ht) ?_
  intro env' H' G' a' w' hK hG' hr' he' hd' hst' hk'
  have hkept := kept_sound (he.mono hst'.toGLe) hcov hk'.1 hk'.2 (gets env' vs) (gets_sound he' vs) (gets_length _ _)
  exact ih (l.drop al.length) _ H' G' w' a' K h2 hK hG' hr' hkept hd' (hst.trans hst') (hk.trans (hk'.mono fun t ht => hsub t (by simp [asg, ht]))) (fun t ht => hsub t (by simp [asg, ht])) hQ
 | _ => intro l env H G w a K hchk; simp [chkSplit] at hchk
theorem code_sound (hF : FOK C) :
  ∀ (ac : ACode) (c : Code) (env : Env) (H : AH) (G : Ghost) (w : World) (a : Act) (K : AExit → Env → AH → Prop) (Q : Exit → Act → World → Prop), chkC C c ac = true → codeSem (ACall C) ac env H K →
   GOX C w G H → Rel C.F w G H → VRs C.F w G env a.tmps → a.defers = [] →
   (∀ ax ex env' H' G' a' w', ExOk ax ex → K ax env' H' → GOX C w' G' H' → Rel C.F w' G' H' → VRs C.F w' G' env' a'.tmps → a'.defers = [] → Step w G H w' G' H' → Keep (asg ac) a a' → Q ex a' w') →
   c.wp C.P Q a w := by
 intro ac
 induction ac with
 | skip =>
  intro c env H G w a K Q hchk h hG hrel he hd hQ
  cases c <;> simp [chkC] at hchk
  exact wp_skip (hQ .normal .normal env H G a w trivial h hG hrel he hd (Step.refl _ _ _) (Keep.refl _ _))
 | region al =>
  intro c env H G w a K Q hchk h hG hrel he hd hQ
  cases c with
  | region id ops draw =>
   cases draw with
   | true => simp [chkC] at hchk
   | false =>
    simp only [chkC] at hchk
    refine wp_region_list ?_
    exact reg_sound (az := regAsg al) (a0 := a) (w0 := w) (G0 := G) (H0 := H) (Q := Q) (K := K .normal) hF ops.toList al env H G w a hchk h hG hrel he hd (Step.refl _ _ _) (Keep.refl _ _) (fun _ ht => ht)
     (fun env' H' G' a' w' hK hG' hr' he' hd' hst' hk' => hQ .normal .normal env' H' G' a' w' trivial hK hG' hr' he' hd' hst' hk')
  | _ => simp [chkC] at hchk
 | rjoin vs ks al b _ =>
  intro c env H G w a K Q hchk h hG hrel he hd hQ
  cases c with
  | region id ops draw =>
   cases draw with
   | true => simp [chkC] at hchk
   | false =>
    simp only [chkC] at hchk
    refine wp_region_list ?_
    exact split_sound (az := asg (.rjoin vs ks al b)) (a0 := a) (w0 := w) (G0 := G) (H0 := H) (Q := Q) (K := K) hF (.rjoin vs ks al b) ops.toList env H G w a hchk h hG hrel he hd (Step.refl _ _ _) (Keep.refl _ _) (fun _ ht => ht)
     (fun env' H' G' a' w' hK hG' hr' he' hd' hst' hk' => hQ .normal .normal env' H' G' a' w' trivial hK hG' hr' he' hd' hst' hk')
  | _ => simp [chkC] at hchk
 | draw al pr plan last =>
  intro c env H G w a K Q hchk h hG hrel he hd hQ
  cases c with
  | region id ops draw =>
   cases draw with
   | false => simp [chkC] at hchk
   | true =>
    simp only [chkC, Bool.and_eq_true] at hchk
    obtain ⟨⟨⟨h1, h2⟩, h3⟩, h4⟩ := hchk
    exact draw_sound hF h1 h2 h3 h4 h hG hrel he hd fun env' H' G' a' w' hK hG' hr' he' hd' hst' hk' => hQ .normal .normal env' H' G' a' w' trivial hK hG' hr' he' hd' hst' hk'
  | _ => simp [chkC] at hchk
 | seq x y ihx ihy =>
  intro c env H G w a K Q hchk h hG hrel he hd hQ
  cases c with
  | seq p q =>
   simp only [chkC, Bool.and_eq_true] at hchk
   refine wp_seq ?_
   refine ihx p env H G w a _ _ hchk.1 h hG hrel he hd ?_
   intro ax ex env' H' G' a' w' hex hK hG' hr' he' hd' hst' hk'
   cases ax with
   | normal =>
    cases ex <;> simp only [ExOk] at hex
    refine ihy q env' H' G' w' a' K Q hchk.2 hK hG' hr' he' hd' ?_
    intro ax ex env2 H2 G2 a2 w2 hex hK2 hG2 hr2 he2 hd2 hst2 hk2
    exact hQ ax ex env2 H2 G2 a2 w2 hex hK2 hG2 hr2 he2 hd2 (hst'.trans hst2) ((hk'.mono fun t ht => by simp [asg, ht]).trans (hk2.mono fun t ht => by simp [asg, ht]))
   | exit i =>
    cases ex <;> simp only [ExOk] at hex
    exact hQ (.exit i) (.exit _) env' H' G' a' w' hex hK hG' hr' he' hd' hst' (hk'.mono fun t ht => by simp [asg, ht])
   | ret =>
    cases ex <;> simp only [ExOk] at hex
    exact hQ .ret .ret env' H' G' a' w' trivial hK hG' hr' he' hd' hst' (hk'.mono fun t ht => by simp [asg, ht])
  | _ => simp [chkC] at hchk
 | join vs ks x y ihx ihy =>
  intro c env H G w a K Q hchk h hG hrel he hd hQ
  cases c with
  | seq p q =>
   simp only [chkC, Bool.and_eq_true] at hchk
   obtain ⟨⟨hc1, hc2⟩, hcov⟩ := hchk
   refine wp_seq ?_
   refine ihx p env H G w a _ _ hc1 h hG hrel he hd ?_
   intro ax ex env' H' G' a' w' hex hK hG' hr' he' hd' hst' hk'
   cases ax with
   | normal =>
    cases ex <;> simp only [ExOk] at hex
    have hkept := kept_sound (he.mono hst'.toGLe) hcov hk'.1 hk'.2 (gets env' vs) (gets_sound he' vs) (gets_length _ _)
    refine ihy q _ H' G' w' a' K Q hc2 hK hG' hr' hkept hd' ?_
    intro ax ex env2 H2 G2 a2 w2 hex hK2 hG2 hr2 he2 hd2 hst2 hk2
    exact hQ ax ex env2 H2 G2 a2 w2 hex hK2 hG2 hr2 he2 hd2 (hst'.trans hst2) ((hk'.mono fun t ht => by simp [asg, ht]).trans (hk2.mono fun t ht => by simp [asg, ht]))
   | exit i =>
    cases ex <;> simp only [ExOk] at hex
    exact hQ (.exit i) (.exit _) env' H' G' a' w' hex hK hG' hr' he' hd' hst' (hk'.mono fun t ht => by simp [asg, ht])
   | ret =>
    cases ex <;> simp only [ExOk] at hex
    exact hQ .ret .ret env' H' G' a' w' trivial hK hG' hr' he' hd' hst' (hk'.mono fun t ht => by simp [asg, ht])
  | _ => simp [chkC] at hchk
 | cond x p q ihp ihq =>
  intro c env H G w a K Q hchk h hG hrel he hd hQ
  cases c with
  | cond c' p' q' =>
   simp only [chkC, Bool.and_eq_true] at hchk
   obtain ⟨⟨hc1, hc2⟩, hc3⟩ := hchk
   obtain ⟨t, ht, h⟩ := Gd_inv h
   have hx := chkO_sound hG.1 he hc1
   rw [ht] at hx
   refine wp_cond (t := t) hx.bool_inv ?_
   cases t with
   | true =>
    rw [if_pos rfl] at h ⊢
    exact ihp p' env H G w a K Q hc2 h hG hrel he hd fun ax ex env' H' G' a' w' h1 h2 h3 h4 h5 h6 h7 h8 => hQ ax ex env' H' G' a' w' h1 h2 h3 h4 h5 h6 h7 (h8.mono fun t ht => by simp [asg, ht])
   | false =>
    rw [if_neg (by simp)] at h ⊢
    exact ihq q' env H G w a K Q hc3 h hG hrel he hd fun ax ex env' H' G' a' w' h1 h2 h3 h4 h5 h6 h7 h8 => hQ ax ex env' H' G' a' w' h1 h2 h3 h4 h5 h6 h7 (h8.mono fun t ht => by simp [asg, ht])
  | _ => simp [chkC] at hchk
 | block id x ih =>
  intro c env H G w a K Q hchk h hG hrel he hd hQ
  cases c with
  | block id' p =>
   simp only [chkC, Bool.and_eq_true, beq_iff_eq] at hchk
   obtain ⟨rfl, hc⟩ := hchk
   refine wp_block ?_
   refine ih p env H G w a _ _ hc h hG hrel he hd ?_
   intro ax ex env' H' G' a' w' hex hK hG' hr' he' hd' hst' hk'
   cases ax with
   | normal =>
    cases ex <;> simp only [ExOk] at hex
    exact hQ .normal .normal env' H' G' a' w' trivial hK hG' hr' he' hd' hst' hk'
   | exit i =>
    cases ex with
    | exit j =>
     simp only [ExOk] at hex
     subst hex
     dsimp only at hK
     simp only [Exit.inBlock]
     split
     · rename_i hij
       rw [if_pos hij] at hK
       exact hQ .normal .normal env' H' G' a' w' trivial hK hG' hr' he' hd' hst' hk'
     · rename_i hij
       rw [if_neg hij] at hK
       exact hQ (.exit i) (.exit i) env' H' G' a' w' rfl hK hG' hr' he' hd' hst' hk'
    | _ => simp only [ExOk] at hex
   | ret =>
    cases ex <;> simp only [ExOk] at hex
    exact hQ .ret .ret env' H' G' a' w' trivial hK hG' hr' he' hd' hst' hk'
  | _ => simp [chkC] at hchk
 | loop vs ks x ih =>
  intro c env H G w a K Q hchk h hG hrel he hd hQ
  cases c with
  | loop p =>
   simp only [chkC, Bool.and_eq_true] at hchk
   obtain ⟨hc, hcov⟩ := hchk
   let I : List AV × AH → Prop := fun s => ∀ G' w' a', GOX C w' G' s.2 → Rel C.F w' G' s.2 → VRs C.F w' G' (puts (kills env ks) vs s.1) a'.tmps → a'.defers = [] → Step w G H w' G' s.2 → Keep (asg x) a a' →
    ∀ (b : Frame) (k : List Item) (cs : List Frame), ∃ e a2 w2, Q e a2 w2 ∧ Arrives C.P (lone (b.at a' (.code p :: .inLoop p :: k)) cs w') b k cs e a2 w2
   have hI := h I fun s K' hF' hK' => by
    intro G' w' a' hG' hr' he' hd' hst' hk' b k cs
    have hwp : p.wp C.P (fun ex a2 w2 => match ex with
        | .normal => ∀ (b : Frame) (k : List Item) (cs : List Frame), ∃ e a3 w3, Q e a3 w3 ∧ Arrives C.P (lone (b.at a2 (.code p :: .inLoop p :: k)) cs w2) b k cs e a3 w3
        | e => Q e a2 w2) a' w' := by
      refine ih p _ _ G' w' a' _ _ hc hF' hG' hr' he' hd' ?_
      intro ax ex env2 H2 G2 a2 w2 hex hK2 hG2 hr2 he2 hd2 hst2 hk2
      cases ax with
      | normal =>
       cases ex <;> simp only [ExOk] at hex
       have hkk := hk'.trans hk2
       have hss := hst'.trans hst2
       exact hK' _ hK2 G2 w2 a2 hG2 hr2 (kept_sound (he.mono hss.toGLe) hcov hkk.1 hkk.2 (gets env2 vs) (gets_sound he2 vs) (gets_length _ _)) hd2 hss hkk
      | exit i =>
       cases ex with
       | exit j => exact hQ (.exit i) (.exit j) env2 H2 G2 a2 w2 hex hK2 hG2 hr2 he2 hd2 (hst'.trans hst2) (hk'.trans hk2)
       | _ => simp only [ExOk] at hex
      | ret =>
       cases ex with
       | ret => exact hQ .ret .ret env2 H2 G2 a2 w2 hex hK2 hG2 hr2 he2 hd2 (hst'.trans hst2) (hk'.trans hk2)
       | _ => simp only [ExOk] at hex
    obtain ⟨e, a1, w1, hq, harr⟩ := hwp b (.inLoop p :: k) cs
    cases e with
    | normal =>
     obtain ⟨e2, a2, w2, hq2, harr2⟩ := hq b k cs
     exact ⟨e2, a2, w2, hq2, .of_steps (Steps.trans harr (.one step_inLoop)) harr2⟩
    | exit id => exact ⟨_, a1, w1, hq, .pass (x := .inLoop p) rfl (fun _ _ => .inl (by simp)) harr⟩
    | goto l => exact ⟨_, a1, w1, hq, .pass (x := .inLoop p) rfl (fun _ _ => .inl (by simp)) harr⟩
    | ret => exact ⟨_, a1, w1, hq, .pass (x := .inLoop p) rfl (fun _ _ => .inl (by simp)) harr⟩
    | panic ch => exact ⟨_, a1, w1, hq, .pass (x := .inLoop p) rfl (fun _ _ => .inl (by simp)) harr⟩
    | outgrown => exact ⟨_, a1, w1, hq, .pass (x := .inLoop p) rfl (fun _ _ => .inl (by simp)) harr⟩
   intro b k cs
   have h0 := hI G w a hG hrel (kept_sound he hcov rfl (fun _ _ => rfl) (gets env vs) (gets_sound he vs) (gets_length _ _)) hd (Step.refl _ _ _) (Keep.refl _ _) b k cs
   obtain ⟨e, a', w', hq, harr⟩ := h0
   exact ⟨e, a', w', hq, .of_steps (.one step_loop) harr⟩
  | _ => simp [chkC] at hchk
 | exit id =>
  intro c env H G w a K Q hchk h hG hrel he hd hQ
  cases c <;> simp [chkC] at hchk
  subst hchk
  exact wp_exit (hQ (.exit _) (.exit _) env H G a w rfl h hG hrel he hd (Step.refl _ _ _) (Keep.refl _ _))
 | ret =>
  intro c env H G w a K Q hchk h hG hrel he hd hQ
  cases c <;> simp [chkC] at hchk
  exact wp_ret (hQ .ret .ret env H G a w trivial h hG hrel he hd (Step.refl _ _ _) (Keep.refl _ _))
 | freeze t x ih =>
  intro c env H G w a K Q hchk h hG hrel he hd hQ
  have hchk' : chkC C c x = true := by cases c <;> simpa [chkC] using hchk
  obtain ⟨v, H', hv, h⟩ := h
  obtain ⟨G', hr', hst', hvr⟩ := freeze_sound hrel hv (env_get he)
  have he2 : VRs C.F w G' (env.set t v) a.tmps := by
   refine ⟨by simp [he.1], fun j c V hc hV => ?_⟩
   by_cases hj : t = j
   · subst hj
     rw [List.getElem?_set] at hc
     simp only [if_true] at hc
     split at hc
     · cases hc
       rw [Array.getD_eq_getD_getElem?, hV] at hvr
       exact hvr
     · cases hc
   · rw [List.getElem?_set_ne hj] at hc
     exact (he.2 j c V hc hV).mono hst'.toGLe
  exact ih c _ H' G' w a K Q hchk' h (hG.step hst') hr' he2 hd fun ax ex env' H' G' a' w' h1 h2 h3 h4 h5 h6 h7 h8 => hQ ax ex env' H' G' a' w' h1 h2 h3 h4 h5 h6 (hst'.trans h7) (h8.mono fun t ht => by simp [asg, ht])
def chkRes (P : Program) : List ResultVar → List ARes → Bool
 | [], [] => true
 | .tmp t :: r, .tmp t' :: s => t == t' && chkRes P r s
 | .cell t ty :: r, .cell t' n agg :: s => t == t' && tyOk P ty n agg && chkRes P r s
 | _, _ => false
def chkF (C : Ctx) (f : FuncId) (af : AFunc) : Bool :=
 match C.P.funcs[f]? with
 | some fn => fn.ntmps == af.ntmps && chkRes C.P fn.results.toList af.results && (match fn.body with | some c => chkC C c af.body | none => false)
 | none => false
def resOne (tmps : Array Value) : ResultVar → Sem Value
 | .tmp t => pure (tmps.getD t undef)
 | .cell a t => do loadVar t (← asAddr (tmps.getD a undef))
theorem results_eq (fn : Func) (tmps : Array Value) : results fn tmps = (do
    let vs ← fn.results.mapM (resOne tmps)
    pure (if h : vs.size = 1 then vs[0] else .tuple vs)) := by
  unfold results
  congr 1
theorem res_sound (hrel : Rel C.F w G H) (he : VRs C.F w G env a.tmps) : ∀ (rs : List ResultVar) (ars : List ARes) (K : List AV → Prop), chkRes C.P rs ars = true → resSem env H ars K →
  ∃ vs Vs, K vs ∧ VRs C.F w G vs (List.toArray Vs) ∧ (rs.mapM (resOne a.tmps)).run C.P w = .ok Vs w := by
 intro rs
 induction rs with
 | nil =>
  intro ars K hc h
  cases ars <;> simp [chkRes] at hc
  exact ⟨[], [], h, VRs.nil, rfl⟩
 | cons r rs ih =>
  intro ars K hc h
  have cons : ∀ {v : AV} {V : Value} {vs : List AV} {Vs : List Value}, VR C.F w G v V → VRs C.F w G vs Vs.toArray → VRs C.F w G (v :: vs) (V :: Vs).toArray := by
   intro v V vs Vs hv hvs
   refine VRs.of_list (by have := hvs.1; simp at this ⊢; exact this) fun j c U hj hU => ?_
   cases j with
   | zero => simp at hj hU; subst hj; subst hU; exact hv
   | succ j => exact hvs.2 j c U (by simpa using hj) (by simpa using hU)
  cases r with
  | tmp t =>
   cases ars with
   | nil => simp [chkRes] at hc
   | cons ar ars =>
    cases ar with
    | tmp t' =>
     simp only [chkRes, Bool.and_eq_true, beq_iff_eq] at hc
     obtain ⟨rfl, hc⟩ := hc
     obtain ⟨vs, Vs, hK, hvs, hrun⟩ := ih ars _ hc h
     refine ⟨_, _ :: Vs, hK, cons (env_get he) hvs, ?_⟩
     rw [List.mapM_cons]
     simp only [resOne, Sem.run_bind, Sem.run_pure, Result.andThen_ok, hrun]
    | cell _ _ _ => simp [chkRes] at hc
  | cell t ty =>
   cases ars with
   | nil => simp [chkRes] at hc
   | cons ar ars =>
    cases ar with
    | tmp _ => simp [chkRes] at hc
    | cell t' n agg =>
     simp only [chkRes, Bool.and_eq_true, beq_iff_eq] at hc
     obtain ⟨⟨rfl, hty⟩, hc⟩ := hc
     obtain ⟨v, hv, h⟩ := h
     obtain ⟨vs, Vs, hK, hvs, hrun⟩ := ih ars _ hc h
     have hx := env_get (t := t) he
     obtain ⟨V, hV, hr⟩ := aload_sound (P := C.P) hty hrel hv hx
     refine ⟨_, V :: Vs, hK, cons hr hvs, ?_⟩
     have hV' : (do loadVar ty (← asAddr (a.tmps.getD t undef)) : Sem Value).run C.P w = .ok V w := by
      unfold aload at hv
      split at hv
      · rename_i id o hxx
        rw [hxx] at hx
        generalize a.tmps.getD t undef = X at hx hV
        cases hx
        simpa [Instr.loadAt, Instr.sureAddr, asAddr] using hV
      · rename_i cs hxx
        rw [hxx] at hx
        generalize a.tmps.getD t undef = X at hx hV
        cases hx
        simpa [Instr.loadAt, Instr.sureAddr, asAddr] using hV
      · cases hv
     rw [List.mapM_cons]
     have hone : (resOne a.tmps (.cell t ty)).run C.P w = .ok V w := hV'
     simp only [Sem.run_bind, hone, Result.andThen_ok, hrun, Sem.run_pure]
theorem fn_sound (hF : FOK C) {f : FuncId} {af : AFunc} (hchk : chkF C f af = true) {args : List AV} {Vs : Array Value} {Q : Post} (h : fnSem (ACall C) af args H Q) (hG : GOX C w G H) (hrel : Rel C.F w G H) (hargs : VRs C.F w G args Vs) :
  Calls C.P f Vs w fun e w' => ∃ V v H' G', e = .returned V ∧ Q v H' ∧ VR C.F w' G' v V ∧ Rel C.F w' G' H' ∧ Step w G H w' G' H' := by
 unfold chkF at hchk
 split at hchk
 · rename_i fn hfn
   simp only [Bool.and_eq_true, beq_iff_eq] at hchk
   obtain ⟨⟨hn, hres⟩, hbody⟩ := hchk
   split at hbody
   · rename_i c hb
     refine calls_of_wp hfn hb ?_
     have he : VRs C.F w G (args ++ List.replicate (af.ntmps - args.length) .bot) (Vs ++ Array.replicate (fn.ntmps - Vs.size) undef) := by
      refine hargs.app ⟨by simp [hargs.1, hn], fun j c V hc hV => ?_⟩
      rw [List.getElem?_replicate] at hc
      split at hc
      · cases hc; exact .bot _
      · cases hc
     refine code_sound hF af.body c _ H G w ⟨_, []⟩ _ _ hbody h hG hrel he rfl ?_
     intro ax ex env' H' G' a' w' hex hK hG' hr' he' hd' hst' hk'
     have fin : resSem env' H' af.results (fun vs => Q (oneRes vs) H') → a'.defers = [] ∧ ∃ v, (results fn a'.tmps).run C.P w' = .ok v w' ∧ ∃ V v_1 H'' G'', (Ending.returned v) = .returned V ∧ Q v_1 H'' ∧ VR C.F w' G'' v_1 V ∧ Rel C.F w' G'' H'' ∧ Step w G H w' G'' H'' := by
      intro hr
      obtain ⟨vs, Vs', hQ, hvs, hrun⟩ := res_sound hr' he' fn.results.toList af.results _ hres hr
      refine ⟨hd', if h : Vs'.toArray.size = 1 then Vs'.toArray[0] else .tuple Vs'.toArray, ?_, _, _, _, _, rfl, hQ, ?_, hr', hst'⟩
      · rw [results_eq]
        have he : fn.results = fn.results.toList.toArray := by simp
        rw [he, List.mapM_toArray]
        simp only [Sem.run_bind, Sem.run_map, hrun, Result.andThen_ok, Sem.run_pure]
      · split
        · rename_i h1
          have hl : Vs'.length = 1 := by simpa using h1
          have hl' : vs.length = 1 := by have := hvs.1; simp at this; omega
          match vs, Vs', hl', hl with
          | [v], [V], _, _ => simpa [oneRes] using hvs.2 0 v V rfl rfl
        · rename_i h1
          have hl : Vs'.length ≠ 1 := by simpa using h1
          have hl' : vs.length ≠ 1 := by have := hvs.1; simp at this; omega
          have hone : oneRes vs = .tup vs := by
           match vs, hl' with
           | [], _ => rfl
           | _ :: _ :: _, _ => rfl
          rw [hone]
          exact hvs.tup
     cases ax with
     | normal => cases ex <;> simp only [ExOk] at hex; exact fin hK
     | exit i => exact hK.elim
     | ret => cases ex <;> simp only [ExOk] at hex; exact fin hK
   · cases hbody
 · cases hchk
end
end Rb

namespace Rb
open Go
abbrev Tab := List (Nat × AFunc)
def Tab.get (T : Tab) (k : Nat) : Option AFunc := T.lookup k
def Closed (Φ : Calls') (T : Tab) : Prop := ∀ k f, T.get k = some f → ∀ args H Q, fnSem Φ f args H Q → Φ k args H Q
def chkTab (C : Ctx) : Tab → Bool
 | [] => true
 | (k, f) :: T => (match C.F k with | some fid => chkF C fid f | none => true) && chkTab C T
theorem lookup_mem {T : Tab} {k : Nat} {f : AFunc} (h : T.lookup k = some f) : (k, f) ∈ T := by
 induction T with
 | nil => cases h
 | cons p T ih =>
  obtain ⟨k', f'⟩ := p
  rw [List.lookup_cons] at h
  split at h
  · rename_i hk
    have hk' : k = k' := by simpa using hk
    cases h
    rw [hk']
    exact List.mem_cons_self
  · exact List.mem_cons_of_mem _ (ih h)
theorem chkTab_mem {C : Ctx} : ∀ {T : Tab}, chkTab C T = true → ∀ k f, (k, f) ∈ T → ∀ fid, C.F k = some fid → chkF C fid f = true := by
 intro T
 induction T with
 | nil => intro _ k f h; cases h
 | cons p T ih =>
  obtain ⟨k', f'⟩ := p
  intro h k f hm fid hf
  simp only [chkTab, Bool.and_eq_true] at h
  rcases List.mem_cons.1 hm with he | hm
  · cases he
    have := h.1
    rw [hf] at this
    exact this
  · exact ih h.2 k f hm fid hf
theorem closed_of {C : Ctx} (hF : FOK C) {T : Tab} (h : chkTab C T = true) : Closed (ACall C) T := by
 intro k f hk args H Q hs
 refine ⟨fnSem_nv (ACall_nv C) hs, fun fid hfid G w Vs hG hrel hargs => ?_⟩
 exact fn_sound hF (chkTab_mem h k f (lookup_mem hk) fid hfid) hs hG hrel hargs
mutual
def AV.same : AV → AV → Bool
 | .bool a, .bool b => a == b
 | .int k a, .int k' b => k == k' && a == b
 | .str a, .str b => a == b
 | .nilp, .nilp => true
 | .ptr i o, .ptr i' o' => i == i' && o == o'
 | .fptr cs, .fptr cs' => AV.sames cs cs'
 | .lst tk len cs, .lst tk' len' cs' => tk == tk' && len == len' && AV.sames cs cs'
 | .row a b c d, .row a' b' c' d' => a == a' && b == b' && c == c' && d == d'
 | .map i, .map i' => i == i'
 | .nilmap, .nilmap => true
 | .fn k cs, .fn k' cs' => k == k' && AV.sames cs cs'
 | .nilfn, .nilfn => true
 | .iface t v, .iface t' v' => t == t' && AV.same v v'
 | .nilif, .nilif => true
 | .agg cs, .agg cs' => AV.sames cs cs'
 | .tup cs, .tup cs' => AV.sames cs cs'
 | .bot, .bot => true
 | _, _ => false
def AV.sames : List AV → List AV → Bool
 | [], [] => true
 | c :: r, d :: t => AV.same c d && AV.sames r t
 | _, _ => false
end
mutual
theorem AV.same_sound : (x y : AV) → AV.same x y = true → x = y
 | .bool a, .bool b, h => by simp [AV.same] at h; rw [h]
 | .int k a, .int k' b, h => by simp [AV.same] at h; rw [h.1, h.2]
 | .str a, .str b, h => by simp [AV.same] at h; rw [h]
 | .nilp, .nilp, h => rfl
 | .ptr i o, .ptr i' o', h => by simp [AV.same] at h; rw [h.1, h.2]
 | .fptr cs, .fptr cs', h => by simp only [AV.same] at h; rw [AV.sames_sound cs cs' h]
 | .lst tk len cs, .lst tk' len' cs', h => by
  simp only [AV.same, Bool.and_eq_true, beq_iff_eq] at h; rw [h.1.1, h.1.2, AV.sames_sound cs cs' h.2]
 | .row a b c d, .row a' b' c' d', h => by simp [AV.same] at h; rw [h.1.1.1, h.1.1.2, h.1.2, h.2]
 | .map i, .map i', h => by simp [AV.same] at h; rw [h]
 | .nilmap, .nilmap, h => rfl
 | .fn k cs, .fn k' cs', h => by simp only [AV.same, Bool.and_eq_true, beq_iff_eq] at h; rw [h.1, AV.sames_sound cs cs' h.2]
 | .nilfn, .nilfn, h => rfl
 | .iface t v, .iface t' v', h => by simp only [AV.same, Bool.and_eq_true, beq_iff_eq] at h; rw [h.1, AV.same_sound v v' h.2]
 | .nilif, .nilif, h => rfl
 | .agg cs, .agg cs', h => by simp only [AV.same] at h; rw [AV.sames_sound cs cs' h]
 | .tup cs, .tup cs', h => by simp only [AV.same] at h; rw [AV.sames_sound cs cs' h]
 | .bot, .bot, h => rfl
theorem AV.sames_sound : (xs ys : List AV) → AV.sames xs ys = true → xs = ys
 | [], [], h => rfl
 | c :: r, d :: t, h => by
  simp only [AV.sames, Bool.and_eq_true] at h
  rw [AV.same_sound c d h.1, AV.sames_sound r t h.2]
end
end Rb

namespace Rb
open Go Go.RowKit
def AH.mt : AH := { n := 0, o := fun _ => .gone }
def Ghost.mt (fz : Nat → Nat → Prop) : Ghost := { n := 0, loc := fun _ => 0, cap := fun _ => 0, fz := fz }
theorem Rel.mt {F : FTab} {w : World} {fz : Nat → Nat → Prop} (h : ∀ b o, fz b o → ∃ V, w.cell? ⟨b, o, none⟩ = some V) : Rel F w (Ghost.mt fz) AH.mt :=
 ⟨rfl, fun _ _ => rfl, fun _ => trivial, fun _ _ _ h _ => (by cases h), h⟩
theorem Step.below {w w' : World} {fz : Nat → Nat → Prop} {G' : Ghost} {H' : AH} (h : Step w (Ghost.mt fz) AH.mt w' G' H') : Below w.heap.size w w' :=
 ⟨h.os, h.tape, h.output, h.size, fun k hk => h.old k hk fun i hl => by cases hl⟩
section
variable {H : Type} {enc : TypeId × Value → H} {P : Program}
def typesRead (P : Program) (ts : List TypeId) : Bool := ts.all fun t => P.readableRec t && decide (t < P.types.size)
theorem trodAll_below (hl : laidOutB P = true) {W W' : World} (hb : Below W.heap.size W W') :
  ∀ {ts : List TypeId} {vs : List Value} {ds : List (DataW H)} {ps : List MemPlace}, typesRead P ts = true → DataW.TrodAll enc P W 0 (fun _ => true) true ts vs ds ps → DataW.TrodAll enc P W' 0 (fun b => decide (b < W.heap.size)) true ts vs ds ps
 | [], [], [], _, _, h => h
 | t :: ts, v :: vs, d :: ds, ps, ht, h => by
  have hlt := h.lt
  obtain ⟨p, q, h1, h2, rfl⟩ := h
  simp only [typesRead, List.all_cons, Bool.and_eq_true, decide_eq_true_eq] at ht
  exact ⟨p, q, Below.trod hl ht.1.1 ht.1.2 h1 hb (fun x hx => hlt x (by simp [hx])), trodAll_below hl hb (by simpa [typesRead] using ht.2) h2, rfl⟩
 | [], [], _ :: _, _, _, h => h.elim
 | [], _ :: _, _, _, _, h => by cases ‹List (DataW H)› <;> exact h.elim
 | _ :: _, [], _, _, _, h => by cases ‹List (DataW H)› <;> exact h.elim
 | _ :: _, _ :: _, [], _, _, h => h.elim
theorem post_true {f : Func} {s : ChangeSpec} {apart : Bool} {W W' : World} {args : Array Value} {ds gs : List (DataW H)} {before : List MemPlace} {bt : TypeId}
  (hW : DataW.Whole enc P f.params.toList s.vars apart W args.toList ds gs before) (hl : laidOutB P = true) (ht : typesRead P f.params.toList = true) (hv : varsRowed P s.vars = true)
  (hr : f.resultTypes = #[bt]) (hbt : P.underlying bt = some .bool) (hfn : s.fn H (ds ++ gs) = { results := [.lit (.bool true)], args := ds, vars := gs }) (hb : Below W.heap.size W W') :
  s.post enc P f apart true false false W args (.bool true) W' := by
 have hW' := hW
 obtain ⟨p, q, hA, hV, rfl, hz, hn⟩ := hW
 refine ⟨ds, gs, p ++ q, [], p, q, hW', ?_, ?_, ?_, hb.frame _, fun h => by cases h⟩
 · rw [hfn, hr]
   exact ⟨[], [], shut_bool hbt _, rfl, rfl⟩
 · rw [hfn]
   exact trodAll_below hl hb ht hA
 · rw [hfn]
   exact hb.trodVars hl hv hV
end
end Rb

namespace Rb
open Go
theorem ACall.run {C : Ctx} {key : Nat} {f : FuncId} {args : List AV} {H : AH} {Q : Post} (h : ACall C key args H Q) (hf : C.F key = some f) {G : Ghost} {w : World} {Vs : Array Value} (hG : GOX C w G H) (hrel : Rel C.F w G H) (hargs : VRs C.F w G args Vs) :
  Calls C.P f Vs w fun e w' => ∃ V v H' G', e = .returned V ∧ Q v H' ∧ VR C.F w' G' v V ∧ Rel C.F w' G' H' ∧ Step w G H w' G' H' := h.2 f hf G w Vs hG hrel hargs
end Rb

namespace Rb
open Go
theorem Closed.app {Φ : Calls'} {T U : Tab} (hT : Closed Φ T) (hU : Closed Φ U) : Closed Φ (T ++ U) := by
 intro k f h args H Q hs
 have key : ∀ (T : Tab), (T ++ U).lookup k = some f → T.lookup k = some f ∨ U.lookup k = some f := by
  intro T
  induction T with
  | nil => intro h; exact .inr h
  | cons p T ih =>
   intro h
   obtain ⟨k', f'⟩ := p
   rw [List.cons_append, List.lookup_cons] at h
   rw [List.lookup_cons]
   split at h
   · exact .inl h
   · exact ih h
 rcases key T h with h | h
 · exact hT k f h args H Q hs
 · exact hU k f h args H Q hs
mutual
def AV.flat : AV → Bool
 | .bool _ | .int _ _ | .str _ | .nilp | .nilmap | .nilfn | .nilif => true
 | .lst .nil 0 [] => true
 | .agg cs => AV.flats cs
 | .tup cs => AV.flats cs
 | _ => false
def AV.flats : List AV → Bool
 | [] => true
 | c :: r => AV.flat c && AV.flats r
end
theorem flats_mem : ∀ {cs : List AV}, AV.flats cs = true → ∀ (j : Nat) (c : AV), cs[j]? = some c → c.flat = true
 | [], _, j, c, h => by simp at h
 | d :: r, hf, j, c, h => by
  simp only [AV.flats, Bool.and_eq_true] at hf
  cases j with
  | zero => simp at h; subst h; exact hf.1
  | succ j => exact flats_mem hf.2 j c (by simpa using h)
theorem flat_vr {F : FTab} {w w' : World} {G G' : Ghost} {c : AV} {V : Value} (hf : c.flat = true) (h : VR F w G c V) : VR F w' G' c V := by
 induction h with
 | bot => simp [AV.flat] at hf
 | bool b => exact .bool b
 | int k n => exact .int k n
 | str s => exact .str s
 | nilp => exact .nilp
 | ptr => simp [AV.flat] at hf
 | fptr => simp [AV.flat] at hf
 | lstnil => exact .lstnil
 | lst0 => simp [AV.flat] at hf
 | lst tk len cells b o cap Vs ht =>
  unfold AV.flat at hf
  split at hf <;> simp_all
  exact ht.elim
 | row => simp [AV.flat] at hf
 | map => simp [AV.flat] at hf
 | nilmap => exact .nilmap
 | fn => simp [AV.flat] at hf
 | bfn => simp [AV.flat] at hf
 | nilfn => exact .nilfn
 | iface => simp [AV.flat] at hf
 | nilif => exact .nilif
 | agg cs Vs hl hv ih => exact .agg cs Vs hl fun j c V hc hV => ih j c V hc hV (flats_mem (by simpa [AV.flat] using hf) j c hc)
 | tup cs Vs hl hv ih => exact .tup cs Vs hl fun j c V hc hV => ih j c V hc hV (flats_mem (by simpa [AV.flat] using hf) j c hc)
theorem ACall.frame {C : Ctx} {key : Nat} {args : List AV} {Q : Post} (h : ACall C key args AH.mt Q) (ha : args.all AV.flat = true) (hGT : ∀ g l, C.GT g = some l → l.all AV.flat = true) (H : AH) (K : Post) (hK : ∀ v H', Q v H' → v.flat = true ∧ K v H) : ACall C key args H K := by
 refine ⟨by obtain ⟨v, H', hq⟩ := h.1; exact ⟨v, H, (hK v H' hq).2⟩, fun f hf G w Vs hG hrel hargs => ?_⟩
 have hrel0 : Rel C.F w (Ghost.mt G.fz) AH.mt := Rel.mt hrel.fzc
 have hargs0 : VRs C.F w (Ghost.mt G.fz) args Vs := ⟨hargs.1, fun j c V hc hV => by
   rw [List.all_eq_true] at ha
   exact flat_vr (ha c (List.mem_of_getElem? hc)) (hargs.2 j c V hc hV)⟩
 have hG0 : GOK C w (Ghost.mt G.fz) := by
  intro g l hg
  have h1 := hG.1 g l hg
  have h2 := hGT g l hg
  rw [List.all_eq_true] at h2
  generalize hX : (Value.pointer (some ⟨g, 0, none⟩)) = X at h1
  generalize hY : AV.fptr l = Y at h1
  cases h1 with
  | fptr cells b o Vs h hv =>
   cases hX
   cases hY
   exact .fptr _ _ _ Vs h fun j c hj => flat_vr (h2 c (List.mem_of_getElem? hj)) (hv j c hj)
  | bot => cases hY
  | _ => cases hY
 · refine Calls.mono (h.2 f hf _ w Vs (hG.mt hG0 fun i hi => by cases hi) hrel0 hargs0) fun e w' he => ?_
   obtain ⟨V, v, H', G', rfl, hQ, hv, hr, hst⟩ := he
   obtain ⟨hfl, hKv⟩ := hK v H' hQ
   have hb := hst.below
   have hg : GLe w G w' G := ⟨Nat.le_refl _, fun _ _ => rfl, fun _ _ => rfl, fun _ _ h => h, fun b o V hf hc => by
     rw [World.cell?_of_block (w := w) (hb.block b (World.block_lt_of_cell? w _ hc))]; exact hc⟩
   refine ⟨V, v, H, G, rfl, hKv, flat_vr hfl hv, ⟨hrel.n, hrel.over, fun j => (hrel.obj j).keep hg (fun hl => hrel.idlt hl) (fun hl => hb.block _ ((hrel.obj j).lt hl)) fun _ _ hj => hj, hrel.dist, fun b o hf => ?_⟩, ?_⟩
   · obtain ⟨V, hV⟩ := hrel.fzc b o hf
     exact ⟨V, hg.cell b o V hf hV⟩
   · exact { hg with size := hst.size, os := hst.os, tape := hst.tape, output := hst.output, old := fun k hk _ => hb.block k hk, owned := fun i hi _ => ⟨i, hi, rfl⟩, fznew := fun _ _ h => .inl h }
def asciiSpace : List AV := (List.range 256).map fun i => .int .u8 (if i = 9 ∨ i = 10 ∨ i = 11 ∨ i = 12 ∨ i = 13 ∨ i = 32 then 1 else 0)
def deB64 : List Int := [0, 1, 56, 2, 57, 49, 28, 3, 61, 58, 42, 50, 38, 29, 17, 4, 62, 47, 59, 36, 45, 43, 51, 22, 53, 39, 33, 30, 24, 18, 12, 5, 63, 55, 48, 27, 60, 41, 37, 16, 46, 35, 44, 21, 52, 32, 23, 11, 54, 26, 40, 15, 34, 20, 31, 10, 25, 14, 19, 9, 13, 8, 7, 6]
def deBruijn64tab : List AV := deB64.map (AV.int .u8)
end Rb

namespace Rb
open Go
inductive TT where
 | leaf
 | node (x : AObj) (l r : TT)
def TT.get : TT → Nat → AObj
 | .leaf, _ => .gone
 | .node x l r, i => bif Nat.beq i 0 then x else bif Nat.beq (i % 2) 1 then l.get (i / 2) else r.get (i / 2 - 1)
def TT.setF (x : AObj) : Nat → TT → Nat → TT
 | 0, t, _ => t
 | f + 1, t, i => match t with
  | .leaf => bif Nat.beq i 0 then .node x .leaf .leaf else bif Nat.beq (i % 2) 1 then .node .gone (TT.setF x f .leaf (i / 2)) .leaf else .node .gone .leaf (TT.setF x f .leaf (i / 2 - 1))
  | .node a l r => bif Nat.beq i 0 then .node x l r else bif Nat.beq (i % 2) 1 then .node a (TT.setF x f l (i / 2)) r else .node a l (TT.setF x f r (i / 2 - 1))
theorem TT.get_leaf (i : Nat) : TT.get .leaf i = .gone := rfl
theorem TT.get_node (x : AObj) (l r : TT) (i : Nat) : (TT.node x l r).get i = if i = 0 then x else if i % 2 = 1 then l.get (i / 2) else r.get (i / 2 - 1) := by
 have hb : ∀ a b : Nat, Nat.beq a b = decide (a = b) := fun a b => by
  rw [Bool.eq_iff_iff]; simp
 simp only [TT.get, hb, cond_eq_ite, decide_eq_true_eq]
theorem TT.setF_get (x : AObj) : ∀ (f : Nat) (t : TT) (i j : Nat), i < f → (TT.setF x f t i).get j = if j = i then x else t.get j := by
 intro f
 induction f with
 | zero => intro t i j h; omega
 | succ f ih =>
  intro t i j h
  have hb : ∀ a b : Nat, Nat.beq a b = decide (a = b) := fun a b => by
   rw [Bool.eq_iff_iff]; simp
  have key : ∀ (a : AObj) (l r : TT), (if i = 0 then TT.node x l r else if i % 2 = 1 then .node a (TT.setF x f l (i / 2)) r else .node a l (TT.setF x f r (i / 2 - 1))).get j = if j = i then x else (TT.node a l r).get j := by
   intro a l r
   by_cases hi : i = 0
   · subst hi
     rw [if_pos rfl, TT.get_node, TT.get_node]
     by_cases hj : j = 0
     · simp [hj]
     · simp [hj]
   · rw [if_neg hi]
     by_cases ho : i % 2 = 1
     · rw [if_pos ho, TT.get_node, TT.get_node]
       rw [ih _ _ _ (by omega)]
       by_cases hj : j = 0
       · rw [if_pos hj, if_pos hj, if_neg (by omega)]
       · rw [if_neg hj, if_neg hj]
         by_cases hjo : j % 2 = 1
         · rw [if_pos hjo, if_pos hjo]
           by_cases e : j = i
           · rw [if_pos e, if_pos (by rw [e])]
           · rw [if_neg e, if_neg (by omega)]
         · rw [if_neg hjo, if_neg hjo, if_neg (by omega)]
     · rw [if_neg ho, TT.get_node, TT.get_node]
       rw [ih _ _ _ (by omega)]
       by_cases hj : j = 0
       · rw [if_pos hj, if_pos hj, if_neg (by omega)]
       · rw [if_neg hj, if_neg hj]
         by_cases hjo : j % 2 = 1
         · rw [if_pos hjo, if_pos hjo, if_neg (by omega)]
         · rw [if_neg hjo, if_neg hjo]
           by_cases e : j = i
           · rw [if_pos e, if_pos (by rw [e])]
           · rw [if_neg e, if_neg (by omega)]
  cases t with
  | leaf =>
   simp only [TT.setF, hb, cond_eq_ite, decide_eq_true_eq]
   rw [key .gone .leaf .leaf, TT.get_node, TT.get_leaf]
   simp only [TT.get_leaf, ite_self]
  | node a l r =>
   simp only [TT.setF, hb, cond_eq_ite, decide_eq_true_eq]
   exact key a l r
structure TH where
 n : Nat
 t : TT
def TH.ah (T : TH) : AH := ⟨T.n, fun i => T.t.get i⟩
def TH.set (T : TH) (i : Nat) (x : AObj) : TH := match T with | ⟨n, t⟩ => ⟨n, TT.setF x (i + 1) t i⟩
def TH.push (T : TH) (x : AObj) : TH := match T with | ⟨n, t⟩ => ⟨n + 1, TT.setF x (n + 1) t n⟩
def TH.mt : TH := ⟨0, .leaf⟩
@[simp] theorem TH.ah_n (T : TH) : T.ah.n = T.n := rfl
@[simp] theorem TH.ah_set (T : TH) (i : Nat) (x : AObj) : (T.set i x).ah = T.ah.set i x := by
 simp only [TH.ah, TH.set, AH.set]
 congr 1
 funext j
 exact TT.setF_get x _ _ _ _ (Nat.lt_succ_self _)
@[simp] theorem TH.ah_push (T : TH) (x : AObj) : (T.push x).ah = T.ah.push x := by
 simp only [TH.ah, TH.push, AH.push]
 congr 1
 funext j
 exact TT.setF_get x _ _ _ _ (Nat.lt_succ_self _)
@[simp] theorem TH.ah_mt : TH.mt.ah = AH.mt := by
 simp only [TH.ah, TH.mt, AH.mt]
 congr 1
abbrev PostB := AV → TH → Bool
abbrev CallsB := Nat → List AV → TH → PostB → Bool
def DoB {α : Type} (x : Option α) (K : α → Bool) : Bool :=
 match x with
 | some a => K a
 | none => false
def DoHB (x : Option (AV × TH)) (K : PostB) : Bool :=
 match x with
 | some (v, T) => K v T
 | none => false
def GdB (v : AV) (want : Bool) (A B : Bool) : Bool :=
 match v with
 | .bool b => bif Bool.xor b want then B else A
 | _ => false
def tstore (T : TH) (n : Nat) (x v : AV) : Option TH :=
 match x with
 | .ptr id o =>
  match T.t.get id with
  | .row cs => if v.known ∧ v.cells.length = n ∧ v.cells.all AV.scalar ∧ o + n ≤ cs.length then some (T.set id (.row (setCells cs o v.cells))) else none
  | _ => none
 | _ => none
def tbox (T : TH) (mu : Bool) (cells : List AV) : AV × TH :=
 if mu then (.ptr T.n 0, T.push (.row cells)) else (.fptr cells, T)
def tboxv (T : TH) (mu : Bool) (n : Nat) (v : AV) : Option (AV × TH) :=
 if v.known ∧ v.cells.length = n then some (tbox T mu v.cells) else none
def tbslice (T : TH) (mu : Bool) (sz len : Nat) (zero : List AV) (parts : List (Nat × Nat × AV)) : Option (AV × TH) :=
 (fillA (List.replicate len zero).flatten parts).map fun cells =>
  if mu then (.row T.n 0 len sz, T.push (.row cells)) else (.lst .full len cells, T)
def tappend (T : TH) (mu : Bool) (sz bytes : Nat) (x y : AV) : Option (AV × TH) :=
 match acells T.ah sz y with
 | none => none
 | some (m, news) =>
  if ¬ news.all AV.scalar then none else
  match x with
  | .lst tk len cells =>
   if m = 0 then some (.lst tk len cells, T)
   else if ¬ (cells.length = len * sz ∧ (len + m) * bytes ≤ 140737488355328 ∧ len + m ≤ 9223372036854775807) then none
   else match tk, mu with
   | .nil, true | .full, true => some (.row T.n 0 (len + m) sz, T.push (.row (cells ++ news)))
   | .nil, false | .full, false => some (.lst (.own T.n) (len + m) (cells ++ news), T.push (.tok ((len + m) * sz) sz))
   | .own t, _ => match T.t.get t with
    | .tok k sz' => if k = len * sz ∧ sz' = sz then some (.lst (.own T.n) (len + m) (cells ++ news), (T.set t .gone).push (.tok ((len + m) * sz) sz)) else none
    | _ => none
   | .dead, _ => none
  | .row id o len sz' =>
   match T.t.get id with
   | .row cs =>
    if m = 0 then some (.row id o len sz', T)
    else if ¬ (o = 0 ∧ sz' = sz ∧ (len + m) * bytes ≤ 140737488355328 ∧ len + m ≤ 9223372036854775807) then none
    else if (len + m) * sz ≤ cs.length then some (.row id 0 (len + m) sz, T.set id (.row (setCells cs (len * sz) news)))
    else if cs.length = len * sz then some (.row T.n 0 (len + m) sz, (T.set id .gone).push (.row (cs ++ news)))
    else none
   | _ => none
  | _ => none
def tsrange (T : TH) (x : AV) : Option (AV × TH) :=
 match x with
 | .str s => some (.ptr T.n 0, T.push (.siter s 0))
 | _ => none
def tsnext (T : TH) (x : AV) : Option (AV × TH) :=
 match x with
 | .ptr id 0 =>
  match T.t.get id with
  | .siter s pos =>
   if pos < s.length then
    let d := Utf8.decode ⟨s.toArray⟩ pos
    some (.tup [.bool true, .int .i64 pos, .int .i32 d.1], T.set id (.siter s (pos + d.2)))
   else some (.tup [.bool false], T)
  | _ => none
 | _ => none
def tmake (T : TH) (mu : Bool) (sz bytes : Nat) (zero : List AV) (len cap : AV) : Option (AV × TH) :=
 match len, cap with
 | .int .i64 n, .int .i64 c =>
  if 0 ≤ n ∧ n ≤ c ∧ bytes * c ≤ 281474976710656 ∧ c ≤ 9223372036854775807 ∧ zero.length = sz then
   if mu then some (.row T.n 0 n.toNat sz, T.push (.row (List.replicate c.toNat zero).flatten))
   else if n = c then some (.lst .full n.toNat (List.replicate n.toNat zero).flatten, T) else none
  else none
 | _, _ => none
def tcopy (T : TH) (sz : Nat) (x y : AV) : Option (AV × TH) :=
 match x, acells T.ah sz y with
 | .row id o len _, some (m, news) =>
  match T.t.get id with
  | .row cs =>
   let n := min m len
   if news.all AV.scalar ∧ o + n * sz ≤ cs.length then some (.int .i64 n, T.set id (.row (setCells cs o (news.take (n * sz))))) else none
  | _ => none
 | _, _ => none
def tmapup (T : TH) (kk : FK) (m k v : AV) : Option TH :=
 match m with
 | .map id =>
  match T.t.get id with
  | .map es => if plainKey kk k ∧ v.known then (findA kk k es 0).map fun r => (match r with
      | some (i, _) => T.set id (.map (es.set i (k, v)))
      | none => T.set id (.map (es ++ [(k, v)]))) else none
  | _ => none
 | _ => none
def tdelete (T : TH) (kk : FK) (m k : AV) : Option TH :=
 match m with
 | .map id =>
  match T.t.get id with
  | .map es => if plainKey kk k then (findA kk k es 0).map fun r => (match r with
      | some (i, _) => T.set id (.map (es.eraseIdx i))
      | none => T) else none
  | _ => none
 | _ => none
def tfreeze (T : TH) (x : AV) : Option (AV × TH) :=
 match x with
 | .row id o len sz =>
  match T.t.get id with
  | .row cs => if o + len * sz ≤ cs.length then some (.lst .dead len ((cs.drop o).take (len * sz)), T.set id .gone) else none
  | _ => none
 | .ptr id o =>
  match T.t.get id with
  | .row cs => match frzA (fun i => T.t.get i) cs with
   | some (l, id') => if id' = id then none else some (.ptr id o, (T.set id' .gone).set id (.row l))
   | none => some (.fptr (cs.drop o), T.set id .gone)
  | _ => none
 | .lst tk len cells => some (.lst tk len cells, T)
 | .fptr cs => some (.fptr cs, T)
 | .agg cells => match frzA (fun i => T.t.get i) cells with
  | some (l, id) => some (.agg l, T.set id .gone)
  | none => some (.agg cells, T)
 | _ => none
def text (T : TH) (e : Ext) (xs : List AV) : Option (AV × TH) :=
 match e, xs with
 | .tassert t, [.iface t' v] => if t' = t then some (v, T) else none
 | .ptreq neg, [.ptr i o, .ptr j p] =>
  match T.t.get i, T.t.get j with
  | .row _, .row _ => if i = j then some (.bool (if neg then !(o == p) else o == p), T) else some (.bool neg, T)
  | _, _ => none
 | .clear sz zero, [.row id o len z] =>
  if len = 0 then some (.tup [], T) else
  match T.t.get id with
  | .row cs => if zero.all AV.scalar ∧ zero.length = sz ∧ o + len * sz ≤ cs.length then some (.tup [], T.set id (.row (setCells cs o (List.replicate len zero).flatten))) else none
  | _ => none
 | .clear _ _, [.lst _ 0 _] => some (.tup [], T)
 | .grow sz bytes zero, [.lst .nil 0 [], .int .i64 n] =>
  if 0 < n ∧ n.toNat * bytes ≤ 281474976710656 ∧ n ≤ 9223372036854775807 ∧ zero.length = sz ∧ 0 < sz then some (.row T.n 0 n.toNat sz, T.push (.row (List.replicate n.toNat zero).flatten)) else none
 | .bnew t, [] => some (.ptr T.n 0, T.push (.bld t false none))
 | .bnew t, [.agg [.nilp, .lst .nil 0 []]] => some (.ptr T.n 0, T.push (.bld t false none))
 | _, _ => none
def vh (r : AV × TH) : AV × AH := (r.1, r.2.ah)
theorem text_ah (T : TH) (e : Ext) (xs : List AV) : (text T e xs).map vh = aext T.ah e xs := by
 have ho : ∀ i, T.ah.o i = T.t.get i := fun _ => rfl
 cases e with
 | stuck => cases xs <;> rfl
 | tassert t =>
  cases xs with
  | nil => rfl
  | cons x r =>
   cases r with
   | cons y r => cases x <;> rfl
   | nil =>
    cases x <;> try rfl
    simp only [text, aext]
    split <;> rfl
 | ptreq neg =>
  cases xs with
  | nil => rfl
  | cons x r =>
   cases r with
   | nil => cases x <;> rfl
   | cons y r =>
    cases r with
    | cons z r => cases x <;> cases y <;> rfl
    | nil =>
     cases x <;> cases y <;> try rfl
     simp only [text, aext, ho]
     rename_i i o j p
     cases T.t.get i <;> cases T.t.get j <;> try rfl
     dsimp only
     split <;> rfl
 | bnew t =>
  cases xs with
  | nil => simp [text, aext, vh]
  | cons x r =>
   by_cases hx : x = .agg [.nilp, .lst .nil 0 []] ∧ r = []
   · obtain ⟨rfl, rfl⟩ := hx
     simp [text, aext, vh]
   · have h1 : text T (.bnew t) (x :: r) = none := by
       unfold text
       split <;> first | rfl | (exfalso; simp_all; done) | simp_all
     have h2 : aext T.ah (.bnew t) (x :: r) = none := by
      unfold aext
      split <;> first | rfl | (exfalso; simp_all; done) | simp_all
     rw [h1, h2]; rfl
 | grow sz bytes zero =>
  cases xs with
  | nil => rfl
  | cons x r =>
   cases r with
   | nil =>
    cases x <;> try rfl
    rename_i tk len cells
    cases tk <;> cases len <;> cases cells <;> rfl
   | cons y r =>
    cases r with
    | cons z r =>
     cases x <;> try rfl
     rename_i tk len cells
     cases tk <;> cases len <;> cases cells <;> try rfl
     cases y <;> try rfl
     rename_i k n
     cases k <;> rfl
    | nil =>
     cases x <;> try rfl
     rename_i tk len cells
     cases tk <;> cases len <;> cases cells <;> try rfl
     cases y <;> try rfl
     rename_i k n
     cases k <;> try rfl
     simp only [text, aext]
     split
     · simp [vh]
     · rfl
 | clear sz zero =>
  cases xs with
  | nil => rfl
  | cons x r =>
   cases r with
   | cons y r =>
    cases x <;> try rfl
    rename_i tk len cells
    cases len <;> rfl
   | nil =>
    cases x <;> try rfl
    · rename_i tk len cells
      cases len <;> rfl
    · rename_i id o len z
      simp only [text, aext, ho]
      split
      · rfl
      · cases T.t.get id <;> try rfl
        dsimp only
        split
        · simp [vh]
        · rfl
theorem tstore_ah (T : TH) (n : Nat) (x v : AV) : (tstore T n x v).map TH.ah = astore T.ah n x v := by
 unfold tstore astore
 cases x <;> try rfl
 dsimp only
 show _ = match T.t.get _ with | .row cs => _ | _ => _
 split
 · split <;> simp
 · rfl
theorem tbox_ah (T : TH) (mu : Bool) (cells : List AV) : vh (tbox T mu cells) = abox T.ah mu cells := by
 unfold tbox abox vh
 split <;> simp
theorem tboxv_ah (T : TH) (mu : Bool) (n : Nat) (v : AV) : (tboxv T mu n v).map vh = aboxv T.ah mu n v := by
 unfold tboxv aboxv
 split
 · simp [tbox_ah]
 · rfl
theorem tbslice_ah (T : TH) (mu : Bool) (sz len : Nat) (zero : List AV) (parts : List (Nat × Nat × AV)) : (tbslice T mu sz len zero parts).map vh = abslice T.ah mu sz len zero parts := by
 unfold tbslice abslice
 rw [Option.map_map]
 congr 1
 funext cells
 simp only [Function.comp, vh]
 split <;> simp
theorem tappend_ah (T : TH) (mu : Bool) (sz bytes : Nat) (x y : AV) : (tappend T mu sz bytes x y).map vh = aappend T.ah mu sz bytes x y := by
 unfold tappend aappend
 have ho : ∀ i, T.ah.o i = T.t.get i := fun _ => rfl
 simp only [ho]
 cases hy : acells T.ah sz y with
 | none => rfl
 | some p =>
  obtain ⟨m, news⟩ := p
  dsimp only
  by_cases hs : news.all AV.scalar = true
  · simp only [hs, not_true_eq_false, if_false]
    cases x <;> try rfl
    · rename_i tk len cells
      dsimp only
      by_cases hm : m = 0
      · simp only [if_pos hm]; rfl
      · simp only [if_neg hm]
        by_cases hc : ¬ (cells.length = len * sz ∧ (len + m) * bytes ≤ 140737488355328 ∧ len + m ≤ 9223372036854775807)
        · simp only [if_pos hc]; rfl
        · simp only [if_neg hc]
          cases tk <;> cases mu <;> try (simp [vh]; done)
          all_goals
           rename_i t
           dsimp only
           cases ht : T.t.get t <;> try rfl
           dsimp only
           split <;> simp [vh]
    · rename_i id o len sz'
      dsimp only
      cases ht : T.t.get id <;> try rfl
      dsimp only
      split
      · rfl
      · split
        · rfl
        · split
          · simp [vh]
          · split <;> simp [vh]
  · simp only [hs, not_false_eq_true, if_true]; rfl
theorem tsrange_ah (T : TH) (x : AV) : (tsrange T x).map vh = asrange T.ah x := by
 unfold tsrange asrange
 cases x <;> simp [vh]
theorem tsnext_ah (T : TH) (x : AV) : (tsnext T x).map vh = asnext T.ah x := by
 have ho : ∀ i, T.ah.o i = T.t.get i := fun _ => rfl
 cases x <;> try rfl
 rename_i id off
 cases off with
 | succ k => rfl
 | zero =>
  simp only [tsnext, asnext, ho]
  cases ht : T.t.get id <;> try rfl
  dsimp only
  split <;> simp [vh]
theorem tmake_ah (T : TH) (mu : Bool) (sz bytes : Nat) (zero : List AV) (len cap : AV) : (tmake T mu sz bytes zero len cap).map vh = amake T.ah mu sz bytes zero len cap := by
 have go : ∀ n c : Int, (tmake T mu sz bytes zero (.int .i64 n) (.int .i64 c)).map vh = amake T.ah mu sz bytes zero (.int .i64 n) (.int .i64 c) := by
  intro n c
  simp only [tmake, amake]
  by_cases h : 0 ≤ n ∧ n ≤ c ∧ bytes * c ≤ 281474976710656 ∧ c ≤ 9223372036854775807 ∧ zero.length = sz
  · simp only [if_pos h]
    by_cases hm : mu = true
    · simp only [if_pos hm]; simp [vh]
    · simp only [if_neg hm]
      by_cases hn : n = c
      · simp only [if_pos hn]; rfl
      · simp only [if_neg hn]; rfl
  · simp only [if_neg h]; rfl
 cases len <;> try rfl
 rename_i k n
 cases k <;> try rfl
 cases cap <;> try rfl
 rename_i k c
 cases k <;> try rfl
 exact go n c
theorem tcopy_ah (T : TH) (sz : Nat) (x y : AV) : (tcopy T sz x y).map vh = acopy T.ah sz x y := by
 have ho : ∀ i, T.ah.o i = T.t.get i := fun _ => rfl
 unfold tcopy acopy
 cases hy : acells T.ah sz y with
 | none => cases x <;> rfl
 | some p =>
  cases x <;> try rfl
  rename_i id o len sz'
  simp only [ho]
  cases ht : T.t.get id <;> try rfl
  dsimp only
  split <;> simp [vh]
theorem tmapup_ah (T : TH) (kk : FK) (m k v : AV) : (tmapup T kk m k v).map TH.ah = amapup T.ah kk m k v := by
 have ho : ∀ i, T.ah.o i = T.t.get i := fun _ => rfl
 cases m <;> try rfl
 rename_i id
 simp only [tmapup, amapup, ho]
 cases ht : T.t.get id <;> try rfl
 rename_i es
 dsimp only
 by_cases h : plainKey kk k ∧ v.known
 · simp only [if_pos h]
   cases hf : findA kk k es 0 with
   | none => rfl
   | some r => cases r <;> simp
 · simp only [if_neg h]; rfl
theorem tdelete_ah (T : TH) (kk : FK) (m k : AV) : (tdelete T kk m k).map TH.ah = adelete T.ah kk m k := by
 have ho : ∀ i, T.ah.o i = T.t.get i := fun _ => rfl
 cases m <;> try rfl
 rename_i id
 simp only [tdelete, adelete, ho]
 cases ht : T.t.get id <;> try rfl
 rename_i es
 dsimp only
 by_cases h : plainKey kk k
 · simp only [if_pos h]
   cases hf : findA kk k es 0 with
   | none => rfl
   | some r => cases r <;> simp
 · simp only [if_neg h]; rfl
theorem tfreeze_ah (T : TH) (x : AV) : (tfreeze T x).map vh = afreeze T.ah x := by
 have ho : ∀ i, T.ah.o i = T.t.get i := fun _ => rfl
 cases x <;> try rfl
 · rename_i id o
   simp only [tfreeze, afreeze, ho]
   cases ht : T.t.get id <;> try rfl
   rename_i cs
   dsimp only
   show Option.map vh (match frzA T.ah.o cs with
     | some (l, id') => if id' = id then none else some (.ptr id o, (T.set id' .gone).set id (.row l))
     | none => some (.fptr (cs.drop o), T.set id .gone)) = _
   cases frzA T.ah.o cs with
   | none => simp [vh]
   | some q =>
    obtain ⟨l, id'⟩ := q
    dsimp only
    by_cases e : id' = id
    · rw [if_pos e, if_pos e]; rfl
    · rw [if_neg e, if_neg e]; simp [vh]
 · rename_i id o len sz
   simp only [tfreeze, afreeze, ho]
   cases ht : T.t.get id <;> try rfl
   dsimp only
   split <;> simp [vh]
 · rename_i cells
   simp only [tfreeze, afreeze]
   show Option.map vh (match frzA T.ah.o cells with | some (l, id) => some (.agg l, T.set id .gone) | none => some (.agg cells, T)) = _
   cases frzA T.ah.o cells with
   | none => rfl
   | some q => simp [vh]
end Rb

namespace Rb
open Go
noncomputable section
abbrev EV := List (Nat × AV)
def eget (E : EV) (t : Nat) : AV := List.rec (motive := fun _ => AV) .bot (fun p _ ih => cond (Nat.beq p.1 t) p.2 ih) E
def eset (n : Nat) (E : EV) (t : Nat) (v : AV) : EV := cond (Nat.blt t n) ((t, v) :: E) E
def esetd (n : Nat) (E : EV) (d : Option Nat) (v : AV) : EV :=
 match d with
 | some t => eset n E t v
 | none => E
theorem nbeq (a b : Nat) : Nat.beq a b = decide (a = b) := by rw [Bool.eq_iff_iff]; simp
theorem nblt (a b : Nat) : Nat.blt a b = decide (a < b) := by rw [Bool.eq_iff_iff]; simp [Nat.blt]; omega
theorem eget_cons (t : Nat) (v : AV) (E : EV) (i : Nat) : eget ((t, v) :: E) i = if t = i then v else eget E i := by
 show cond (Nat.beq t i) v (eget E i) = _
 rw [nbeq, cond_eq_ite]; simp
def Agree (n : Nat) (E : EV) (env : Env) : Prop := env.length = n ∧ ∀ i, eget E i = env.getD i .bot
theorem Agree.set {n : Nat} {E : EV} {env : Env} (h : Agree n E env) (t : Nat) (v : AV) : Agree n (eset n E t v) (env.set t v) := by
 refine ⟨by simp [h.1], fun i => ?_⟩
 unfold eset
 rw [nblt, cond_eq_ite]
 by_cases ht : t < n
 · rw [if_pos (by simpa using ht), eget_cons]
   rw [List.getD_eq_getElem?_getD, List.getElem?_set]
   by_cases e : t = i
   · rw [if_pos e, if_pos e, if_pos (by rw [h.1]; exact ht)]; rfl
   · rw [if_neg e, if_neg e, ← List.getD_eq_getElem?_getD]; exact h.2 i
 · rw [if_neg (by simpa using ht), List.set_eq_of_length_le (by rw [h.1]; omega)]
   exact h.2 i
theorem Agree.setd {n : Nat} {E : EV} {env : Env} (h : Agree n E env) (d : Option Nat) (v : AV) : Agree n (esetd n E d v) (Rb.setd env d v) := by
 cases d with
 | none => exact h
 | some t => exact h.set t v
def einit : List AV → Nat → EV
 | [], _ => []
 | a :: r, i => (i, a) :: einit r (i + 1)
theorem einit_get : ∀ (args : List AV) (i j : Nat), eget (einit args i) j = if j < i then .bot else args.getD (j - i) .bot
 | [], i, j => by simp [einit, eget]
 | a :: r, i, j => by
  rw [einit, eget_cons, einit_get r (i + 1) j]
  by_cases h : i = j
  · subst h; simp
  · rw [if_neg h]
    by_cases h2 : j < i
    · rw [if_pos (by omega), if_pos h2]
    · rw [if_neg (by omega), if_neg h2, show j - i = (j - (i + 1)) + 1 by omega]; simp
def Opd.sub (E : EV) : Opd → Opd
 | .t n => .k (eget E n)
 | .k v => .k v
theorem sub_ev {n : Nat} {E : EV} {env : Env} (h : Agree n E env) (x : Opd) : (x.sub E).ev [] = x.ev env := by
 cases x with
 | t i => exact h.2 i
 | k v => rfl
def AOp.sub (E : EV) : AOp → AOp
 | .mv x => .mv (x.sub E)
 | .pick c a b => .pick (c.sub E) (a.sub E) (b.sub E)
 | .bin op x y => .bin op (x.sub E) (y.sub E)
 | .beq neg x y => .beq neg (x.sub E) (y.sub E)
 | .isnil k neg x => .isnil k neg (x.sub E)
 | .eqagg neg ks x y => .eqagg neg ks (x.sub E) (y.sub E)
 | .un op x => .un op (x.sub E)
 | .conv k x => .conv k (x.sub E)
 | .same x => .same (x.sub E)
 | .nilck x => .nilck (x.sub E)
 | .field off sz agg x => .field off sz agg (x.sub E)
 | .idx l sz agg x i => .idx l sz agg (x.sub E) (i.sub E)
 | .idxs x i => .idxs (x.sub E) (i.sub E)
 | .faddr off x => .faddr off (x.sub E)
 | .iaddr arr sz x i => .iaddr arr sz (x.sub E) (i.sub E)
 | .slice sz x lo hi mx => .slice sz (x.sub E) (lo.map (Opd.sub E)) (hi.map (Opd.sub E)) (mx.map (Opd.sub E))
 | .sslice x lo hi => .sslice (x.sub E) (lo.map (Opd.sub E)) (hi.map (Opd.sub E))
 | .mkif t x => .mkif t (x.sub E)
 | .mkfn key caps => .mkfn key (caps.map (Opd.sub E))
 | .extract i x => .extract i (x.sub E)
 | .build zero parts => .build zero (parts.map fun p => (p.1, p.2.1, p.2.2.sub E))
 | .len str x => .len str (x.sub E)
 | .lenk n => .lenk n
 | .cap x => .cap (x.sub E)
 | .minmax mx xs => .minmax mx (xs.map (Opd.sub E))
 | .load n agg x => .load n agg (x.sub E)
 | .store n x v => .store n (x.sub E) (v.sub E)
 | .box mu n x => .box mu n (x.sub E)
 | .alloc mu zero => .alloc mu zero
 | .bslice mu sz l zero parts => .bslice mu sz l zero (parts.map fun p => (p.1, p.2.1, p.2.2.sub E))
 | .append mu sz bytes x y => .append mu sz bytes (x.sub E) (y.sub E)
 | .make mu sz bytes zero l c => .make mu sz bytes zero (l.sub E) (c.sub E)
 | .copy sz x y => .copy sz (x.sub E) (y.sub E)
 | .mkmap => .mkmap
 | .lookup kk zero ok m k => .lookup kk zero ok (m.sub E) (k.sub E)
 | .mapup kk m k v => .mapup kk (m.sub E) (k.sub E) (v.sub E)
 | .delete kk m k => .delete kk (m.sub E) (k.sub E)
 | .maplen m => .maplen (m.sub E)
 | .sbytes x => .sbytes (x.sub E)
 | .bstr x => .bstr (x.sub E)
 | .srange x => .srange (x.sub E)
 | .snext x => .snext (x.sub E)
 | .call key args => .call key (args.map (Opd.sub E))
 | .callv f args => .callv (f.sub E) (args.map (Opd.sub E))
 | .ext e xs => .ext e (xs.map (Opd.sub E))
 | .inv tbl x args => .inv tbl (x.sub E) (args.map (Opd.sub E))
theorem opSem_sub {n : Nat} {E : EV} {env : Env} (h : Agree n E env) {Φ : Calls'} {H : AH} {K : Post} (op : AOp) : opSem Φ [] H K (op.sub E) = opSem Φ env H K op := by
 have h1 := sub_ev h
 have hl : ∀ xs : List Opd, evs [] (xs.map (Opd.sub E)) = evs env xs := fun xs => by
  simp only [evs, List.map_map]; congr 1; funext x; exact h1 x
 have hp : ∀ xs : List (Nat × Nat × Opd), evps [] (xs.map fun p => (p.1, p.2.1, p.2.2.sub E)) = evps env xs := fun xs => by
  simp only [evps, List.map_map]; congr 1; funext x; simp [h1]
 have ho : ∀ x : Option Opd, (x.map (Opd.sub E)).map (Opd.ev []) = x.map (Opd.ev env) := fun x => by
  cases x <;> simp [h1]
 cases op <;> simp only [AOp.sub, opSem, h1, hl, hp, ho]
abbrev EPostE := EV → AH → Prop
def regE (Φ : Calls') (n : Nat) : List AOper → EV → AH → EPostE → Prop
 | [], E, H, K => K E H
 | o :: r, E, H, K =>
  match o.guard with
  | none => opSem Φ [] H (fun v H' => regE Φ n r (esetd n E o.dst v) H' K) (o.op.sub E)
  | some (s, want) =>
   Gd3 (eget E s) want (opSem Φ [] H (fun v H' => regE Φ n r (esetd n (eset n E s (.bool want)) o.dst v) H' K) (o.op.sub (eset n E s (.bool want))))
    (regE Φ n r (esetd n (eset n E s (.bool !want)) o.dst (.tup [])) H K) (regE Φ n r (esetd n (eset n E s (.tup [])) o.dst (.tup [])) H K)
theorem Gd3.imp {v : AV} {want : Bool} {A B C A' B' C' : Prop} (hA : A → A') (hB : B → B') (hC : C → C') (h : Gd3 v want A B C) : Gd3 v want A' B' C' := by
 unfold Gd3 at *
 split at h
 · split at h
   · rename_i hh; simp [hh, hA h]
   · rename_i hh; simp [hh, hB h]
 · exact hC h
 · exact h.elim
theorem regE_sound {Φ : Calls'} (hΦ : Mono Φ) {n : Nat} : ∀ {l : List AOper} {E : EV} {env : Env} {H : AH} {K : EPostE} {Q : Env → AH → Prop}, Agree n E env → regE Φ n l E H K → (∀ E' env' H', Agree n E' env' → K E' H' → Q env' H') → regSem Φ l env H Q := by
 intro l
 induction l with
 | nil => intro E env H K Q ha h hK; exact hK _ _ _ ha h
 | cons o r ih =>
  intro E env H K Q ha h hK
  simp only [regE] at h
  simp only [regSem]
  cases hg : o.guard with
  | none =>
   rw [hg] at h
   dsimp only at h ⊢
   rw [opSem_sub ha] at h
   exact opSem_mono hΦ (fun v H' h => ih (ha.setd _ _) h hK) h
  | some g =>
   obtain ⟨s, want⟩ := g
   rw [hg] at h
   dsimp only at h ⊢
   rw [ha.2 s, opSem_sub (ha.set s _)] at h
   exact Gd3.imp (opSem_mono hΦ fun v H' h => ih ((ha.set _ _).setd _ _) h hK) (fun h => ih ((ha.set _ _).setd _ _) h hK) (fun h => ih ((ha.set _ _).setd _ _) h hK) h
def oneE (Φ : Calls') (n : Nat) (o : AOper) (E : EV) (H : AH) (K : EPostE) : Prop :=
 match o.guard with
 | none => opSem Φ [] H (fun v H' => K (esetd n E o.dst v) H') (o.op.sub E)
 | some (s, want) =>
  Gd3 (eget E s) want (opSem Φ [] H (fun v H' => K (esetd n (eset n E s (.bool want)) o.dst v) H') (o.op.sub (eset n E s (.bool want))))
   (K (esetd n (eset n E s (.bool !want)) o.dst (.tup [])) H) (K (esetd n (eset n E s (.tup [])) o.dst (.tup [])) H)
theorem oneE_sound {Φ : Calls'} (hΦ : Mono Φ) {n : Nat} {o : AOper} {E : EV} {env : Env} {H : AH} {K : EPostE} {Q : Env → AH → Prop} (ha : Agree n E env) (h : oneE Φ n o E H K) (hK : ∀ E' env' H', Agree n E' env' → K E' H' → Q env' H') : oneSem Φ o env H Q := by
 unfold oneE at h
 unfold oneSem
 cases hg : o.guard with
 | none =>
  rw [hg] at h
  dsimp only at h ⊢
  rw [opSem_sub ha] at h
  exact opSem_mono hΦ (fun v H' h => hK _ _ _ (ha.setd _ _) h) h
 | some g =>
  obtain ⟨s, want⟩ := g
  rw [hg] at h
  dsimp only at h ⊢
  rw [ha.2 s, opSem_sub (ha.set s _)] at h
  exact Gd3.imp (opSem_mono hΦ fun v H' h => hK _ _ _ ((ha.set _ _).setd _ _) h) (fun h => hK _ _ _ ((ha.set _ _).setd _ _) h) (fun h => hK _ _ _ ((ha.set _ _).setd _ _) h) h
def segE (Φ : Calls') (n : Nat) (ops : List AOper) : List Nat → EV → AH → EPostE → Prop
 | [], E, H, K => K E H
 | i :: r, E, H, K => match ops[i]? with
  | some o => oneE Φ n o E H fun E' H' => segE Φ n ops r E' H' K
  | none => False
theorem segE_sound {Φ : Calls'} (hΦ : Mono Φ) {n : Nat} {ops : List AOper} : ∀ {l : List Nat} {E : EV} {env : Env} {H : AH} {K : EPostE} {Q : Env → AH → Prop}, Agree n E env → segE Φ n ops l E H K → (∀ E' env' H', Agree n E' env' → K E' H' → Q env' H') → segSem Φ ops l env H Q := by
 intro l
 induction l with
 | nil => intro E env H K Q ha h hK; exact hK _ _ _ ha h
 | cons i r ih =>
  intro E env H K Q ha h hK
  simp only [segE] at h
  simp only [segSem]
  split at h
  · rename_i o ho
    rw [ho]
    exact oneE_sound hΦ ha h fun E' env' H' ha' h' => ih ha' h' hK
  · exact h.elim
def SameE (E : EV) (H : AH) (o : AOper) : Prop :=
 match o.op with
 | .load n agg x => aload H n agg ((x.sub E).ev []) = some (eget E (o.dst.getD 0))
 | .lookup kk zero ok m k => alookup H kk zero ok ((m.sub E).ev []) ((k.sub E).ev []) = some (eget E (o.dst.getD 0))
 | .maplen m => amaplen H ((m.sub E).ev []) = some (eget E (o.dst.getD 0))
 | .bstr x => abstr H ((x.sub E).ev []) = some (eget E (o.dst.getD 0))
 | _ => True
def SameGE (E : EV) (H : AH) (o : AOper) : Prop :=
 match o.guard with
 | none => SameE E H o
 | some (s, want) => eget E s = .bool want → SameE E H o
theorem SameGE_sound {n : Nat} {E : EV} {env : Env} (ha : Agree n E env) {H : AH} {o : AOper} (h : SameGE E H o) : SameG env H o := by
 have h1 := sub_ev ha
 have fin : SameE E H o → Same env H o := by
  unfold SameE Same
  intro h
  cases ho : o.op <;> rw [ho] at h <;> dsimp only at h ⊢ <;> (try rw [h1] at h) <;> (try rw [h1] at h) <;> (try rw [ha.2] at h) <;> exact h
 unfold SameGE at h
 unfold SameG
 cases hg : o.guard with
 | none => rw [hg] at h; exact fin h
 | some g =>
  obtain ⟨s, want⟩ := g
  rw [hg] at h
  dsimp only at h ⊢
  rw [ha.2] at h
  exact fun hs => fin (h hs)
def samesE (ops : List AOper) (E : EV) (H : AH) (X : Prop) : List Nat → Prop
 | [] => X
 | l :: r => (match ops[l]? with | some o => SameGE E H o | none => True) ∧ samesE ops E H X r
theorem samesE_sound {n : Nat} {E : EV} {env : Env} (ha : Agree n E env) {ops : List AOper} {H : AH} {X Y : Prop} (hX : X → Y) : ∀ {l : List Nat}, samesE ops E H X l → sames ops env H Y l := by
 intro l
 induction l with
 | nil => intro h; exact hX h
 | cons i r ih =>
  intro h
  refine ⟨?_, ih h.2⟩
  have h1 := h.1
  cases ho : ops[i]? with
  | none => trivial
  | some o => rw [ho] at h1; exact SameGE_sound ha h1
def drawE (Φ : Calls') (n : Nat) (ops : List AOper) (last : List Nat) : List (List Nat × Nat × List Nat) → EV → AH → EPostE → Prop
 | [], E, H, K => segE Φ n ops last E H K
 | (seg, e, st) :: r, E, H, K => segE Φ n ops seg E H fun E1 H1 => match ops[e]? with
  | some o => oneE Φ n o E1 H1 fun E2 H2 => samesE ops E1 H2 (drawE Φ n ops last r E2 H2 K) st
  | none => False
theorem drawE_sound {Φ : Calls'} (hΦ : Mono Φ) {n : Nat} {ops : List AOper} {last : List Nat} : ∀ {plan : List (List Nat × Nat × List Nat)} {E : EV} {env : Env} {H : AH} {K : EPostE} {Q : Env → AH → Prop}, Agree n E env → drawE Φ n ops last plan E H K → (∀ E' env' H', Agree n E' env' → K E' H' → Q env' H') → drawSem Φ ops last plan env H Q := by
 intro plan
 induction plan with
 | nil => intro E env H K Q ha h hK; exact segE_sound hΦ ha h hK
 | cons p r ih =>
  obtain ⟨seg, e, st⟩ := p
  intro E env H K Q ha h hK
  simp only [drawE] at h
  simp only [drawSem]
  refine segE_sound hΦ ha h fun E1 e1 H1 ha1 h1 => ?_
  cases ho : ops[e]? with
  | none => rw [ho] at h1; exact h1.elim
  | some o =>
   rw [ho] at h1
   exact oneE_sound hΦ ha1 h1 fun E2 e2 H2 ha2 h2 => samesE_sound ha1 (fun h => ih ha2 h hK) h2
def egets (E : EV) (vs : List Nat) : List AV := vs.map fun t => eget E t
def ekills (n : Nat) (E : EV) : List Nat → EV
 | [] => E
 | t :: r => ekills n (eset n E t .bot) r
def eputs (n : Nat) (E : EV) : List Nat → List AV → EV
 | t :: r, s => eputs n (eset n E t (s.headD .bot)) r s.tail
 | [], _ => E
theorem Agree.gets {n : Nat} {E : EV} {env : Env} (h : Agree n E env) (vs : List Nat) : egets E vs = Rb.gets env vs := by
 simp only [egets, Rb.gets]; congr 1; funext t; exact h.2 t
theorem Agree.kills {n : Nat} : ∀ (ks : List Nat) {E : EV} {env : Env}, Agree n E env → Agree n (ekills n E ks) (Rb.kills env ks)
 | [], _, _, h => h
 | t :: r, _, _, h => Agree.kills r (h.set t _)
theorem Agree.puts {n : Nat} : ∀ (vs : List Nat) (st : List AV) {E : EV} {env : Env}, Agree n E env → Agree n (eputs n E vs st) (Rb.puts env vs st)
 | [], _, _, _, h => h
 | t :: r, st, _, _, h => Agree.puts r st.tail (h.set t _)
def codeE (Φ : Calls') (n : Nat) : ACode → EV → AH → (AExit → EV → AH → Prop) → Prop
 | .skip, E, H, Q => Q .normal E H
 | .region ops, E, H, Q => regE Φ n ops E H (Q .normal)
 | .draw ops _ plan last, E, H, Q => drawE Φ n ops last plan E H (Q .normal)
 | .seq a b, E, H, Q => codeE Φ n a E H fun e E' H' => match e with
  | .normal => codeE Φ n b E' H' Q
  | e => Q e E' H'
 | .join vs ks a b, E, H, Q => codeE Φ n a E H fun e E' H' => match e with
  | .normal => JoinP (fun st H'' => codeE Φ n b (eputs n (ekills n E ks) vs st) H'' Q) (egets E' vs) H'
  | e => Q e E' H'
 | .cond x a b, E, H, Q => Gd ((x.sub E).ev []) true (codeE Φ n a E H Q) (codeE Φ n b E H Q)
 | .block id a, E, H, Q => codeE Φ n a E H fun e E' H' => match e with
  | .exit id' => if id' = id then Q .normal E' H' else Q (.exit id') E' H'
  | e => Q e E' H'
 | .loop vs ks a, E, H, Q =>
  LoopP (fun (s : List AV × AH) (K : List AV × AH → Prop) =>
    codeE Φ n a (eputs n (ekills n E ks) vs s.1) s.2 fun e E' H' => match e with
     | .normal => K (egets E' vs, H')
     | e => Q e E' H') (egets E vs, H)
 | .exit id, E, H, Q => Q (.exit id) E H
 | .ret, E, H, Q => Q .ret E H
 | .freeze t a, E, H, Q => DoH (afreeze H (eget E t)) fun v H' => codeE Φ n a (eset n E t v) H' Q
 | .rjoin vs ks ops b, E, H, Q => regE Φ n ops E H fun E' H' => JoinP (fun st H'' => codeE Φ n b (eputs n (ekills n E ks) vs st) H'' Q) (egets E' vs) H'
theorem LoopP.imp {σ : Type} {F F' : σ → (σ → Prop) → Prop} (hF : ∀ s K, F s K → F' s K) {s : σ} (h : LoopP F s) : LoopP F' s :=
 fun I hI => h I fun s K hs hK => hI s K (hF s K hs) hK
theorem codeE_sound {Φ : Calls'} (hΦ : Mono Φ) {n : Nat} : ∀ {c : ACode} {E : EV} {env : Env} {H : AH} {K : AExit → EV → AH → Prop} {Q : AExit → Env → AH → Prop}, Agree n E env → codeE Φ n c E H K → (∀ x E' env' H', Agree n E' env' → K x E' H' → Q x env' H') → codeSem Φ c env H Q := by
 intro c
 induction c with
 | skip => intro E env H K Q ha h hK; exact hK _ _ _ _ ha h
 | region ops => intro E env H K Q ha h hK; exact regE_sound hΦ ha h fun _ _ _ ha h => hK _ _ _ _ ha h
 | draw ops pr plan last => intro E env H K Q ha h hK; exact drawE_sound hΦ ha h fun _ _ _ ha h => hK _ _ _ _ ha h
 | seq a b iha ihb =>
  intro E env H K Q ha h hK
  simp only [codeE] at h
  simp only [codeSem]
  refine iha ha h fun x E' e' H' ha' h' => ?_
  cases x with
  | normal => exact ihb ha' h' hK
  | exit i => exact hK _ _ _ _ ha' h'
  | ret => exact hK _ _ _ _ ha' h'
 | join vs ks a b iha ihb =>
  intro E env H K Q ha h hK
  simp only [codeE] at h
  simp only [codeSem]
  refine iha ha h fun x E' e' H' ha' h' => ?_
  cases x with
  | normal =>
   dsimp only at h' ⊢
   rw [ha'.gets vs] at h'
   exact ihb ((ha.kills ks).puts vs _) h' hK
  | exit i => exact hK _ _ _ _ ha' h'
  | ret => exact hK _ _ _ _ ha' h'
 | cond x a b iha ihb =>
  intro E env H K Q ha h hK
  simp only [codeE, sub_ev ha] at h
  exact Gd.mono (fun h => iha ha h hK) (fun h => ihb ha h hK) h
 | block id a ih =>
  intro E env H K Q ha h hK
  simp only [codeE] at h
  simp only [codeSem]
  refine ih ha h fun x E' e' H' ha' h' => ?_
  cases x with
  | normal => exact hK _ _ _ _ ha' h'
  | exit i =>
   dsimp only at h' ⊢
   split
   · rename_i hi; rw [if_pos hi] at h'; exact hK _ _ _ _ ha' h'
   · rename_i hi; rw [if_neg hi] at h'; exact hK _ _ _ _ ha' h'
  | ret => exact hK _ _ _ _ ha' h'
 | loop vs ks a ih =>
  intro E env H K Q ha h hK
  simp only [codeE] at h
  simp only [codeSem]
  rw [ha.gets vs] at h
  refine LoopP.imp (fun s K' hs => ih ((ha.kills ks).puts vs s.1) hs fun x E' e' H' ha' h' => ?_) h
  cases x with
  | normal => dsimp only at h' ⊢; rw [← ha'.gets vs]; exact h'
  | exit i => exact hK _ _ _ _ ha' h'
  | ret => exact hK _ _ _ _ ha' h'
 | exit id => intro E env H K Q ha h hK; exact hK _ _ _ _ ha h
 | ret => intro E env H K Q ha h hK; exact hK _ _ _ _ ha h
 | freeze t a ih =>
  intro E env H K Q ha h hK
  simp only [codeE] at h
  simp only [codeSem]
  rw [ha.2 t] at h
  exact DoH.mono (fun v H' h' => ih (ha.set t v) h' hK) h
 | rjoin vs ks ops b ih =>
  intro E env H K Q ha h hK
  simp only [codeE] at h
  simp only [codeSem]
  refine regE_sound hΦ ha h fun E' e' H' ha' h' => ?_
  rw [ha'.gets vs] at h'
  exact ih ((ha.kills ks).puts vs _) h' hK
def resE (E : EV) (H : AH) : List ARes → (List AV → Prop) → Prop
 | [], K => K []
 | .tmp t :: r, K => resE E H r fun vs => K (eget E t :: vs)
 | .cell t n agg :: r, K => Do (aload H n agg (eget E t)) fun v => resE E H r fun vs => K (v :: vs)
theorem resE_eq {n : Nat} {E : EV} {env : Env} (ha : Agree n E env) {H : AH} : ∀ {rs : List ARes} {K : List AV → Prop}, resE E H rs K = resSem env H rs K := by
 intro rs
 induction rs with
 | nil => intro K; rfl
 | cons r rs ih =>
  intro K
  cases r with
  | tmp t => simp only [resE, resSem, ih, ha.2]
  | cell t n agg => simp only [resE, resSem, ih, ha.2]
def fnE1 (Φ : Calls') (f : AFunc) (args : List AV) (H : AH) (Q : Post) : Prop :=
 codeE Φ f.ntmps f.body (einit args 0) H fun e E H' => match e with
  | .exit _ => False
  | _ => resE E H' f.results fun vs => Q (oneRes vs) H'
def fnE (Φ : Calls') (f : AFunc) (args : List AV) (H : AH) (Q : Post) : Prop := args.length ≤ f.ntmps ∧ fnE1 Φ f args H Q
theorem fnE_sound {Φ : Calls'} (hΦ : Mono Φ) {f : AFunc} {args : List AV} {H : AH} {Q : Post} (h : fnE Φ f args H Q) : fnSem Φ f args H Q := by
 have ha : Agree f.ntmps (einit args 0) (args ++ List.replicate (f.ntmps - args.length) .bot) := by
  refine ⟨by simp; have := h.1; omega, fun i => ?_⟩
  rw [einit_get]
  simp only [Nat.not_lt_zero, if_false, Nat.sub_zero]
  simp only [List.getD_eq_getElem?_getD]
  by_cases hi : i < args.length
  · rw [List.getElem?_append_left hi]
  · rw [List.getElem?_append_right (by omega), List.getElem?_eq_none (by omega), List.getElem?_replicate]
    split <;> rfl
 refine codeE_sound hΦ ha h.2 fun x E' e' H' ha' h' => ?_
 cases x with
 | normal => dsimp only at h' ⊢; rw [resE_eq ha'] at h'; exact h'
 | exit i => exact h'
 | ret => dsimp only at h' ⊢; rw [resE_eq ha'] at h'; exact h'
end
end Rb

namespace Rb
open Go
def clB (Φ : CallsB) (f : AV) (args : List AV) (T : TH) (K : PostB) : Bool :=
 match f with
 | .fn key caps => Φ (fkey key) (fargs key args caps) T K
 | _ => false
def invB (Φ : CallsB) (tbl : List (TypeId × Nat × Option (Nat × Bool))) (x : AV) (args : List AV) (T : TH) (K : PostB) : Bool :=
 match x with
 | .iface t v => (match findI tbl t with
   | some r => (match invR T.ah r.2 v with
     | some u => Φ r.1 (u :: args) T K
     | none => false)
   | none => false)
 | _ => false
def opB (Φ : CallsB) (env : Env) (T : TH) (K : PostB) : AOp → Bool
 | .mv x => K (x.ev env) T
 | .pick c a b => GdB (c.ev env) true (K (a.ev env) T) (K (b.ev env) T)
 | .bin op x y => DoB (abin op (x.ev env) (y.ev env)) fun v => K v T
 | .beq neg x y => DoB (abeq neg (x.ev env) (y.ev env)) fun v => K v T
 | .isnil k neg x => DoB (anil k neg (x.ev env)) fun v => K v T
 | .eqagg neg ks x y => DoB (aeqAgg neg ks (x.ev env) (y.ev env)) fun v => K v T
 | .un op x => DoB (aun op (x.ev env)) fun v => K v T
 | .conv k x => DoB (aconv k (x.ev env)) fun v => K v T
 | .same x => DoB (asame (x.ev env)) fun v => K v T
 | .nilck x => DoB (anilck (x.ev env)) fun v => K v T
 | .field off sz agg x => DoB (afield off sz agg (x.ev env)) fun v => K v T
 | .idx len sz agg x i => DoB (aidx len sz agg (x.ev env) (i.ev env)) fun v => K v T
 | .idxs x i => DoB (aidxs (x.ev env) (i.ev env)) fun v => K v T
 | .faddr off x => DoB (afaddr off (x.ev env)) fun v => K v T
 | .iaddr arr sz x i => DoB (aiaddr arr sz (x.ev env) (i.ev env)) fun v => K v T
 | .slice sz x lo hi mx => DoB (aslice sz (x.ev env) (lo.map (Opd.ev env)) (hi.map (Opd.ev env)) (mx.map (Opd.ev env))) fun v => K v T
 | .sslice x lo hi => DoB (asslice (x.ev env) (lo.map (Opd.ev env)) (hi.map (Opd.ev env))) fun v => K v T
 | .mkif t x => K (.iface t (x.ev env)) T
 | .mkfn key caps => K (.fn key (evs env caps)) T
 | .extract i x => DoB (aextract i (x.ev env)) fun v => K v T
 | .build zero parts => DoB (abuild zero (evps env parts)) fun v => K v T
 | .len str x => DoB (alen str (x.ev env)) fun v => K v T
 | .lenk n => K (.int .i64 n) T
 | .cap x => DoB (acap (x.ev env)) fun v => K v T
 | .minmax mx xs => DoB (aminmax mx (evs env xs)) fun v => K v T
 | .load n agg x => DoB (aload T.ah n agg (x.ev env)) fun v => K v T
 | .store n x v => DoB (tstore T n (x.ev env) (v.ev env)) fun T => K (.tup []) T
 | .box mu n x => DoHB (tboxv T mu n (x.ev env)) K
 | .alloc mu zero => DoHB (some (tbox T mu zero)) K
 | .bslice mu sz len zero parts => DoHB (tbslice T mu sz len zero (evps env parts)) K
 | .append mu sz bytes x y => DoHB (tappend T mu sz bytes (x.ev env) (y.ev env)) K
 | .make mu sz bytes zero len cap => DoHB (tmake T mu sz bytes zero (len.ev env) (cap.ev env)) K
 | .copy sz x y => DoHB (tcopy T sz (x.ev env) (y.ev env)) K
 | .mkmap => K (.map T.n) (T.push (.map []))
 | .lookup kk zero ok m k => DoB (alookup T.ah kk zero ok (m.ev env) (k.ev env)) fun v => K v T
 | .mapup kk m k v => DoB (tmapup T kk (m.ev env) (k.ev env) (v.ev env)) fun T => K (.tup []) T
 | .delete kk m k => DoB (tdelete T kk (m.ev env) (k.ev env)) fun T => K (.tup []) T
 | .maplen m => DoB (amaplen T.ah (m.ev env)) fun v => K v T
 | .sbytes x => DoB (asbytes (x.ev env)) fun v => K v T
 | .bstr x => DoB (abstr T.ah (x.ev env)) fun v => K v T
 | .srange x => DoHB (tsrange T (x.ev env)) K
 | .snext x => DoHB (tsnext T (x.ev env)) K
 | .call key args => Φ key (evs env args) T K
 | .callv f args => clB Φ (f.ev env) (evs env args) T K
 | .ext e xs => DoHB (text T e (evs env xs)) K
 | .inv tbl x args => invB Φ tbl (x.ev env) (evs env args) T K
def SoundB (Φ : Calls') (B : CallsB) : Prop := ∀ k args T (K : PostB), B k args T K = true → ∀ Q : Post, (∀ v T', K v T' = true → Q v T'.ah) → Φ k args T.ah Q
theorem DoB_sound {α : Type} {x : Option α} {K : α → Bool} {P : α → Prop} (h : DoB x K = true) (hK : ∀ a, K a = true → P a) : Do x P := by
 cases x with
 | none => cases h
 | some a => exact ⟨a, rfl, hK a h⟩
theorem DoHB_sound {x : Option (AV × TH)} {y : Option (AV × AH)} {K : PostB} {Q : Post} (hx : x.map vh = y) (h : DoHB x K = true) (hK : ∀ v T', K v T' = true → Q v T'.ah) : DoH y Q := by
 cases x with
 | none => cases h
 | some a => subst hx; exact ⟨a.1, a.2.ah, rfl, hK _ _ h⟩
theorem DoB_ah {x : Option TH} {y : Option AH} {K : TH → Bool} {P : AH → Prop} (hx : x.map TH.ah = y) (h : DoB x K = true) (hK : ∀ T', K T' = true → P T'.ah) : Do y P := by
 cases x with
 | none => cases h
 | some a => subst hx; exact ⟨a.ah, rfl, hK _ h⟩
theorem GdB_sound {v : AV} {want : Bool} {A B : Bool} {P Q : Prop} (h : GdB v want A B = true) (hA : A = true → P) (hB : B = true → Q) : Gd v want P Q := by
 cases v <;> first | cases h | skip
 rename_i b
 simp only [GdB] at h
 unfold Gd
 dsimp only
 split
 · rename_i e; subst e; simp at h; exact hA h
 · rename_i e
   have : (b ^^ want) = true := by cases b <;> cases want <;> simp_all
   rw [this] at h
   exact hB h
theorem opB_sound {Φ : Calls'} {B : CallsB} (hB : SoundB Φ B) {env : Env} {T : TH} {K : PostB} {op : AOp} (h : opB B env T K op = true) {Q : Post} (hK : ∀ v T', K v T' = true → Q v T'.ah) : opSem Φ env T.ah Q op := by
 cases op with
 | mv => exact hK _ _ h
 | pick => exact GdB_sound h (hK _ _) (hK _ _)
 | mkif => exact hK _ _ h
 | mkfn => exact hK _ _ h
 | lenk => exact hK _ _ h
 | store => exact DoB_ah (tstore_ah _ _ _ _) h fun _ h => hK _ _ h
 | mapup => exact DoB_ah (tmapup_ah _ _ _ _ _) h fun _ h => hK _ _ h
 | delete => exact DoB_ah (tdelete_ah _ _ _ _) h fun _ h => hK _ _ h
 | box => exact DoHB_sound (tboxv_ah _ _ _ _) h hK
 | alloc mu zero => exact DoHB_sound (x := some (tbox T mu zero)) (by simp only [Option.map_some, tbox_ah]) h hK
 | bslice => exact DoHB_sound (tbslice_ah _ _ _ _ _ _) h hK
 | append => exact DoHB_sound (tappend_ah _ _ _ _ _ _) h hK
 | make => exact DoHB_sound (tmake_ah _ _ _ _ _ _ _) h hK
 | copy => exact DoHB_sound (tcopy_ah _ _ _ _) h hK
 | mkmap => have := hK _ _ h; rw [TH.ah_push] at this; exact this
 | srange => exact DoHB_sound (tsrange_ah _ _) h hK
 | snext => exact DoHB_sound (tsnext_ah _ _) h hK
 | call key args => exact hB _ _ _ _ h _ hK
 | callv f args =>
  simp only [opB, clB] at h
  split at h
  · rename_i key caps hf
    exact ⟨key, caps, hf, hB _ _ _ _ h _ hK⟩
  · cases h
 | ext => exact DoHB_sound (text_ah _ _ _) h hK
 | inv tbl x args =>
  simp only [opB, invB] at h
  split at h
  · rename_i t v hx
    split at h
    · rename_i r hr
      split at h
      · rename_i u hu
        exact ⟨t, v, r, u, hx, hr, hu, hB _ _ _ _ h _ hK⟩
      · cases h
    · cases h
  · cases h
 | _ => exact DoB_sound h fun _ h => hK _ _ h
def Gd3B (v : AV) (want : Bool) (A B C : Bool) : Bool :=
 match v with
 | .bool b => bif Bool.xor b want then B else A
 | .tup [] => C
 | _ => false
theorem Gd3B_sound {v : AV} {want : Bool} {A B C : Bool} {P Q R : Prop} (h : Gd3B v want A B C = true) (hA : A = true → P) (hB : B = true → Q) (hC : C = true → R) : Gd3 v want P Q R := by
 unfold Gd3B at h
 unfold Gd3
 split at h
 · rename_i b
   dsimp only
   split
   · rename_i e; subst e; simp at h; exact hA h
   · rename_i e
     have : (b ^^ want) = true := by cases b <;> cases want <;> simp_all
     rw [this] at h
     exact hB h
 · exact hC h
 · cases h
noncomputable section
def regB (Φ : CallsB) (n : Nat) : List AOper → EV → TH → (EV → TH → Bool) → Bool
 | [], E, T, K => K E T
 | o :: r, E, T, K =>
  match o.guard with
  | none => opB Φ [] T (fun v T' => regB Φ n r (esetd n E o.dst v) T' K) (o.op.sub E)
  | some (s, want) =>
   Gd3B (eget E s) want (opB Φ [] T (fun v T' => regB Φ n r (esetd n (eset n E s (.bool want)) o.dst v) T' K) (o.op.sub (eset n E s (.bool want))))
    (regB Φ n r (esetd n (eset n E s (.bool !want)) o.dst (.tup [])) T K) (regB Φ n r (esetd n (eset n E s (.tup [])) o.dst (.tup [])) T K)
theorem regB_sound {Φ : Calls'} {B : CallsB} (hB : SoundB Φ B) {n : Nat} : ∀ {l : List AOper} {E : EV} {T : TH} {K : EV → TH → Bool} {Q : EPostE}, regB B n l E T K = true → (∀ e T', K e T' = true → Q e T'.ah) → regE Φ n l E T.ah Q := by
 intro l
 induction l with
 | nil => intro E T K Q h hK; exact hK _ _ h
 | cons o r ih =>
  intro E T K Q h hK
  simp only [regB] at h
  simp only [regE]
  cases hg : o.guard with
  | none =>
   rw [hg] at h
   exact opB_sound hB h (Q := fun v H' => regE Φ n r (esetd n E o.dst v) H' Q) fun v T' h' => ih h' hK
  | some g =>
   obtain ⟨s, want⟩ := g
   rw [hg] at h
   exact Gd3B_sound h (fun h => opB_sound hB h (Q := fun v H' => regE Φ n r (esetd n (eset n E s (.bool want)) o.dst v) H' Q) fun v T' h' => ih h' hK) (fun h => ih h hK) fun h => ih h hK
def oneB (Φ : CallsB) (n : Nat) (o : AOper) (E : EV) (T : TH) (K : EV → TH → Bool) : Bool :=
 match o.guard with
 | none => opB Φ [] T (fun v T' => K (esetd n E o.dst v) T') (o.op.sub E)
 | some (s, want) =>
  Gd3B (eget E s) want (opB Φ [] T (fun v T' => K (esetd n (eset n E s (.bool want)) o.dst v) T') (o.op.sub (eset n E s (.bool want))))
   (K (esetd n (eset n E s (.bool !want)) o.dst (.tup [])) T) (K (esetd n (eset n E s (.tup [])) o.dst (.tup [])) T)
theorem oneB_sound {Φ : Calls'} {B : CallsB} (hB : SoundB Φ B) {n : Nat} {o : AOper} {E : EV} {T : TH} {K : EV → TH → Bool} {Q : EPostE} (h : oneB B n o E T K = true) (hK : ∀ e T', K e T' = true → Q e T'.ah) : oneE Φ n o E T.ah Q := by
 unfold oneB at h
 unfold oneE
 cases hg : o.guard with
 | none =>
  rw [hg] at h
  exact opB_sound hB h (Q := fun v H' => Q (esetd n E o.dst v) H') fun v T' h' => hK _ _ h'
 | some g =>
  obtain ⟨s, want⟩ := g
  rw [hg] at h
  exact Gd3B_sound h (fun h => opB_sound hB h (Q := fun v H' => Q (esetd n (eset n E s (.bool want)) o.dst v) H') fun v T' h' => hK _ _ h') (fun h => hK _ _ h) fun h => hK _ _ h
def segB (Φ : CallsB) (n : Nat) (ops : List AOper) : List Nat → EV → TH → (EV → TH → Bool) → Bool
 | [], E, T, K => K E T
 | i :: r, E, T, K => match ops[i]? with
  | some o => oneB Φ n o E T fun E' T' => segB Φ n ops r E' T' K
  | none => false
theorem segB_sound {Φ : Calls'} {B : CallsB} (hB : SoundB Φ B) {n : Nat} {ops : List AOper} : ∀ {l : List Nat} {E : EV} {T : TH} {K : EV → TH → Bool} {Q : EPostE}, segB B n ops l E T K = true → (∀ e T', K e T' = true → Q e T'.ah) → segE Φ n ops l E T.ah Q := by
 intro l
 induction l with
 | nil => intro E T K Q h hK; exact hK _ _ h
 | cons i r ih =>
  intro E T K Q h hK
  simp only [segB] at h
  simp only [segE]
  cases ho : ops[i]? with
  | none => rw [ho] at h; cases h
  | some o =>
   rw [ho] at h
   exact oneB_sound hB h (Q := fun e H' => segE Φ n ops r e H' Q) fun e T' h' => ih h' hK
def sameV (x : Option AV) (d : AV) : Bool :=
 match x with
 | some v => v.same d
 | none => false
def sameW (g : AV) (want : Bool) (X : Bool) : Bool :=
 match g with
 | .bool b => bif Bool.xor b want then true else X
 | _ => true
def readB (T : TH) (E : EV) (o : AOper) : Bool :=
 match o.op with
 | .load n agg x => sameV (aload T.ah n agg ((x.sub E).ev [])) (eget E (o.dst.getD 0))
 | .lookup kk zero ok m k => sameV (alookup T.ah kk zero ok ((m.sub E).ev []) ((k.sub E).ev [])) (eget E (o.dst.getD 0))
 | .maplen m => sameV (amaplen T.ah ((m.sub E).ev [])) (eget E (o.dst.getD 0))
 | .bstr x => sameV (abstr T.ah ((x.sub E).ev [])) (eget E (o.dst.getD 0))
 | _ => true
theorem sameV_sound {x : Option AV} {d : AV} (h : sameV x d = true) : x = some d := by
 unfold sameV at h
 split at h
 · rw [AV.same_sound _ _ h]
 · cases h
theorem readB_sound {T : TH} {E : EV} {o : AOper} (h : readB T E o = true) : SameE E T.ah o := by
 unfold readB at h
 unfold SameE
 cases ho : o.op <;> rw [ho] at h <;> first | trivial | exact sameV_sound h
def sameGB (T : TH) (E : EV) (o : AOper) : Bool :=
 match o.guard with
 | none => readB T E o
 | some (s, want) => sameW (eget E s) want (readB T E o)
theorem sameGB_sound {T : TH} {E : EV} {o : AOper} (h : sameGB T E o = true) : SameGE E T.ah o := by
 unfold sameGB at h
 unfold SameGE
 cases hg : o.guard with
 | none => rw [hg] at h; exact readB_sound h
 | some g =>
  obtain ⟨s, want⟩ := g
  rw [hg] at h
  dsimp only at h ⊢
  intro hs
  rw [hs] at h
  simp only [sameW, Bool.xor_self, cond_false] at h
  exact readB_sound h
def samesT (ops : List AOper) (E : EV) (T : TH) (X : Bool) : List Nat → Bool
 | [] => X
 | l :: r => (match ops[l]? with | some o => sameGB T E o | none => true) && samesT ops E T X r
theorem samesT_sound {ops : List AOper} {E : EV} {T : TH} {X : Bool} {P : Prop} (hX : X = true → P) : ∀ {l : List Nat}, samesT ops E T X l = true → samesE ops E T.ah P l := by
 intro l
 induction l with
 | nil => intro h; exact hX h
 | cons i r ih =>
  intro h
  simp only [samesT, Bool.and_eq_true] at h
  refine ⟨?_, ih h.2⟩
  have h1 := h.1
  cases ho : ops[i]? with
  | none => trivial
  | some o => rw [ho] at h1; exact sameGB_sound h1
def drawB (Φ : CallsB) (n : Nat) (ops : List AOper) (last : List Nat) : List (List Nat × Nat × List Nat) → EV → TH → (EV → TH → Bool) → Bool
 | [], E, T, K => segB Φ n ops last E T K
 | (seg, e, st) :: r, E, T, K => segB Φ n ops seg E T fun E1 T1 => match ops[e]? with
  | some o => oneB Φ n o E1 T1 fun E2 T2 => samesT ops E1 T2 (drawB Φ n ops last r E2 T2 K) st
  | none => false
theorem drawB_sound {Φ : Calls'} {B : CallsB} (hB : SoundB Φ B) {n : Nat} {ops : List AOper} {last : List Nat} : ∀ {plan : List (List Nat × Nat × List Nat)} {E : EV} {T : TH} {K : EV → TH → Bool} {Q : EPostE}, drawB B n ops last plan E T K = true → (∀ e T', K e T' = true → Q e T'.ah) → drawE Φ n ops last plan E T.ah Q := by
 intro plan
 induction plan with
 | nil => intro E T K Q h hK; exact segB_sound hB h hK
 | cons p r ih =>
  obtain ⟨seg, e, st⟩ := p
  intro E T K Q h hK
  simp only [drawB] at h
  simp only [drawE]
  refine segB_sound hB h fun e1 T1 h1 => ?_
  cases ho : ops[e]? with
  | none => rw [ho] at h1; cases h1
  | some o =>
   rw [ho] at h1
   exact oneB_sound hB h1 fun e2 T2 h2 => samesT_sound (fun h => ih h hK) h2
def LoopB {σ : Type} (F : σ → (σ → Bool) → Bool) (n : Nat) : σ → Bool := Nat.rec (motive := fun _ => σ → Bool) (fun _ => false) (fun _ ih s => F s ih) n
def JoinB (K : List AV → TH → Bool) (st : List AV) (T : TH) : Bool := K st T
def codeB (Φ : CallsB) (fuel : Nat) (n : Nat) : ACode → EV → TH → (AExit → EV → TH → Bool) → Bool
 | .skip, E, T, Q => Q .normal E T
 | .region ops, E, T, Q => regB Φ n ops E T (Q .normal)
 | .draw ops _ plan last, E, T, Q => drawB Φ n ops last plan E T (Q .normal)
 | .seq a b, E, T, Q => codeB Φ fuel n a E T fun e E' T' => match e with
  | .normal => codeB Φ fuel n b E' T' Q
  | e => Q e E' T'
 | .join vs ks a b, E, T, Q => codeB Φ fuel n a E T fun e E' T' => match e with
  | .normal => JoinB (fun st T'' => codeB Φ fuel n b (eputs n (ekills n E ks) vs st) T'' Q) (egets E' vs) T'
  | e => Q e E' T'
 | .cond x a b, E, T, Q => GdB ((x.sub E).ev []) true (codeB Φ fuel n a E T Q) (codeB Φ fuel n b E T Q)
 | .block id a, E, T, Q => codeB Φ fuel n a E T fun e E' T' => match e with
  | .exit id' => if id' = id then Q .normal E' T' else Q (.exit id') E' T'
  | e => Q e E' T'
 | .loop vs ks a, E, T, Q =>
  LoopB (fun (s : List AV × TH) (K : List AV × TH → Bool) =>
    codeB Φ fuel n a (eputs n (ekills n E ks) vs s.1) s.2 fun e E' T' => match e with
     | .normal => K (egets E' vs, T')
     | e => Q e E' T') fuel (egets E vs, T)
 | .exit id, E, T, Q => Q (.exit id) E T
 | .ret, E, T, Q => Q .ret E T
 | .freeze t a, E, T, Q => DoHB (tfreeze T (eget E t)) fun v T' => codeB Φ fuel n a (eset n E t v) T' Q
 | .rjoin vs ks ops b, E, T, Q => regB Φ n ops E T fun E' T' => JoinB (fun st T'' => codeB Φ fuel n b (eputs n (ekills n E ks) vs st) T'' Q) (egets E' vs) T'
theorem codeB_sound {Φ : Calls'} {B : CallsB} (hB : SoundB Φ B) {fuel : Nat} {n : Nat} : ∀ {c : ACode} {E : EV} {T : TH} {K : AExit → EV → TH → Bool} {Q : AExit → EV → AH → Prop}, codeB B fuel n c E T K = true → (∀ x e T', K x e T' = true → Q x e T'.ah) → codeE Φ n c E T.ah Q := by
 intro c
 induction c with
 | skip => intro E T K Q h hK; exact hK _ _ _ h
 | region ops => intro E T K Q h hK; exact regB_sound hB h fun _ _ h => hK _ _ _ h
 | draw ops pr plan last => intro E T K Q h hK; exact drawB_sound hB h fun _ _ h => hK _ _ _ h
 | seq a b iha ihb =>
  intro E T K Q h hK
  simp only [codeB] at h
  simp only [codeE]
  refine iha h fun x e T' h' => ?_
  cases x with
  | normal => exact ihb h' hK
  | exit i => exact hK _ _ _ h'
  | ret => exact hK _ _ _ h'
 | join vs ks a b iha ihb =>
  intro E T K Q h hK
  simp only [codeB] at h
  simp only [codeE]
  refine iha h fun x e T' h' => ?_
  cases x with
  | normal => exact ihb h' hK
  | exit i => exact hK _ _ _ h'
  | ret => exact hK _ _ _ h'
 | cond x a b iha ihb =>
  intro E T K Q h hK
  exact GdB_sound h (fun h => iha h hK) fun h => ihb h hK
 | block id a ih =>
  intro E T K Q h hK
  simp only [codeB] at h
  simp only [codeE]
  refine ih h fun x e T' h' => ?_
  cases x with
  | normal => exact hK _ _ _ h'
  | exit i =>
   dsimp only at h' ⊢
   split
   · rename_i hi; rw [if_pos hi] at h'; exact hK _ _ _ h'
   · rename_i hi; rw [if_neg hi] at h'; exact hK _ _ _ h'
  | ret => exact hK _ _ _ h'
 | loop vs ks a ih =>
  intro E T K Q h hK
  simp only [codeB] at h
  simp only [codeE]
  have main : ∀ (m : Nat) (s : List AV × TH), LoopB (fun (s : List AV × TH) (K' : List AV × TH → Bool) =>
        codeB B fuel n a (eputs n (ekills n E ks) vs s.1) s.2 fun e E' T' => match e with
         | .normal => K' (egets E' vs, T')
         | e => K e E' T') m s = true →
      LoopP (fun (s : List AV × AH) (K : List AV × AH → Prop) =>
        codeE Φ n a (eputs n (ekills n E ks) vs s.1) s.2 fun e E' H' => match e with
         | .normal => K (egets E' vs, H')
         | e => Q e E' H') (s.1, s.2.ah) := by
    intro m
    induction m with
    | zero => intro s h; cases h
    | succ m ihn =>
     intro s h
     refine LoopP.step ?_
     refine ih (K := fun e E' T' => match e with
         | .normal => LoopB (fun (s : List AV × TH) (K' : List AV × TH → Bool) =>
           codeB B fuel n a (eputs n (ekills n E ks) vs s.1) s.2 fun e E' T' => match e with
            | .normal => K' (egets E' vs, T')
            | e => K e E' T') m (egets E' vs, T')
         | e => K e E' T') h fun x e T' h' => ?_
     cases x with
     | normal => exact ihn _ h'
     | exit i => exact hK _ _ _ h'
     | ret => exact hK _ _ _ h'
  exact main fuel _ h
 | exit id => intro E T K Q h hK; exact hK _ _ _ h
 | ret => intro E T K Q h hK; exact hK _ _ _ h
 | freeze t a ih =>
  intro E T K Q h hK
  exact DoHB_sound (tfreeze_ah _ _) h fun v T' h' => ih h' hK
 | rjoin vs ks ops b ih =>
  intro E T K Q h hK
  exact regB_sound hB h (Q := fun E' H' => JoinP (fun st H'' => codeE Φ n b (eputs n (ekills n E ks) vs st) H'' Q) (egets E' vs) H') fun e T' h' => ih h' hK
def resB (E : EV) (T : TH) : List ARes → (List AV → Bool) → Bool
 | [], K => K []
 | .tmp t :: r, K => resB E T r fun vs => K (eget E t :: vs)
 | .cell t n agg :: r, K => DoB (aload T.ah n agg (eget E t)) fun v => resB E T r fun vs => K (v :: vs)
theorem resB_sound {E : EV} {T : TH} : ∀ {rs : List ARes} {K : List AV → Bool} {P : List AV → Prop}, resB E T rs K = true → (∀ vs, K vs = true → P vs) → resE E T.ah rs P := by
 intro rs
 induction rs with
 | nil => intro K P h hK; exact hK _ h
 | cons r rs ih =>
  intro K P h hK
  cases r with
  | tmp t => exact ih (K := fun vs => K (eget E t :: vs)) h fun vs h => hK _ h
  | cell t n agg => exact DoB_sound h fun v h => ih (K := fun vs => K (v :: vs)) h fun vs h => hK _ h
def fnB1 (Φ : CallsB) (fuel : Nat) (f : AFunc) (args : List AV) (T : TH) (Q : PostB) : Bool :=
 codeB Φ fuel f.ntmps f.body (einit args 0) T fun e E T' => match e with
  | .exit _ => false
  | _ => resB E T' f.results fun vs => Q (oneRes vs) T'
def fnB (Φ : CallsB) (fuel : Nat) (f : AFunc) (args : List AV) (T : TH) (Q : PostB) : Bool := and (Nat.ble args.length f.ntmps) (fnB1 Φ fuel f args T Q)
theorem fnB_sound {Φ : Calls'} {B : CallsB} (hB : SoundB Φ B) {fuel : Nat} {f : AFunc} {args : List AV} {T : TH} {K : PostB} (h : fnB B fuel f args T K = true) {Q : Post} (hK : ∀ v T', K v T' = true → Q v T'.ah) : fnE Φ f args T.ah Q := by
 simp only [fnB, fnB1, Bool.and_eq_true] at h
 refine ⟨Nat.le_of_ble_eq_true h.1, codeB_sound hB h.2 fun x e T' h' => ?_⟩
 cases x with
 | normal => exact resB_sound h' fun vs h => hK _ _ h
 | exit i => cases h'
 | ret => exact resB_sound h' fun vs h => hK _ _ h
end
end Rb

namespace Rb
open Go
structure Cl (Φ : Calls') (T : Tab) : Prop where
 mono : Mono Φ
 run : ∀ k f, T.get k = some f → ∀ args H Q, fnE Φ f args H Q → Φ k args H Q
theorem Cl.of {Φ : Calls'} {T : Tab} (hm : Mono Φ) (h : Closed Φ T) : Cl Φ T := ⟨hm, fun k f hk args H Q hs => h k f hk args H Q (fnE_sound hm hs)⟩
theorem Cl.app {Φ : Calls'} {T U : Tab} (hT : Cl Φ T) (hU : Cl Φ U) : Cl Φ (T ++ U) := by
 refine ⟨hT.mono, fun k f h args H Q hs => ?_⟩
 have key : ∀ (T : Tab), (T ++ U).lookup k = some f → T.lookup k = some f ∨ U.lookup k = some f := by
  intro T
  induction T with
  | nil => intro h; exact .inr h
  | cons p T ih =>
   intro h
   obtain ⟨k', f'⟩ := p
   rw [List.cons_append, List.lookup_cons] at h
   rw [List.lookup_cons]
   split at h
   · exact .inl h
   · exact ih h
 rcases key T h with h | h
 · exact hT.run k f h args H Q hs
 · exact hU.run k f h args H Q hs
theorem Cl.call {Φ : Calls'} {T : Tab} (hT : Cl Φ T) {k : Nat} {f : AFunc} {args : List AV} (hk : T.get k = some f) (hn : Nat.ble args.length f.ntmps = true) {H : AH} {Q : Post} (h : fnE1 Φ f args H Q) : Φ k args H Q :=
 hT.run k f hk args H Q ⟨Nat.le_of_ble_eq_true hn, h⟩
end Rb

namespace Rb
open Go
def Tok.free : Tok → Bool
 | .own _ => false
 | _ => true
mutual
def AV.froz : AV → Bool
 | .bool _ | .int _ _ | .str _ | .nilp | .nilmap | .nilfn | .nilif => true
 | .fptr cs => AV.frozs cs
 | .lst tk _ cs => tk.free && AV.frozs cs
 | .fn _ cs => AV.frozs cs
 | .iface _ v => AV.froz v
 | .agg cs => AV.frozs cs
 | .tup cs => AV.frozs cs
 | _ => false
def AV.frozs : List AV → Bool
 | [] => true
 | c :: r => AV.froz c && AV.frozs r
end
theorem frozs_all : ∀ {cs : List AV}, AV.frozs cs = cs.all AV.froz
 | [] => rfl
 | c :: r => by simp only [AV.frozs, List.all_cons, frozs_all (cs := r)]
theorem frozs_mem {cs : List AV} (h : AV.frozs cs = true) (j : Nat) (c : AV) (hc : cs[j]? = some c) : c.froz = true := by
 rw [frozs_all, List.all_eq_true] at h
 exact h c (List.mem_of_getElem? hc)
theorem froz_vr {F : FTab} {w w' : World} {G G' : Ghost} (hz : ∀ b o, G.fz b o → G'.fz b o) (hc : ∀ b o V, G.fz b o → w.cell? ⟨b, o, none⟩ = some V → w'.cell? ⟨b, o, none⟩ = some V) {c : AV} {V : Value} (hf : c.froz = true) (h : VR F w G c V) : VR F w' G' c V := by
 induction h with
 | bot => simp [AV.froz] at hf
 | bool b => exact .bool b
 | int k n => exact .int k n
 | str s => exact .str s
 | nilp => exact .nilp
 | ptr => simp [AV.froz] at hf
 | fptr cells b o Vs h hv ih =>
  simp only [AV.froz] at hf
  exact .fptr cells b o Vs (fun j c hj => ⟨hz _ _ (h j c hj).1, hc _ _ _ (h j c hj).1 (h j c hj).2⟩) fun j c hj => ih j c hj (frozs_mem hf j c hj)
 | lstnil => exact .lstnil
 | lst0 a cap => exact .lst0 a cap
 | lst tk len cells b o cap Vs ht hle h hv ih =>
  simp only [AV.froz, Bool.and_eq_true] at hf
  refine .lst tk len cells b o cap Vs ?_ hle (fun j c hj => ⟨hz _ _ (h j c hj).1, hc _ _ _ (h j c hj).1 (h j c hj).2⟩) fun j c hj => ih j c hj (frozs_mem hf.2 j c hj)
  cases tk with
  | own t => simp [Tok.free] at hf
  | nil => exact ht
  | full => exact ht
  | dead => exact ht
 | row => simp [AV.froz] at hf
 | map => simp [AV.froz] at hf
 | nilmap => exact .nilmap
 | fn key caps f Vs hk hF hl hv ih =>
  simp only [AV.froz] at hf
  exact .fn key caps f Vs hk hF hl fun j c V hc hV => ih j c V hc hV (frozs_mem hf j c hc)
 | bfn key k caps f Vs hk hF hl hv ih =>
  simp only [AV.froz] at hf
  exact .bfn key k caps f Vs hk hF hl fun j c V hc hV => ih j c V hc hV (frozs_mem hf j c hc)
 | nilfn => exact .nilfn
 | iface t v V h ih => exact .iface t v V (ih (by simpa [AV.froz] using hf))
 | nilif => exact .nilif
 | agg cs Vs hl hv ih =>
  simp only [AV.froz] at hf
  exact .agg cs Vs hl fun j c V hc hV => ih j c V hc hV (frozs_mem hf j c hc)
 | tup cs Vs hl hv ih =>
  simp only [AV.froz] at hf
  exact .tup cs Vs hl fun j c V hc hV => ih j c V hc hV (frozs_mem hf j c hc)
def GTok (C : Ctx) : Prop := ∀ g l, C.GT g = some l → AV.frozs l = true
theorem ACall.frame2 {C : Ctx} (hGT : GTok C) {key : Nat} {args : List AV} {Q : Post} (h : ACall C key args AH.mt Q) (ha : AV.frozs args = true) (H : AH) (K : Post) (hK : ∀ v H', Q v H' → v.froz = true ∧ K v H) : ACall C key args H K := by
 refine ⟨by obtain ⟨v, H', hq⟩ := h.1; exact ⟨v, H, (hK v H' hq).2⟩, fun f hf G w Vs hG hrel hargs => ?_⟩
 have hrel0 : Rel C.F w (Ghost.mt G.fz) AH.mt := Rel.mt hrel.fzc
 have hargs0 : VRs C.F w (Ghost.mt G.fz) args Vs := ⟨hargs.1, fun j c V hc hV => froz_vr (G := G) (G' := Ghost.mt G.fz) (w := w) (fun _ _ h => h) (fun _ _ _ _ h => h) (frozs_mem ha j c hc) (hargs.2 j c V hc hV)⟩
 have hG0 : GOK C w (Ghost.mt G.fz) := fun g l hg => froz_vr (G := G) (G' := Ghost.mt G.fz) (w := w) (fun _ _ h => h) (fun _ _ _ _ h => h) (by simp only [AV.froz]; exact hGT g l hg) (hG.1 g l hg)
 refine Calls.mono (h.2 f hf _ w Vs (hG.mt hG0 fun i hi => by cases hi) hrel0 hargs0) fun e w' he => ?_
 obtain ⟨V, v, H', G', rfl, hQ, hv, hr, hst⟩ := he
 obtain ⟨hfl, hKv⟩ := hK v H' hQ
 have hb := hst.below
 have hnew : ∀ b o, G'.fz b o → G.fz b o ∨ w.heap.size ≤ b := by
  intro b o hz
  rcases hst.fznew b o hz with h | h | ⟨i, hi, _⟩
  · exact .inl h
  · exact .inr h
  · cases hi
 let G2 : Ghost := { G with fz := fun b o => G.fz b o ∨ G'.fz b o }
 have hcell : ∀ b o V, G.fz b o → w.cell? ⟨b, o, none⟩ = some V → w'.cell? ⟨b, o, none⟩ = some V := fun b o V hf hc => by
  rw [World.cell?_of_block (w := w) (hb.block b (World.block_lt_of_cell? w _ hc))]; exact hc
 have hg : GLe w G w' G2 := ⟨Nat.le_refl _, fun _ _ => rfl, fun _ _ => rfl, fun _ _ h => .inl h, hcell⟩
 refine ⟨V, v, H, G2, rfl, hKv, froz_vr (G := G') (G' := G2) (w := w') (fun _ _ h => Or.inr h) (fun _ _ _ _ h => h) hfl hv, ⟨hrel.n, hrel.over, fun j => (hrel.obj j).keep hg (fun hl => hrel.idlt hl) (fun hl => hb.block _ ((hrel.obj j).lt hl)) fun hl o hj => ?_, hrel.dist, fun b o hf => ?_⟩, ?_⟩
 · rcases hj with hj | hj
   · exact hj
   · rcases hnew _ _ hj with h | h
     · exact h
     · exact absurd ((hrel.obj j).lt hl) (by omega)
 · rcases hf with hf | hf
   · obtain ⟨V, hV⟩ := hrel.fzc b o hf
     exact ⟨V, hcell b o V hf hV⟩
   · exact hr.fzc b o hf
 · exact { hg with
     size := hst.size, os := hst.os, tape := hst.tape, output := hst.output, old := fun k hk _ => hb.block k hk, owned := fun i hi _ => ⟨i, hi, rfl⟩
     fznew := fun b o hf => by
      rcases hf with hf | hf
      · exact .inl hf
      · rcases hnew b o hf with h | h
        · exact .inl h
        · exact .inr (.inl h) }
abbrev Memo := Nat → List AV → Option AV
def MemoOK (Φ : Calls') (M : Memo) : Prop := ∀ k args v, M k args = some v → ∀ (H : AH) (Q : Post), Q v H → Φ k args H Q
noncomputable section
def runM (M : Memo) (disp : CallsB → CallsB) (d : Nat) : CallsB := Nat.rec (motive := fun _ => CallsB) (fun _ _ _ _ => false) (fun _ ih k args T Q => match M k args with
  | some v => Q v T
  | none => disp ih k args T Q) d
def DispOK (Φ : Calls') (disp : CallsB → CallsB) : Prop := ∀ B, SoundB Φ B → SoundB Φ (disp B)
theorem runM_sound {Φ : Calls'} {M : Memo} {disp : CallsB → CallsB} (hM : MemoOK Φ M) (hd : DispOK Φ disp) : ∀ d, SoundB Φ (runM M disp d) := by
 intro d
 induction d with
 | zero => intro k args T K h; cases h
 | succ d ih =>
  intro k args T K h Q hQ
  change (match M k args with
    | some v => K v T
    | none => disp (runM M disp d) k args T K) = true at h
  split at h
  · rename_i v hv
    exact hM k args v hv _ _ (hQ _ _ h)
  · exact hd _ ih k args T K h Q hQ
theorem run_closed {Φ : Calls'} {B : CallsB} (hB : SoundB Φ B) {k : Nat} {args : List AV} {K : AV → Bool} (h : B k args TH.mt (fun v _ => K v) = true) : Φ k args AH.mt (fun v _ => K v = true) := by
 have := hB k args TH.mt _ h (fun v _ => K v = true) (fun v T' h => h)
 rwa [TH.ah_mt] at this
theorem SoundB.fn {Φ : Calls'} {T0 : Tab} (hT : Cl Φ T0) {B : CallsB} (hB : SoundB Φ B) {fuel : Nat} {k : Nat} {f : AFunc} {args : List AV} (hk : T0.get k = some f) (hn : Nat.ble args.length f.ntmps = true) {T : TH} {K : PostB} (h : fnB1 B fuel f args T K = true) {Q : Post} (hQ : ∀ v T', K v T' = true → Q v T'.ah) : Φ k args T.ah Q :=
 hT.run k f hk args T.ah Q (fnB_sound hB (fuel := fuel) (by simp only [fnB, hn, h, Bool.and_self]) hQ)
theorem SoundB.node {Φ : Calls'} {F G : CallsB} (m : Nat) (hF : SoundB Φ F) (hG : SoundB Φ G) : SoundB Φ (fun k a T K => cond (Nat.blt k m) (F k a T K) (G k a T K)) := by
 intro k a T K h Q hQ
 dsimp only at h
 cases hb : Nat.blt k m with
 | true => rw [hb] at h; exact hF k a T K h Q hQ
 | false => rw [hb] at h; exact hG k a T K h Q hQ
theorem SoundB.leaf {Φ : Calls'} {T0 : Tab} (hT : Cl Φ T0) {B : CallsB} (hB : SoundB Φ B) {n m : Nat} {key : Nat} {ir : AFunc} (hk : T0.get key = some ir) {F : List AV → TH → PostB → Bool} (hn : Nat.ble m ir.ntmps = true)
  (hF : ∀ a T K, F a T K = true → a.length = m ∧ fnB1 B n ir a T K = true) : SoundB Φ (fun k a T K => cond (Nat.beq k key) (F a T K) false) := by
 intro k a T K h Q hQ
 dsimp only at h
 cases hb : Nat.beq k key with
 | false => rw [hb] at h; cases h
 | true =>
  rw [hb] at h
  obtain rfl := Nat.eq_of_beq_eq_true hb
  obtain ⟨h1, h2⟩ := hF a T K h
  exact SoundB.fn hT hB (fuel := n) hk (by rw [h1]; exact hn) h2 hQ
end
end Rb

namespace Rb
open Go
structure Hint where
 fid : Nat
 mus : List Nat
 loops : List (List Nat)
 fz : Option Nat
 tys : List TypeId := []
 fzo : List (Nat × List Nat) := []
def memN (t : Nat) : List Nat → Bool
 | [] => false
 | s :: r => cond (Nat.beq t s) true (memN t r)
def subN : List Nat → List Nat → Bool
 | [], _ => true
 | t :: r, l => cond (memN t l) (subN r l) false
def addN (t : Nat) (l : List Nat) : List Nat := cond (memN t l) l (t :: l)
def uniN : List Nat → List Nat → List Nat
 | [], l => l
 | t :: r, l => uniN r (addN t l)
def lessN : List Nat → List Nat → List Nat
 | [], _ => []
 | t :: r, l => cond (memN t l) (lessN r l) (addN t (lessN r l))
def decK1 : Value → AV
 | .bool b => .bool b
 | .int k n => .int k n
 | .string s => .str s.data.toList
 | .pointer none => .nilp
 | .map none => .nilmap
 | .nilFunc => .nilfn
 | .nilIface => .nilif
 | .slice none _ _ => .lst .nil 0 []
 | _ => .bot
def decK : Value → AV
 | .agg Vs => .agg (Vs.toList.map decK1)
 | .tuple Vs => .tup (Vs.toList.map decK1)
 | V => decK1 V
def badO : Opd := .k .bot
def badOp : AOp := .ext .stuck []
def decO (C : Ctx) : Operand → Opd
 | .tmp t => .t t
 | .const v => .k (decK v)
 | .global g => match C.GT g with | some l => .k (.fptr l) | none => badO
 | .func f => cond (goodFn C.P f) (.k (.fn f [])) badO
def isBldF (fs : List Field) : Bool := match fs with | [a, b] => a.name == "addr" && b.name == "buf" | _ => false
def isBld (P : Program) (t : TypeId) : Bool :=
 match P.underlying t with
 | some (.struct fs) => isBldF fs.toList || (match fs.toList with | [f] => (match P.underlying f.type with | some (.struct gs) => isBldF gs.toList | _ => false) | _ => false)
 | _ => false
def isNilO : Operand → Bool
 | .const v => (match v with | .pointer none | .slice none 0 0 | .map none | .nilFunc | .nilIface => true | _ => false)
 | _ => false
def szOf (P : Program) (t : TypeId) : Nat := match P.info? t with | some i => i.size | none => 0
def byOf (P : Program) (t : TypeId) : Nat := match P.info? t with | some i => i.bytes | none => 0
def zvOf (P : Program) (t : TypeId) : Value := match P.info? t with | some i => (match i.zero with | some z => z | none => .nilIface) | none => .nilIface
def zcOf (P : Program) (t : TypeId) : List AV := (zvOf P t).cells.toList.map decK1
def agOf (P : Program) (t : TypeId) : Bool := match P.underlying t with | some d => rowish d | none => false
def elOf (P : Program) (t : TypeId) : TypeId := match P.underlying t with | some (.slice e) => e | some (.array _ e) => e | some (.map _ e) => e | _ => 0
def kkOf (P : Program) (t : TypeId) : FK := match P.underlying t with
 | some (.map kt _) => (match P.underlying kt with | some .bool => .b | some .string => .t | _ => .n)
 | _ => .n
def invOf (C : Ctx) (name : String) : List TypeId → List (TypeId × Nat × Option (Nat × Bool))
 | [] => []
 | t :: r => (match C.P.info? t with
   | some i => (match i.methods.find? (·.name == name) with
     | some mt => (match mt.func, C.P.underlying t with
       | some (f, true), some (.pointer _) => (t, f, none) :: invOf C name r
       | some (f, false), some (.pointer e) => (t, f, some (szOf C.P e, agOf C.P e)) :: invOf C name r
       | _, _ => invOf C name r)
     | none => invOf C name r)
   | none => invOf C name r)
def isIntT (P : Program) (t : TypeId) : Bool := match P.underlying t with | some (.int _) => true | _ => false
def decCall (C : Ctx) (tys : List TypeId) (mu : Bool) (c : Call) : AOp :=
 match c.callee with
 | .value (.func f) => cond (goodFn C.P f) (.call f (c.args.toList.map (decO C))) badOp
 | .value f => .callv (decO C f) (c.args.toList.map (decO C))
 | .builtin b =>
  match c.args.toList.map (decO C), c.argTypes.toList with
  | [x], [t] => (match b with
    | .len => (match C.P.underlying t with | some .string => .len true x | some (.slice _) => .len false x | some (.array n _) => .lenk n | some (.map _ _) => .maplen x | _ => badOp)
    | .cap => .cap x
    | .max => .minmax true [x]
    | .min => .minmax false [x]
    | .clear => .ext (.clear (szOf C.P (elOf C.P t)) (zcOf C.P (elOf C.P t))) [x]
    | _ => badOp)
  | [x, y], t :: _ => (match b with
    | .append => cond (isIntT C.P (c.argTypes.toList.tail.headD 0)) (.ext (.grow (szOf C.P (elOf C.P t)) (byOf C.P (elOf C.P t)) (zcOf C.P (elOf C.P t))) [x, y]) <| .append mu (szOf C.P (elOf C.P t)) (byOf C.P (elOf C.P t)) x y
    | .delete => .delete (kkOf C.P t) x y
    | .copy => .copy (szOf C.P (elOf C.P t)) x y
    | .max => .minmax true [x, y]
    | .min => .minmax false [x, y]
    | _ => badOp)
  | xs, _ => (match b with
    | .max => .minmax true xs
    | .min => .minmax false xs
    | _ => badOp)
 | .invoke x name => .inv (invOf C name tys) (decO C x) (c.args.toList.map (decO C))
def decOp (C : Ctx) (tys : List TypeId) (mu : Bool) : Op → AOp
 | .move x => .mv (decO C x)
 | .assign x => .mv (decO C x)
 | .pick c a b => .pick (decO C c) (decO C a) (decO C b)
 | .binOp op t x y _ =>
  match op, C.P.underlying t with
  | .eql, some d => (match nilKind d, d with
    | some k, _ => cond (isNilO y) (.isnil k false (decO C x)) (match k with | .p => .ext (.ptreq false) [decO C x, decO C y] | _ => badOp)
    | none, .bool => .beq false (decO C x) (decO C y)
    | none, .array _ _ => (match deepK C.P 9 t with | some l => .eqagg false l (decO C x) (decO C y) | none => badOp)
    | none, .struct _ => (match deepK C.P 9 t with | some l => .eqagg false l (decO C x) (decO C y) | none => badOp)
    | none, _ => .bin op (decO C x) (decO C y))
  | .neq, some d => (match nilKind d, d with
    | some k, _ => cond (isNilO y) (.isnil k true (decO C x)) (match k with | .p => .ext (.ptreq true) [decO C x, decO C y] | _ => badOp)
    | none, .bool => .beq true (decO C x) (decO C y)
    | none, .array _ _ => (match deepK C.P 9 t with | some l => .eqagg true l (decO C x) (decO C y) | none => badOp)
    | none, .struct _ => (match deepK C.P 9 t with | some l => .eqagg true l (decO C x) (decO C y) | none => badOp)
    | none, _ => .bin op (decO C x) (decO C y))
  | op, _ => .bin op (decO C x) (decO C y)
 | .unOp op _ x => .un op (decO C x)
 | .convert s d x =>
  match C.P.underlying s, C.P.underlying d with
  | some .string, some .string => .same (decO C x)
  | some .string, some (.slice _) => .sbytes (decO C x)
  | some (.slice _), some .string => .bstr (decO C x)
  | _, some (.int k) => .conv k (decO C x)
  | _, _ => badOp
 | .nilCheck x => .nilck (decO C x)
 | .field t x n => (match fieldOf C.P t n with | some f => .field f.offset (szOf C.P f.type) (agOf C.P f.type) (decO C x) | none => badOp)
 | .fieldAddr t x n => (match fieldOf C.P t n with | some f => .faddr f.offset (decO C x) | none => badOp)
 | .index t x i => (match C.P.underlying t with
   | some .string => .idxs (decO C x) (decO C i)
   | some (.array n e) => .idx n (szOf C.P e) (agOf C.P e) (decO C x) (decO C i)
   | _ => badOp)
 | .indexAddr t x i => (match C.P.underlying t with
   | some (.slice e) => .iaddr none (szOf C.P e) (decO C x) (decO C i)
   | some (.array n e) => .iaddr (some n) (szOf C.P e) (decO C x) (decO C i)
   | _ => badOp)
 | .slice t x lo hi mx => (match C.P.underlying t with
   | some .string => .sslice (decO C x) (lo.map (decO C)) (hi.map (decO C))
   | some (.slice e) => .slice (szOf C.P e) (decO C x) (lo.map (decO C)) (hi.map (decO C)) (mx.map (decO C))
   | _ => badOp)
 | .makeInterface t x => .mkif t (decO C x)
 | .makeFunc (.func f) first caps => cond (goodFn C.P f) (match first.toList with
   | [] => .mkfn f (caps.toList.map (decO C))
   | l => .mkfn (f + 1048576) (l.map (decO C))) badOp
 | .extract x i => .extract i (decO C x)
 | .build t ps => .build (zcOf C.P t) (ps.toList.map fun p => match placeOf C.P t p.1 with | some (o, s) => (o, s, decO C p.2) | none => (0, 0, badO))
 | .buildSlice t len ps => .bslice mu (szOf C.P (elOf C.P t)) len (zcOf C.P (elOf C.P t)) (ps.toList.map fun p => (p.1 * szOf C.P (elOf C.P t), szOf C.P (elOf C.P t), decO C p.2))
 | .load t x => .load (szOf C.P t) (agOf C.P t) (decO C x)
 | .store t x v => .store (szOf C.P t) (decO C x) (decO C v)
 | .box t x => cond (isBld C.P t) (.ext (.bnew t) [decO C x]) (.box mu (szOf C.P t) (decO C x))
 | .alloc t => cond (isBld C.P t) (.ext (.bnew t) []) (.alloc mu (zcOf C.P t))
 | .makeSlice t l c => .make mu (szOf C.P (elOf C.P t)) (byOf C.P (elOf C.P t)) (zcOf C.P (elOf C.P t)) (decO C l) (decO C c)
 | .range _ x => .srange (decO C x)
 | .next x true => .snext (decO C x)
 | .makeMap _ _ => .mkmap
 | .lookup t m k ok => .lookup (kkOf C.P t) (decK (zvOf C.P (elOf C.P t))) ok (decO C m) (decO C k)
 | .mapUpdate t m k v => .mapup (kkOf C.P t) (decO C m) (decO C k) (decO C v)
 | .insert t m k v => .mapup (kkOf C.P t) (decO C m) (decO C k) (decO C v)
 | .typeAssert x _ t ok => cond ok badOp (.ext (.tassert t) [decO C x])
 | .call c => decCall C tys mu c
 | _ => badOp
def dstN : List Oper → Nat → Option Nat
 | [], _ => none
 | o :: r, i => match i with | 0 => o.dst | i + 1 => dstN r i
def decReg (C : Ctx) (tys : List TypeId) (mus : List Nat) (all : List Oper) : List Oper → List AOper
 | [] => []
 | o :: r => ⟨o.dst, decOp C tys (match o.dst with | some d => memN d mus | none => false) o.op, match o.guard with | some (j, want) => (match dstN all j with | some s => some (s, want) | none => none) | none => none⟩ :: decReg C tys mus all r
def onOf : List Edge → List Nat
 | [] => []
 | e :: r => cond (Region.binds .any e) (addN e.on (onOf r)) (onOf r)
def nthN : List (List Nat) → Nat → List Nat
 | [], _ => []
 | l :: r, i => match i with | 0 => l | i + 1 => nthN r i
def prGo : List (List Nat) → List Nat → List Nat → List Nat
 | pr, acc, [] => acc
 | pr, acc, e :: r => prGo pr (uniN (nthN pr e) acc) r
def prOf : List (List Nat) → List Oper → List (List Nat)
 | pr, [] => pr
 | pr, o :: r => let es := onOf o.after.toList; prOf (pr ++ [prGo pr es es]) r
structure DR where
 i : Nat
 pr : List Nat
 k : Nat
 al : Bool
def drs (ops : List AOper) (pr : List (List Nat)) : Nat → List AOper → List (List Nat) → List DR
 | i, o :: r, p :: q => ⟨i, p, cond (isP o.op) 2 (cond (isR o.op) 1 0), isAl ops pr i⟩ :: drs ops pr (i + 1) r q
 | _, _, _ => []
def segD : List DR → List Nat → List Nat → List Nat × List Nat
 | [], done, out => (done, out.reverse)
 | d :: r, done, out => cond (Nat.beq d.k 0) (segD r done out) (cond (memN d.i done) (segD r done out) (cond (subN d.pr done) (segD r (d.i :: done) (d.i :: out)) (segD r done out)))
def alsD : List DR → List Nat → List Nat → List DR
 | [], _, _ => []
 | d :: r, pr, seq => cond d.al (cond (memN d.i pr) (cond (memN d.i seq) (alsD r pr seq) (d :: alsD r pr seq)) (alsD r pr seq)) (alsD r pr seq)
def effD (all : List DR) : List DR → List Nat → List DR
 | [], seq => all.filter fun d => d.al && !memN d.i seq
 | d :: r, seq => cond (Nat.beq d.k 0) (cond d.al (effD all r seq) (let a := alsD all d.pr seq; a ++ d :: effD all r (d.i :: (a.map DR.i ++ seq)))) (effD all r seq)
def stD : List DR → List Nat → List Nat → List Nat
 | [], _, _ => []
 | d :: r, done, pr => cond (Nat.beq d.k 1) (cond (memN d.i done) (cond (memN d.i pr) (stD r done pr) (d.i :: stD r done pr)) (stD r done pr)) (stD r done pr)
def planD (all : List DR) : List DR → List Nat → List (List Nat × Nat × List Nat) × List Nat
 | [], done => ([], (segD all done []).2)
 | e :: r, done => let s := segD all done []; let q := planD all r (e.i :: s.1); ((s.2, e.i, stD all s.1 e.pr) :: q.1, q.2)
def decDraw (ops : List Oper) (al : List AOper) : ACode :=
 let pr := prOf [] ops
 let ds := drs al pr 0 al pr
 let p := planD ds (effD ds ds []) []
 .draw al pr p.1 p.2
def isMv (t : Nat) (o : AOper) : Bool := match o.op with | .mv (.t s) => Nat.beq s t | _ => false
def isDst (l : List Nat) (o : AOper) : Bool := match o.dst with | some d => memN d l | none => false
def fzoN : List (Nat × List Nat) → Nat → List Nat
 | [], _ => []
 | (i, l) :: r, id => cond (Nat.beq i id) l (fzoN r id)
def frzC : List Nat → ACode → ACode
 | [], c => c
 | t :: r, c => .freeze t (frzC r c)
def decC (C : Ctx) (tys : List TypeId) (mus : List Nat) (fz : Option Nat) (fzo : List (Nat × List Nat)) (res : List Nat) : Code → List (List Nat) → ACode × List (List Nat)
 | .skip, h => (.skip, h)
 | .region id ops false, h =>
  let al := decReg C tys mus ops.toList ops.toList
  (frzC (fzoN fzo id) (match fz with
    | none => .region al
    | some t => cond (al.any (isMv t) && al.any (isDst res)) (.freeze t (.region al)) (.region al)), h)
 | .region id ops true, h => (frzC (fzoN fzo id) (decDraw ops.toList (decReg C tys mus ops.toList ops.toList)), h)
 | .seq a b, h => let p := decC C tys mus fz fzo res a h; let q := decC C tys mus fz fzo res b p.2; (.seq p.1 q.1, q.2)
 | .cond c a b, h => let p := decC C tys mus fz fzo res a h; let q := decC C tys mus fz fzo res b p.2; (.cond (decO C c) p.1 q.1, q.2)
 | .block id a, h => let p := decC C tys mus fz fzo res a h; (.block id p.1, p.2)
 | .loop a, h => let p := decC C tys mus fz fzo res a h.tail; (.loop (h.headD []) (lessN (asg p.1) (h.headD [])) p.1, p.2)
 | .exit id, h => (.exit id, h)
 | .ret, h => (.ret, h)
 | _, h => (.exit 0, h)
def resN : List ResultVar → List Nat
 | [] => []
 | .tmp t :: r => t :: resN r
 | .cell t _ :: r => t :: resN r
def decRes (P : Program) : List ResultVar → List ARes
 | [] => []
 | .tmp t :: r => .tmp t :: decRes P r
 | .cell t ty :: r => .cell t (szOf P ty) (agOf P ty) :: decRes P r
def decF (C : Ctx) (h : Hint) : AFunc :=
 match C.P.funcs[h.fid]? with
 | some fn => ⟨fn.ntmps, decRes C.P fn.results.toList, match fn.body with | some c => (decC C h.tys h.mus h.fz h.fzo (resN fn.results.toList) c h.loops).1 | none => .skip⟩
 | none => ⟨0, [], .exit 0⟩
def idC (P : Program) (GT : Nat → Option (List AV)) : Ctx := ⟨P, fun k => cond (goodFn P k) (some k) none, GT⟩
theorem idC_fok (P : Program) (GT : Nat → Option (List AV)) : FOK (idC P GT) := by
 intro key f hf
 simp only [idC] at hf
 cases hg : goodFn P key with
 | true => rw [hg] at hf; simp only [cond_true, Option.some.injEq] at hf; subst hf; exact hg
 | false => rw [hg] at hf; cases hf
def chkH (C : Ctx) : List Hint → Bool
 | [] => true
 | h :: r => and (chkF C h.fid (decF C h)) (chkH C r)
theorem chkH_mem {C : Ctx} : ∀ {L : List Hint}, chkH C L = true → ∀ h, h ∈ L → chkF C h.fid (decF C h) = true
 | [], _, h, hm => by cases hm
 | p :: r, hc, h, hm => by
  simp only [chkH, Bool.and_eq_true] at hc
  rcases List.mem_cons.1 hm with rfl | hm
  · exact hc.1
  · exact chkH_mem hc.2 h hm
theorem chkH_app {C : Ctx} : ∀ {L M : List Hint}, chkH C L = true → chkH C M = true → chkH C (L ++ M) = true
 | [], _, _, h => h
 | p :: r, M, hc, h => by
  simp only [chkH, Bool.and_eq_true] at hc
  simp only [List.cons_append, chkH, Bool.and_eq_true]
  exact ⟨hc.1, chkH_app hc.2 h⟩
end Rb

namespace Rb
open Go
noncomputable section
theorem nb (a b : Nat) : Nat.beq a b = decide (a = b) := by rw [Bool.eq_iff_iff]; simp
theorem nl (a b : Nat) : Nat.blt a b = decide (a < b) := by rw [Bool.eq_iff_iff]; simp [Nat.blt]; omega
theorem ne' (a b : Nat) : Nat.ble a b = decide (a ≤ b) := by rw [Bool.eq_iff_iff]; simp
def apK {α β : Type} (f : α → β) (a : α) : β := f a
def nthF {α : Type} (l : List α) : Nat → Option α := List.rec (motive := fun _ => Nat → Option α) (fun _ => none) (fun x _ ih n => Nat.rec (motive := fun _ => Option α) (some x) (fun m _ => apK ih m) n) l
theorem nthF_eq {α : Type} : ∀ (l : List α) (n : Nat), nthF l n = l[n]?
 | [], n => by cases n <;> rfl
 | x :: r, 0 => rfl
 | x :: r, n + 1 => by rw [List.getElem?_cons_succ, ← nthF_eq r n]; rfl
def dropF {α : Type} (n : Nat) : List α → List α := Nat.rec (motive := fun _ => List α → List α) (fun l => l) (fun _ ih l => List.rec (motive := fun _ => List α) [] (fun _ t _ => apK ih t) l) n
theorem dropF_eq {α : Type} : ∀ (n : Nat) (l : List α), dropF n l = l.drop n
 | 0, l => rfl
 | n + 1, [] => rfl
 | n + 1, x :: r => by rw [List.drop_succ_cons, ← dropF_eq n r]; rfl
def leF {α : Type} (n : Nat) : List α → Bool := Nat.rec (motive := fun _ => List α → Bool) (fun _ => true) (fun _ ih l => List.rec (motive := fun _ => Bool) false (fun _ t _ => apK ih t) l) n
theorem leF_eq {α : Type} : ∀ (n : Nat) (l : List α), leF n l = decide (n ≤ l.length)
 | 0, l => by simp; rfl
 | n + 1, [] => by simp; rfl
 | n + 1, x :: r => by rw [List.length_cons, show decide (n + 1 ≤ r.length + 1) = decide (n ≤ r.length) by simp, ← leF_eq n r]; rfl
def kN : IntKind → Nat
 | .i8 => 0 | .i16 => 1 | .i32 => 2 | .i64 => 3 | .u8 => 4 | .u16 => 5 | .u32 => 6 | .u64 => 7
def kEq (k k' : IntKind) : Bool := Nat.beq (kN k) (kN k')
theorem kEq_eq {k k' : IntKind} (h : kEq k k' = true) : k = k' := by
 revert h; cases k <;> cases k' <;> decide
def lim : IntKind → Nat
 | .i8 => 128 | .i16 => 32768 | .i32 => 2147483648 | .i64 => 9223372036854775808 | .u8 => 256 | .u16 => 65536 | .u32 => 4294967296 | .u64 => 18446744073709551616
theorem wrap_lim {k : IntKind} {m : Nat} (h : m < lim k) : k.wrap (Int.ofNat m) = Int.ofNat m := by
 have hm : (Int.ofNat m) = (m : Int) := rfl
 rw [hm]
 cases k <;> simp only [lim] at h <;> simp only [IntKind.wrap, IntKind.bits, IntKind.signed] <;> simp <;> omega
def asNat (v : AV) (d : Option AV) (f : IntKind → Nat → Option AV) : Option AV :=
 match v with
 | .int k n => (match n with | .ofNat m => f k m | .negSucc _ => d)
 | _ => d
theorem asNat_eq {v : AV} {d : Option AV} {f : IntKind → Nat → Option AV} (h : ∀ k m, v = .int k (.ofNat m) → f k m = d) : asNat v d f = d := by
 unfold asNat
 split
 · split
   · exact h _ _ rfl
   · rfl
 · rfl
def natOp (g : IntKind → Nat → Nat → Option AV → Option AV) (s : Option AV) (x y : AV) : Option AV :=
 asNat x s fun k a => asNat y s fun k' b => cond (kEq k k') (g k a b s) s
theorem natOp_eq {g : IntKind → Nat → Nat → Option AV → Option AV} {op : BinOp} (hg : ∀ k a b, g k a b (abinInt op k (.ofNat a) k (.ofNat b)) = abinInt op k (.ofNat a) k (.ofNat b)) (x y : AV) : natOp g (abin op x y) x y = abin op x y := by
 refine asNat_eq fun k a hx => asNat_eq fun k' b hy => ?_
 subst hx hy
 cases h : kEq k k' with
 | false => rfl
 | true =>
  obtain rfl := kEq_eq h
  exact hg k a b
def gAdd (k : IntKind) (a b : Nat) (s : Option AV) : Option AV := cond (Nat.blt (Nat.add a b) (lim k)) (some (.int k (.ofNat (Nat.add a b)))) s
def gSub (k : IntKind) (a b : Nat) (s : Option AV) : Option AV := cond (and (Nat.ble b a) (Nat.blt a (lim k))) (some (.int k (.ofNat (Nat.sub a b)))) s
def gMul (k : IntKind) (a b : Nat) (s : Option AV) : Option AV := cond (Nat.blt (Nat.mul a b) (lim k)) (some (.int k (.ofNat (Nat.mul a b)))) s
def gLss (k : IntKind) (a b : Nat) (s : Option AV) : Option AV := some (.bool (Nat.blt a b))
def gLeq (k : IntKind) (a b : Nat) (s : Option AV) : Option AV := some (.bool (Nat.ble a b))
def gGtr (k : IntKind) (a b : Nat) (s : Option AV) : Option AV := some (.bool (Nat.blt b a))
def gGeq (k : IntKind) (a b : Nat) (s : Option AV) : Option AV := some (.bool (Nat.ble b a))
def gEql (k : IntKind) (a b : Nat) (s : Option AV) : Option AV := some (.bool (Nat.beq a b))
def gNeq (k : IntKind) (a b : Nat) (s : Option AV) : Option AV := some (.bool (not (Nat.beq a b)))
def gQuo (k : IntKind) (a b : Nat) (s : Option AV) : Option AV := cond (and (Nat.blt 0 b) (Nat.blt a (lim k))) (some (.int k (.ofNat (Nat.div a b)))) s
def gRem (k : IntKind) (a b : Nat) (s : Option AV) : Option AV := cond (Nat.blt 0 b) (some (.int k (.ofNat (Nat.mod a b)))) s
def gAnd (k : IntKind) (a b : Nat) (s : Option AV) : Option AV := cond (and (Nat.blt a (lim k)) (Nat.blt b (lim k))) (some (.int k (.ofNat (Nat.land a b)))) s
def gOr (k : IntKind) (a b : Nat) (s : Option AV) : Option AV := cond (and (Nat.blt a (lim k)) (Nat.blt b (lim k))) (some (.int k (.ofNat (Nat.lor a b)))) s
def gXor (k : IntKind) (a b : Nat) (s : Option AV) : Option AV := cond (and (Nat.blt a (lim k)) (Nat.blt b (lim k))) (some (.int k (.ofNat (Nat.xor a b)))) s
theorem gAdd_eq (k : IntKind) (a b : Nat) : gAdd k a b (abinInt .add k (.ofNat a) k (.ofNat b)) = abinInt .add k (.ofNat a) k (.ofNat b) := by
 unfold gAdd
 rw [nl]
 by_cases h : Nat.add a b < lim k
 · simp only [h, decide_true, cond_true, abinInt, if_true]
   rw [show (Int.ofNat a + Int.ofNat b) = Int.ofNat (Nat.add a b) from rfl, wrap_lim h]
 · simp only [h, decide_false, cond_false]
theorem gMul_eq (k : IntKind) (a b : Nat) : gMul k a b (abinInt .mul k (.ofNat a) k (.ofNat b)) = abinInt .mul k (.ofNat a) k (.ofNat b) := by
 unfold gMul
 rw [nl]
 by_cases h : Nat.mul a b < lim k
 · simp only [h, decide_true, cond_true, abinInt, if_true]
   rw [show (Int.ofNat a * Int.ofNat b) = Int.ofNat (Nat.mul a b) from rfl, wrap_lim h]
 · simp only [h, decide_false, cond_false]
theorem gSub_eq (k : IntKind) (a b : Nat) : gSub k a b (abinInt .sub k (.ofNat a) k (.ofNat b)) = abinInt .sub k (.ofNat a) k (.ofNat b) := by
 unfold gSub
 rw [nl, ne']
 by_cases h : b ≤ a ∧ a < lim k
 · simp only [h.1, h.2, decide_true, Bool.and_self, cond_true, abinInt, if_true]
   have : (Int.ofNat a - Int.ofNat b) = Int.ofNat (Nat.sub a b) := by
    show (a : Int) - (b : Int) = ((a - b : Nat) : Int)
    omega
   rw [this, wrap_lim (show Nat.sub a b < lim k from Nat.lt_of_le_of_lt (Nat.sub_le _ _) h.2)]
 · have : (decide (b ≤ a) && decide (a < lim k)) = false := by
     rw [Bool.eq_false_iff]; intro h2; simp at h2; exact h h2
   simp only [this, cond_false]
theorem gLss_eq (k : IntKind) (a b : Nat) : gLss k a b (abinInt .lss k (.ofNat a) k (.ofNat b)) = abinInt .lss k (.ofNat a) k (.ofNat b) := by
 simp only [gLss, abinInt, if_true, nl]
 congr 2
 simp
theorem gLeq_eq (k : IntKind) (a b : Nat) : gLeq k a b (abinInt .leq k (.ofNat a) k (.ofNat b)) = abinInt .leq k (.ofNat a) k (.ofNat b) := by
 simp only [gLeq, abinInt, if_true, ne']
 congr 2
 simp
theorem gGtr_eq (k : IntKind) (a b : Nat) : gGtr k a b (abinInt .gtr k (.ofNat a) k (.ofNat b)) = abinInt .gtr k (.ofNat a) k (.ofNat b) := by
 simp only [gGtr, abinInt, if_true, nl]
 congr 2
 simp
theorem gGeq_eq (k : IntKind) (a b : Nat) : gGeq k a b (abinInt .geq k (.ofNat a) k (.ofNat b)) = abinInt .geq k (.ofNat a) k (.ofNat b) := by
 simp only [gGeq, abinInt, if_true, ne']
 congr 2
 simp
theorem ofN_beq (a b : Nat) : (Int.ofNat a == Int.ofNat b) = decide (a = b) := by
 rw [Bool.eq_iff_iff]; simp; omega
theorem gEql_eq (k : IntKind) (a b : Nat) : gEql k a b (abinInt .eql k (.ofNat a) k (.ofNat b)) = abinInt .eql k (.ofNat a) k (.ofNat b) := by
 simp only [gEql, abinInt, if_true, nb, ofN_beq]
theorem gNeq_eq (k : IntKind) (a b : Nat) : gNeq k a b (abinInt .neq k (.ofNat a) k (.ofNat b)) = abinInt .neq k (.ofNat a) k (.ofNat b) := by
 simp only [gNeq, abinInt, if_true, nb, bne, ofN_beq]
theorem gRem_eq (k : IntKind) (a b : Nat) : gRem k a b (abinInt .rem k (.ofNat a) k (.ofNat b)) = abinInt .rem k (.ofNat a) k (.ofNat b) := by
 unfold gRem
 rw [nl]
 by_cases h : 0 < b
 · have hb : (Int.ofNat b) ≠ 0 := by simp; omega
   simp only [h, decide_true, cond_true, abinInt, if_pos (show True ∧ Int.ofNat b ≠ 0 from ⟨trivial, hb⟩)]
   rfl
 · simp only [h, decide_false, cond_false]
theorem gQuo_eq (k : IntKind) (a b : Nat) : gQuo k a b (abinInt .quo k (.ofNat a) k (.ofNat b)) = abinInt .quo k (.ofNat a) k (.ofNat b) := by
 unfold gQuo
 rw [nl, nl]
 by_cases h : 0 < b ∧ a < lim k
 · have hb : (Int.ofNat b) ≠ 0 := by have := h.1; simp; omega
   simp only [h.1, h.2, decide_true, Bool.and_self, cond_true, abinInt, if_pos (show True ∧ Int.ofNat b ≠ 0 from ⟨trivial, hb⟩)]
   rw [show (Int.ofNat a).tdiv (Int.ofNat b) = Int.ofNat (Nat.div a b) from rfl, wrap_lim (show Nat.div a b < lim k from Nat.lt_of_le_of_lt (Nat.div_le_self _ _) h.2)]
 · have : (decide (0 < b) && decide (a < lim k)) = false := by
     rw [Bool.eq_false_iff]; intro h2; simp at h2; exact h h2
   simp only [this, cond_false]
theorem lim_le (k : IntKind) : lim k ≤ 2 ^ k.bits := by cases k <;> decide
theorem lim_pow (k : IntKind) : ∃ n, lim k = 2 ^ n := by
 cases k
 · exact ⟨7, rfl⟩
 · exact ⟨15, rfl⟩
 · exact ⟨31, rfl⟩
 · exact ⟨63, rfl⟩
 · exact ⟨8, rfl⟩
 · exact ⟨16, rfl⟩
 · exact ⟨32, rfl⟩
 · exact ⟨64, rfl⟩
theorem bits_eq {op : BinOp} {f : Nat → Nat → Nat} (k : IntKind) (a b : Nat) (ha : a < lim k) (hb : b < lim k) (hf : f a b < lim k)
  (h : bitsOp op k (.ofNat a) (.ofNat b) = some (k.wrap (((f (BitVec.ofInt k.bits (.ofNat a)).toNat (BitVec.ofInt k.bits (.ofNat b)).toNat) : Nat) : Int))) : bitsOp op k (.ofNat a) (.ofNat b) = some (.ofNat (f a b)) := by
 have h2 := lim_le k
 have e : ∀ n : Nat, n < lim k → (BitVec.ofInt k.bits (.ofNat n)).toNat = n := fun n hn => by
  have : BitVec.ofInt k.bits (.ofNat n) = BitVec.ofNat k.bits n := by simp
  rw [this, BitVec.toNat_ofNat, Nat.mod_eq_of_lt (by omega)]
 rw [h, e a ha, e b hb]
 exact congrArg some (wrap_lim hf)
theorem gAnd_eq (k : IntKind) (a b : Nat) : gAnd k a b (abinInt .and k (.ofNat a) k (.ofNat b)) = abinInt .and k (.ofNat a) k (.ofNat b) := by
 unfold gAnd
 rw [nl, nl]
 by_cases h : a < lim k ∧ b < lim k
 · simp only [h.1, h.2, decide_true, Bool.and_self, cond_true, abinInt, if_true]
   rw [bits_eq (op := .and) (f := Nat.land) k a b h.1 h.2 (Nat.lt_of_le_of_lt Nat.and_le_left h.1) (by simp only [bitsOp, BitVec.toNat_and]; rfl)]
   rfl
 · have : (decide (a < lim k) && decide (b < lim k)) = false := by
     rw [Bool.eq_false_iff]; intro h2; simp at h2; exact h h2
   simp only [this, cond_false]
theorem gOr_eq (k : IntKind) (a b : Nat) : gOr k a b (abinInt .or k (.ofNat a) k (.ofNat b)) = abinInt .or k (.ofNat a) k (.ofNat b) := by
 unfold gOr
 rw [nl, nl]
 by_cases h : a < lim k ∧ b < lim k
 · simp only [h.1, h.2, decide_true, Bool.and_self, cond_true, abinInt, if_true]
   have hl : Nat.lor a b < lim k := by
    obtain ⟨n, hn⟩ := lim_pow k
    rw [hn] at h ⊢
    exact Nat.or_lt_two_pow h.1 h.2
   rw [bits_eq (op := .or) (f := Nat.lor) k a b h.1 h.2 hl (by simp only [bitsOp, BitVec.toNat_or]; rfl)]
   rfl
 · have : (decide (a < lim k) && decide (b < lim k)) = false := by
     rw [Bool.eq_false_iff]; intro h2; simp at h2; exact h h2
   simp only [this, cond_false]
theorem gXor_eq (k : IntKind) (a b : Nat) : gXor k a b (abinInt .xor k (.ofNat a) k (.ofNat b)) = abinInt .xor k (.ofNat a) k (.ofNat b) := by
 unfold gXor
 rw [nl, nl]
 by_cases h : a < lim k ∧ b < lim k
 · simp only [h.1, h.2, decide_true, Bool.and_self, cond_true, abinInt, if_true]
   have hl : Nat.xor a b < lim k := by
    obtain ⟨n, hn⟩ := lim_pow k
    rw [hn] at h ⊢
    exact Nat.xor_lt_two_pow h.1 h.2
   rw [bits_eq (op := .xor) (f := Nat.xor) k a b h.1 h.2 hl (by simp only [bitsOp, BitVec.toNat_xor]; rfl)]
   rfl
 · have : (decide (a < lim k) && decide (b < lim k)) = false := by
     rw [Bool.eq_false_iff]; intro h2; simp at h2; exact h h2
   simp only [this, cond_false]
structure BinC where
 f : AV → AV → Option AV
def binC : BinOp → BinC
 | .add => ⟨fun x y => natOp gAdd (abin .add x y) x y⟩
 | .sub => ⟨fun x y => natOp gSub (abin .sub x y) x y⟩
 | .mul => ⟨fun x y => natOp gMul (abin .mul x y) x y⟩
 | .quo => ⟨fun x y => natOp gQuo (abin .quo x y) x y⟩
 | .rem => ⟨fun x y => natOp gRem (abin .rem x y) x y⟩
 | .and => ⟨fun x y => natOp gAnd (abin .and x y) x y⟩
 | .or => ⟨fun x y => natOp gOr (abin .or x y) x y⟩
 | .xor => ⟨fun x y => natOp gXor (abin .xor x y) x y⟩
 | .lss => ⟨fun x y => natOp gLss (abin .lss x y) x y⟩
 | .leq => ⟨fun x y => natOp gLeq (abin .leq x y) x y⟩
 | .gtr => ⟨fun x y => natOp gGtr (abin .gtr x y) x y⟩
 | .geq => ⟨fun x y => natOp gGeq (abin .geq x y) x y⟩
 | .eql => ⟨fun x y => natOp gEql (abin .eql x y) x y⟩
 | .neq => ⟨fun x y => natOp gNeq (abin .neq x y) x y⟩
 | .shl => ⟨fun x y => abin .shl x y⟩
 | .shr => ⟨fun x y => abin .shr x y⟩
 | .andNot => ⟨fun x y => abin .andNot x y⟩
theorem binC_eq (op : BinOp) (x y : AV) : (binC op).f x y = abin op x y := by
 cases op <;> first | rfl | exact natOp_eq (by first | exact gAdd_eq | exact gSub_eq | exact gMul_eq | exact gQuo_eq | exact gRem_eq | exact gAnd_eq | exact gOr_eq | exact gXor_eq | exact gLss_eq | exact gLeq_eq | exact gGtr_eq | exact gGeq_eq | exact gEql_eq | exact gNeq_eq) x y
def convF (k : IntKind) (x : AV) : Option AV := asNat x (aconv k x) fun _ m => cond (Nat.blt m (lim k)) (some (.int k (.ofNat m))) (aconv k x)
theorem convF_eq (k : IntKind) (x : AV) : convF k x = aconv k x := by
 refine asNat_eq fun k' m hx => ?_
 subst hx
 rw [nl]
 by_cases h : m < lim k
 · simp only [h, decide_true, cond_true, aconv]
   rw [wrap_lim h]
 · simp only [h, decide_false, cond_false]
def takeF (cs : List AV) (o n : Nat) (agg : Bool) : Option AV :=
 cond agg (cond (leF (Nat.add o n) cs) (some (.agg ((dropF o cs).take n))) none) (cond (Nat.beq n 1) (nthF cs o) (takeCells cs o n false))
theorem takeF_eq (cs : List AV) (o n : Nat) (agg : Bool) : takeF cs o n agg = takeCells cs o n agg := by
 unfold takeF takeCells
 cases agg with
 | true =>
  rw [leF_eq, dropF_eq]
  by_cases h : o + n ≤ cs.length
  · rw [if_pos h]; simp [show Nat.add o n = o + n from rfl, h]
  · rw [if_neg h]; simp [show Nat.add o n = o + n from rfl, h]
 | false =>
  rw [nb, nthF_eq]
  by_cases h1 : n = 1
  · subst h1
    simp only [decide_true, cond_true, cond_false, Bool.false_eq_true, if_false]
    by_cases h : o + 1 ≤ cs.length
    · rw [if_pos h]
    · rw [if_neg h, List.getElem?_eq_none (by omega)]
  · simp only [h1, decide_false, cond_false]
def fieldF (off sz : Nat) (agg : Bool) (x : AV) : Option AV :=
 match x with
 | .agg cs => takeF cs off sz agg
 | _ => none
theorem fieldF_eq (off sz : Nat) (agg : Bool) (x : AV) : fieldF off sz agg x = afield off sz agg x := by
 unfold fieldF afield; cases x <;> first | rfl | exact takeF_eq _ _ _ _
def idxF (len sz : Nat) (agg : Bool) (x i : AV) : Option AV := asNat i (aidx len sz agg x i) fun k m => match x with
 | .agg cs => cond (Nat.blt m len) (takeF cs (Nat.mul m sz) sz agg) none
 | _ => aidx len sz agg x i
theorem idxF_eq (len sz : Nat) (agg : Bool) (x i : AV) : idxF len sz agg x i = aidx len sz agg x i := by
 refine asNat_eq fun k m hi => ?_
 subst hi
 cases x <;> first | rfl | skip
 rename_i cs
 dsimp only
 rw [nl, takeF_eq]
 simp only [aidx]
 by_cases h : m < len
 · rw [if_pos ⟨Int.natCast_nonneg _, by exact Int.ofNat_lt.2 h⟩]; simp only [h, decide_true, cond_true]; rfl
 · rw [if_neg (fun h2 => h (Int.ofNat_lt.1 h2.2))]; simp only [h, decide_false, cond_false]
def idxsF (x i : AV) : Option AV := asNat i (aidxs x i) fun _ m => match x with
 | .str s => (match nthF s m with | some b => some (.int .u8 (.ofNat b.toNat)) | none => none)
 | _ => aidxs x i
theorem idxsF_eq (x i : AV) : idxsF x i = aidxs x i := by
 refine asNat_eq fun k m hi => ?_
 subst hi
 cases x <;> first | rfl | skip
 rename_i s
 dsimp only
 rw [nthF_eq]
 simp only [aidxs]
 rw [if_pos (show 0 ≤ Int.ofNat m from Int.natCast_nonneg _)]
 show _ = Option.map _ s[m]?
 cases s[m]? <;> rfl
def iaddrF (arr : Option Nat) (sz : Nat) (x i : AV) : Option AV := asNat i (aiaddr arr sz x i) fun _ m => match arr, x with
 | none, .lst _ len cells => cond (Nat.blt m len) (some (.fptr (dropF (Nat.mul m sz) cells))) none
 | none, .row id o len _ => cond (Nat.blt m len) (some (.ptr id (Nat.add o (Nat.mul m sz)))) none
 | some n, .ptr id o => cond (Nat.blt m n) (some (.ptr id (Nat.add o (Nat.mul m sz)))) none
 | some n, .fptr cells => cond (Nat.blt m n) (some (.fptr (dropF (Nat.mul m sz) cells))) none
 | _, _ => aiaddr arr sz x i
theorem iaddrF_eq (arr : Option Nat) (sz : Nat) (x i : AV) : iaddrF arr sz x i = aiaddr arr sz x i := by
 refine asNat_eq fun k m hi => ?_
 subst hi
 have key : ∀ (n : Nat) (v : AV), cond (Nat.blt m n) (some v) none = if 0 ≤ (Int.ofNat m) ∧ (Int.ofNat m) < (n : Int) then some v else none := by
  intro n v
  rw [nl]
  by_cases h : m < n
  · rw [if_pos ⟨Int.natCast_nonneg _, Int.ofNat_lt.2 h⟩]; simp only [h, decide_true, cond_true]
  · rw [if_neg (fun h2 => h (Int.ofNat_lt.1 h2.2))]; simp only [h, decide_false, cond_false]
 cases arr <;> cases x <;> first
  | rfl
  | (dsimp only; rw [key]; simp only [dropF_eq]; rfl)
  | (dsimp only; rw [key]; rfl)
def loadF (T : TH) (n : Nat) (agg : Bool) (x : AV) : Option AV :=
 match x with
 | .ptr id o => (match T.t.get id with | .row cs => takeF cs o n agg | _ => none)
 | .fptr cs => takeF cs 0 n agg
 | _ => none
theorem loadF_eq (T : TH) (n : Nat) (agg : Bool) (x : AV) : loadF T n agg x = aload T.ah n agg x := by
 unfold loadF aload
 cases x <;> first | rfl | skip
 · dsimp only
   show _ = match T.t.get _ with | .row cs => _ | _ => _
   split <;> first | rfl | exact takeF_eq _ _ _ _
 · exact takeF_eq _ _ _ _
end
end Rb
