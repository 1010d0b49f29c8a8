/- A part of the proof (part 3): see the last text. -/
import Derived.Test.YtbkkoplgicffgaaGreatDoorRb2
import Derived.ChangeArms
import Derived.SizedLaws
import Derived.Below
import Derived.Lib.FrozenHead
import Derived.Deep.DeepAppendWide
import Derived.WalkKit
import Derived.Test.YtbkkoplgicffgaaGreatDoorRows
import Derived.KernelRfl
import Derived.ProofKit
import Derived.Lib.Bytealg
import Derived.Laws.Externs
import Derived.Lib.UnsafeStr
import Derived.Lib.FrozenHead2
import Derived.BigRegionIn
import Derived.Stop.LaidErr
import Derived.ChangeBears2
import Derived.Test.YtbkkoplgicffgaaGreatDoorTie
import Derived.Test.YtbkkoplgicffgaaGreatDoorCards
import Derived.Shelf.Strconv.Itoa3
import Derived.Lib.ItoaMem
set_option linter.unusedVariables false
set_option linter.unusedSimpArgs false
namespace Rb
open Go Go.RowKit
section
variable {H : Type} {enc : TypeId × Value → H} {P : Program} {w : World} {sp : Nat → Bool} {held : Bool} {F : FTab}
def Dec (F : FTab) (enc : TypeId × Value → H) (P : Program) (w : World) (sp : Nat → Bool) (held : Bool) (n : Nat) (t : TypeId) {α : Type} (cells : α → List AV) (ok : α → Prop) : Prop :=
 ∀ fuel, fuel ≤ n → ∀ cs d ps, DataW.trod enc P w 0 sp held fuel t cs = some (d, ps) → (∀ m ∈ d.weights P t, m ≤ reachBytes) → ∃ x, ok x ∧ VRs F w (Ghost.mt (allFz w)) (cells x) cs.toArray
theorem Dec.mono {n m : Nat} {t : TypeId} {α : Type} {cells : α → List AV} {ok : α → Prop} (h : Dec F enc P w sp held n t cells ok) (hm : m ≤ n) : Dec F enc P w sp held m t cells ok :=
 fun fuel hf cs d ps ht hw => h fuel (Nat.le_trans hf hm) cs d ps ht hw
theorem Dec.zero {t : TypeId} {α : Type} {cells : α → List AV} {ok : α → Prop} : Dec F enc P w sp held 0 t cells ok := by
 intro fuel hf cs d ps h _
 obtain rfl : fuel = 0 := by omega
 simp [DataW.trod] at h
theorem Dec.int {n : Nat} {t : TypeId} {k : IntKind} (ht : P.underlying t = some (.int k)) : Dec F enc P w sp held n t (fun z : Int => [.int k z]) (fun z => k.min ≤ z ∧ z ≤ k.max) := by
 intro fuel _ cs d ps h _
 obtain ⟨z, rfl, _, hw⟩ := DataW.trod_int ht h
 exact ⟨z, by simpa [Lit.wf] using hw, VRs.one (.int _ _)⟩
theorem Dec.bool {n : Nat} {t : TypeId} (ht : P.underlying t = some .bool) : Dec F enc P w sp held n t (fun z : Bool => [.bool z]) (fun _ => True) := by
 intro fuel _ cs d ps h _
 obtain ⟨z, rfl, _⟩ := DataW.trod_bool ht h
 exact ⟨z, trivial, VRs.one (.bool _)⟩
theorem Dec.string {n : Nat} {t : TypeId} (ht : P.underlying t = some .string) : Dec F enc P w sp held n t (fun z : List UInt8 => [.str z]) (fun z => z.length ≤ 140737488351232) := by
 intro fuel _ cs d ps h hw
 obtain ⟨s, rfl, hd, hl⟩ := DataW.trod_string ht h
 refine ⟨s.data.toList, ?_, VRs.one (VR_string s)⟩
 obtain rfl : d = _ := congrArg Prod.fst hd
 exact hw _ (by simp [DataW.weights])
theorem weights_mem_all {H : Type} {P : Program} {e : TypeId} : ∀ {ds : List (DataW H)} {j : Nat} {d : DataW H}, ds[j]? = some d → ∀ n ∈ d.weights P e, n ∈ DataW.weightsAll P e ds
 | d0 :: ds, 0, d, hd, n, hn => by
  simp only [List.getElem?_cons_zero, Option.some.injEq] at hd
  subst hd
  simp only [DataW.weightsAll, List.mem_append]
  exact .inl hn
 | d0 :: ds, j + 1, d, hd, n, hn => by
  simp only [List.getElem?_cons_succ] at hd
  simp only [DataW.weightsAll, List.mem_append]
  exact .inr (weights_mem_all hd n hn)
def lstA {α : Type} (cells : α → List AV) (xs : List α) : AV := .lst .dead xs.length (xs.flatMap cells)
theorem exists_list {α : Type} {p : Nat → α → Prop} : ∀ (n : Nat), (∀ i, i < n → ∃ x, p i x) → ∃ xs : List α, xs.length = n ∧ ∀ i x, xs[i]? = some x → p i x := by
 intro n
 induction n with
 | zero => intro _; exact ⟨[], rfl, fun i x h => by simp at h⟩
 | succ n ih =>
  intro h
  obtain ⟨xs, hl, hx⟩ := ih fun i hi => h i (by omega)
  obtain ⟨y, hy⟩ := h n (by omega)
  refine ⟨xs ++ [y], by simp [hl], fun i x hi => ?_⟩
  by_cases hlt : i < n
  · rw [List.getElem?_append_left (by omega)] at hi
    exact hx i x hi
  · rw [List.getElem?_append_right (by omega)] at hi
    have : i - xs.length = 0 := by
     rcases Nat.eq_zero_or_pos (i - xs.length) with h | h
     · exact h
     · rw [List.getElem?_eq_none (by simp; omega)] at hi; cases hi
    rw [this] at hi
    simp at hi
    subst hi
    have : i = n := by omega
    rw [this]; exact hy
theorem flat_get {α : Type} {cells : α → List AV} {sz : Nat} (hc : ∀ x, (cells x).length = sz) : ∀ (xs : List α) (j : Nat) (c : AV), (xs.flatMap cells)[j]? = some c → ∃ i k x, j = i * sz + k ∧ k < sz ∧ xs[i]? = some x ∧ (cells x)[k]? = some c := by
 intro xs
 induction xs with
 | nil => intro j c h; simp at h
 | cons y ys ih =>
  intro j c h
  rw [List.flatMap_cons] at h
  by_cases hj : j < sz
  · rw [List.getElem?_append_left (by rw [hc]; exact hj)] at h
    exact ⟨0, j, y, by omega, hj, rfl, h⟩
  · rw [List.getElem?_append_right (by rw [hc]; omega), hc] at h
    obtain ⟨i, k, x, h1, h2, h3, h4⟩ := ih _ _ h
    refine ⟨i + 1, k, x, ?_, h2, by simpa using h3, h4⟩
    rw [Nat.add_mul]; omega
theorem add_at {b o m : Nat} : (Addr.mk b o none).add m = ⟨b, o + m, none⟩ := by
 unfold Addr.add
 split
 · rename_i h; subst h; rfl
 · rfl
theorem Dec.slice {n : Nat} {t e : TypeId} {α : Type} {cells : α → List AV} {ok : α → Prop} (ht : P.underlying t = some (.slice e)) {sz : Nat} (hs : P.cellsOf e = sz) (hz : 0 < sz) (hc : ∀ x, (cells x).length = sz) (h : Dec F enc P w sp held n e cells ok) :
  Dec F enc P w sp held (n + 1) t (fun xs : List α => [lstA cells xs]) (fun xs => xs.length ≤ maxLen ∧ ∀ x ∈ xs, ok x) := by
 intro fuel hf cs d ps hd hwt
 rcases DataW.trod_slice ht hd with ⟨rfl, _⟩ | ⟨a, len, cap, elems, rest, m, rfl, rfl, hdx, _, hle, hcap, hel, helems, _⟩
 · exact ⟨[], ⟨Nat.zero_le _, by simp⟩, VRs.one (.lst0 _ _)⟩
 · have each : ∀ i, i < len → ∃ x, ok x ∧ ∃ ci, w.cells? 0 (a.add (i * sz)) sz = some ci ∧ VRs F w (Ghost.mt (allFz w)) (cells x) ci.toArray := by
     intro i hi
     have h1 := helems i hi
     rw [List.getElem?_eq_getElem (by omega), hs] at h1
     obtain ⟨ci, h2, h3⟩ := Option.bind_eq_some_iff.1 h1
     obtain ⟨x, hx, hv⟩ := h m (by omega) ci _ _ h3 (fun q hq => hwt q (by
       obtain rfl : d = _ := congrArg Prod.fst hdx
       simp only [DataW.weights, ht]
       refine List.mem_cons_of_mem _ (List.mem_append_left _ ?_)
       exact weights_mem_all (j := i) (by rw [List.getElem?_map, List.getElem?_eq_getElem (by omega)]; rfl) q hq))
     exact ⟨x, hx, ci, h2, hv⟩
   obtain ⟨xs, hl, hx⟩ := exists_list len each
   refine ⟨xs, ⟨by omega, fun x hxm => ?_⟩, VRs.one ?_⟩
   · obtain ⟨i, hi, e⟩ := List.mem_iff_getElem.1 hxm
     exact (hx i x (by rw [List.getElem?_eq_getElem hi, e])).1
   · rcases Nat.eq_zero_or_pos len with h0 | h0
     · subst h0
       obtain rfl := List.length_eq_zero_iff.1 hl
       exact .lst0 _ _
     ·
       have hsp : a.spot = none := by
        obtain ⟨x, _, ci, h2, _⟩ := each 0 h0
        obtain ⟨_, h3, h4⟩ := World.cells?_some h2
        have h5 := h4 0 hz
        rw [List.getElem?_eq_getElem (by omega)] at h5
        rw [Nat.zero_mul] at h5
        have e0 : (a.add 0).add 0 = a := by simp [Addr.add]
        rw [e0] at h5
        unfold World.cell? at h5
        split at h5
        · split at h5
          · cases h5
          · rename_i hn; cases ha : a.spot with
            | none => rfl
            | some _ => rw [ha] at hn; simp at hn
        · cases h5
       obtain ⟨b, o, spt⟩ := a
       simp only at hsp
       subst hsp
       have key : ∀ (j : Nat) (c : AV), (xs.flatMap cells)[j]? = some c → ∃ V, w.cell? ⟨b, o + j, none⟩ = some V ∧ VR F w (Ghost.mt (allFz w)) c V := by
        intro j c hj
        obtain ⟨i, k, x, rfl, hk, hxi, hck⟩ := flat_get hc xs j c hj
        obtain ⟨_, ci, h2, hv⟩ := hx i x hxi
        obtain ⟨_, h3, h4⟩ := World.cells?_some h2
        have h5 := h4 k hk
        rw [add_at, add_at, List.getElem?_eq_getElem (by omega)] at h5
        refine ⟨ci[k], by rw [← Nat.add_assoc]; exact h5, hv.2 k c _ hck (by simp [List.getElem?_eq_getElem (show k < ci.length by omega)])⟩
       unfold lstA
       rw [hl]
       refine .lst .dead len _ b o cap (fun j => (w.cell? ⟨b, o + j, none⟩).getD undef) trivial hle (fun j c hj => ?_) fun j c hj => ?_
       · obtain ⟨V, h1, _⟩ := key j c hj
         exact ⟨⟨V, h1⟩, by rw [h1]; rfl⟩
       · obtain ⟨V, h1, h2⟩ := key j c hj
         rw [h1]; exact h2
def chainB (P : Program) : Nat → List (TypeId × Nat) → Bool
 | _, [] => true
 | off, (t, o) :: r => o == off && chainB P (off + P.cellsOf t) r
def totC (P : Program) : List (TypeId × Nat) → Nat
 | [] => 0
 | (t, _) :: r => P.cellsOf t + totC P r
def DecL (F : FTab) (enc : TypeId × Value → H) (P : Program) (w : World) (sp : Nat → Bool) (held : Bool) (n : Nat) (L : List (TypeId × Nat)) {α : Type} (cells : α → List AV) (ok : α → Prop) : Prop :=
 ∀ m, m ≤ n → ∀ (off : Nat) (cs : List Value), chainB P off L = true → (∀ f ∈ L, ∃ y, DataW.trod enc P w 0 sp held m f.1 ((cs.drop f.2).take (P.cellsOf f.1)) = some y ∧ ∀ q ∈ y.1.weights P f.1, q ≤ reachBytes) →
  ∃ x, ok x ∧ VRs F w (Ghost.mt (allFz w)) (cells x) ((cs.drop off).take (totC P L)).toArray
theorem DecL.nil {n : Nat} : DecL F enc P w sp held n [] (fun _ : Unit => []) (fun _ => True) := by
 intro m _ off cs _ _
 exact ⟨(), trivial, by simp only [totC, List.take_zero]; exact VRs.nil⟩
theorem DecL.cons {n : Nat} {t : TypeId} {o : Nat} {L : List (TypeId × Nat)} {α β : Type} {c1 : α → List AV} {c2 : β → List AV} {o1 : α → Prop} {o2 : β → Prop} (h1 : Dec F enc P w sp held n t c1 o1) (h2 : DecL F enc P w sp held n L c2 o2) :
  DecL F enc P w sp held n ((t, o) :: L) (fun x : α × β => c1 x.1 ++ c2 x.2) (fun x => o1 x.1 ∧ o2 x.2) := by
 intro m hm off cs hch hf
 simp only [chainB, Bool.and_eq_true, beq_iff_eq] at hch
 obtain ⟨rfl, hch⟩ := hch
 obtain ⟨⟨d, ps⟩, hy, hyw⟩ := hf (t, o) (by simp)
 obtain ⟨x, hx, hv⟩ := h1 m hm _ _ _ hy hyw
 obtain ⟨y, hy2, hv2⟩ := h2 m hm _ cs hch fun f hfm => hf f (by simp [hfm])
 refine ⟨(x, y), ⟨hx, hy2⟩, ?_⟩
 have e : ((cs.drop o).take (totC P ((t, o) :: L))) = (cs.drop o).take (P.cellsOf t) ++ (cs.drop (o + P.cellsOf t)).take (totC P L) := by
  simp only [totC]
  rw [List.take_add, List.drop_drop]
 rw [e]
 have := hv.app hv2
 simpa using this
theorem Dec.struct {n : Nat} {t : TypeId} {fs : Array Field} (ht : P.underlying t = some (.struct fs)) {L : List (TypeId × Nat)} (hL : fs.toList.map (fun f => (f.type, f.offset)) = L) (hch : chainB P 0 L = true) (htot : P.cellsOf t = totC P L)
  {α : Type} {cells : α → List AV} {ok : α → Prop} (h : DecL F enc P w sp held n L cells ok) : Dec F enc P w sp held (n + 1) t cells ok := by
 intro fuel hf cs d ps hd hwt
 obtain ⟨xs, m, rfl, hdx, hlen, hxl, hfs⟩ := DataW.trod_struct ht hd
 obtain ⟨x, hx, hv⟩ := h m (by omega) 0 cs hch fun f hfm => by
  rw [← hL] at hfm
  obtain ⟨g, hg, rfl⟩ := List.mem_map.1 hfm
  obtain ⟨i, hi, e⟩ := List.mem_iff_getElem.1 hg
  have hi' : i < fs.size := by simpa using hi
  have h1 := hfs i g (by rw [Array.getElem?_eq_getElem hi']; congr 1)
  rw [List.getElem?_eq_getElem (by omega)] at h1
  refine ⟨_, h1, fun q hq => hwt q ?_⟩
  obtain rfl : d = _ := congrArg Prod.fst hdx
  simp only [DataW.weights, ht]
  exact DataW.weights_mem_each (j := i) (t := g.type) (by rw [List.getElem?_map, List.getElem?_eq_getElem hi, e]; rfl) (by rw [List.getElem?_map, List.getElem?_eq_getElem (by omega)]; rfl) q hq
 refine ⟨x, hx, ?_⟩
 rw [List.drop_zero, ← htot, ← hlen, List.take_length] at hv
 exact hv
theorem Dec.map {n : Nat} {t : TypeId} {α β : Type} {c1 : α → List AV} {c2 : β → List AV} {o1 : α → Prop} {o2 : β → Prop} (g : α → β) (hc : ∀ x, c2 (g x) = c1 x) (ho : ∀ x, o1 x → o2 (g x)) (h : Dec F enc P w sp held n t c1 o1) : Dec F enc P w sp held n t c2 o2 := by
 intro fuel hf cs d ps hd hw
 obtain ⟨x, hx, hv⟩ := h fuel hf cs d ps hd hw
 exact ⟨g x, ho x hx, by rw [hc]; exact hv⟩
theorem Dec.arg {t : TypeId} {α : Type} {cells : α → List AV} {ok : α → Prop} (h : ∀ n, Dec F enc P w sp held n t cells ok) {v : Value} {d : DataW H} {ps : List MemPlace} (hd : DataW.Trod enc P w 0 sp held t v d ps) (hw : ∀ m ∈ d.weights P t, m ≤ reachBytes) : ∃ x, ok x ∧ VRs F w (Ghost.mt (allFz w)) (cells x) v.cells := by
 obtain ⟨fuel, hf⟩ := hd
 obtain ⟨x, hx, hv⟩ := h fuel fuel (Nat.le_refl _) _ _ _ hf hw
 exact ⟨x, hx, by simpa using hv⟩
end
end Rb

set_option linter.unusedVariables false
set_option linter.unusedSimpArgs false
namespace Rb
open Go
mutual
structure GType where
 kind : Int
 size : Int
 packed : Bool
 fields : List GField
 count : Int
 elem : List GType
structure GField where
 name : List UInt8
 type : GType
 bits : Bool
 width : Int
end
mutual
def GType.cells : GType → List AV
 | .mk kind size packed fields count elem => [.int .i64 kind, .int .i64 size, .bool packed, .lst .dead fields.length (GField.all fields), .int .i64 count, .lst .dead elem.length (GType.all elem)]
def GType.all : List GType → List AV
 | [] => []
 | x :: r => GType.cells x ++ GType.all r
def GField.cells : GField → List AV
 | .mk name type bits width => .str name :: (GType.cells type ++ [.bool bits, .int .i64 width])
def GField.all : List GField → List AV
 | [] => []
 | x :: r => GField.cells x ++ GField.all r
end
theorem GType.all_eq : ∀ xs : List GType, GType.all xs = xs.flatMap GType.cells
 | [] => rfl
 | x :: r => by rw [GType.all, GType.all_eq r, List.flatMap_cons]
theorem GField.all_eq : ∀ xs : List GField, GField.all xs = xs.flatMap GField.cells
 | [] => rfl
 | x :: r => by rw [GField.all, GField.all_eq r, List.flatMap_cons]
theorem GType.cells_eq (x : GType) : x.cells = [.int .i64 x.kind, .int .i64 x.size, .bool x.packed, lstA GField.cells x.fields, .int .i64 x.count, lstA GType.cells x.elem] := by
 cases x; simp only [GType.cells, GType.all_eq, GField.all_eq, lstA]
theorem GField.cells_eq (x : GField) : x.cells = .str x.name :: (x.type.cells ++ [.bool x.bits, .int .i64 x.width]) := by
 cases x; rfl
theorem GType.len (x : GType) : x.cells.length = 6 := by rw [GType.cells_eq]; rfl
theorem GField.len (x : GField) : x.cells.length = 9 := by rw [GField.cells_eq]; simp [GType.len]
def i64ok (z : Int) : Prop := -9223372036854775808 ≤ z ∧ z ≤ 9223372036854775807
mutual
def GType.ok : GType → Prop
 | .mk kind size packed fields count elem => i64ok kind ∧ i64ok size ∧ fields.length ≤ maxLen ∧ GField.oks fields ∧ i64ok count ∧ elem.length ≤ maxLen ∧ GType.oks elem
def GType.oks : List GType → Prop
 | [] => True
 | x :: r => GType.ok x ∧ GType.oks r
def GField.ok : GField → Prop
 | .mk name type bits width => name.length ≤ 140737488351232 ∧ GType.ok type ∧ i64ok width
def GField.oks : List GField → Prop
 | [] => True
 | x :: r => GField.ok x ∧ GField.oks r
end
theorem GType.oks_iff : ∀ {xs : List GType}, GType.oks xs ↔ ∀ x ∈ xs, x.ok
 | [] => by simp [GType.oks]
 | x :: r => by simp [GType.oks, GType.oks_iff (xs := r)]
theorem GField.oks_iff : ∀ {xs : List GField}, GField.oks xs ↔ ∀ x ∈ xs, x.ok
 | [] => by simp [GField.oks]
 | x :: r => by simp [GField.oks, GField.oks_iff (xs := r)]
section
variable {H : Type} {enc : TypeId × Value → H} {P : Program} {w : World} {sp : Nat → Bool} {held : Bool} {F : FTab}
structure TyOK (P : Program) (ti tb ts tT tF sT sF : TypeId) (fT fF : Array Field) : Prop where
 int : P.underlying ti = some (.int .i64)
 bool : P.underlying tb = some .bool
 str : P.underlying ts = some .string
 typ : P.underlying tT = some (.struct fT)
 fld : P.underlying tF = some (.struct fF)
 slT : P.underlying sT = some (.slice tT)
 slF : P.underlying sF = some (.slice tF)
 lT : fT.toList.map (fun f => (f.type, f.offset)) = [(ti, 0), (ti, 1), (tb, 2), (sF, 3), (ti, 4), (sT, 5)]
 lF : fF.toList.map (fun f => (f.type, f.offset)) = [(ts, 0), (tT, 1), (tb, 7), (ti, 8)]
 cT : P.cellsOf tT = 6
 cF : P.cellsOf tF = 9
 c1 : ∀ t ∈ [ti, tb, ts, sT, sF], P.cellsOf t = 1
theorem Dec_type {ti tb ts tT tF sT sF : TypeId} {fT fF : Array Field} (h : TyOK P ti tb ts tT tF sT sF fT fF) : ∀ n, Dec F enc P w sp held n tT GType.cells GType.ok := by
 have c1 : P.cellsOf ti = 1 := h.c1 _ (by simp)
 have c2 : P.cellsOf tb = 1 := h.c1 _ (by simp)
 have c3 : P.cellsOf ts = 1 := h.c1 _ (by simp)
 have c4 : P.cellsOf sT = 1 := h.c1 _ (by simp)
 have c5 : P.cellsOf sF = 1 := h.c1 _ (by simp)
 have int : ∀ n, Dec F enc P w sp held n ti (fun z : Int => [.int .i64 z]) i64ok := fun n => Dec.map id (fun _ => rfl) (fun x hx => by
   simp only [IntKind.min, IntKind.max, IntKind.signed, IntKind.bits, if_true] at hx
   show -9223372036854775808 ≤ x ∧ x ≤ 9223372036854775807
   omega) (Dec.int h.int)
 intro n
 induction n using Nat.strongRecOn with
 | _ n ih =>
  cases n with
  | zero => exact Dec.zero
  | succ n =>
   have ihT : Dec F enc P w sp held n tT GType.cells GType.ok := ih n (by omega)
   have ihF : Dec F enc P w sp held n tF GField.cells GField.ok := by
    cases n with
    | zero => exact Dec.zero
    | succ n =>
     refine Dec.map (fun (x : List UInt8 × GType × Bool × Int × Unit) => (⟨x.1, x.2.1, x.2.2.1, x.2.2.2.1⟩ : GField)) (fun x => ?_) (fun x hx => ?_)
      (Dec.struct h.fld h.lF (by simp [chainB, c1, c2, c3, h.cT]) (by simp [totC, c1, c2, c3, h.cT, h.cF])
        (DecL.cons (Dec.string h.str) (DecL.cons (ih n (by omega)) (DecL.cons (Dec.bool h.bool) (DecL.cons (int n) DecL.nil)))))
     · simp [GField.cells]
     · exact ⟨hx.1, hx.2.1, hx.2.2.2.1⟩
   refine Dec.map (fun (x : Int × Int × Bool × List GField × Int × List GType × Unit) => (⟨x.1, x.2.1, x.2.2.1, x.2.2.2.1, x.2.2.2.2.1, x.2.2.2.2.2.1⟩ : GType)) (fun x => ?_) (fun x hx => ?_)
    (Dec.struct h.typ h.lT (by simp [chainB, c1, c2, c4, c5]) (by simp [totC, c1, c2, c4, c5, h.cT])
      (DecL.cons (int n) (DecL.cons (int n) (DecL.cons (Dec.bool h.bool) (DecL.cons (Dec.mono (Dec.slice h.slF h.cF (by decide) GField.len ihF) (Nat.le_succ n)) (DecL.cons (int n) (DecL.cons (Dec.mono (Dec.slice h.slT h.cT (by decide) GType.len ihT) (Nat.le_succ n)) DecL.nil)))))))
   · rw [GType.cells_eq]; rfl
   · obtain ⟨h1, h2, _, ⟨h3, h4⟩, h5, ⟨h6, h7⟩, _⟩ := hx
     exact ⟨h1, h2, h3, GField.oks_iff.2 h4, h5, h6, GType.oks_iff.2 h7⟩
end
end Rb

set_option linter.unusedVariables false
set_option linter.unusedSimpArgs false
namespace Rb
open Go
mutual
structure GExpr where
 kind : Int
 n : Int
 name : List UInt8
 op : Int
 order : Int
 place : GPlace
 kids : List GExpr
structure GPlace where
 var : List UInt8
 parts : List GPart
structure GPart where
 field : List UInt8
 index : List GExpr
end
mutual
def GExpr.cells : GExpr → List AV
 | .mk kind n name op order place kids => .int .i64 kind :: .int .u64 n :: .str name :: .int .i64 op :: .int .i64 order :: (GPlace.cells place ++ [.lst .dead kids.length (GExpr.all kids)])
def GExpr.all : List GExpr → List AV
 | [] => []
 | x :: r => GExpr.cells x ++ GExpr.all r
def GPlace.cells : GPlace → List AV
 | .mk var parts => [.str var, .lst .dead parts.length (GPart.all parts)]
def GPart.cells : GPart → List AV
 | .mk field index => [.str field, .lst .dead index.length (GExpr.all index)]
def GPart.all : List GPart → List AV
 | [] => []
 | x :: r => GPart.cells x ++ GPart.all r
end
theorem GExpr.all_eq : ∀ xs : List GExpr, GExpr.all xs = xs.flatMap GExpr.cells
 | [] => rfl
 | x :: r => by rw [GExpr.all, GExpr.all_eq r, List.flatMap_cons]
theorem GPart.all_eq : ∀ xs : List GPart, GPart.all xs = xs.flatMap GPart.cells
 | [] => rfl
 | x :: r => by rw [GPart.all, GPart.all_eq r, List.flatMap_cons]
theorem GPlace.cells_eq (x : GPlace) : x.cells = [.str x.var, lstA GPart.cells x.parts] := by
 cases x; simp only [GPlace.cells, GPart.all_eq, lstA]
theorem GPart.cells_eq (x : GPart) : x.cells = [.str x.field, lstA GExpr.cells x.index] := by
 cases x; simp only [GPart.cells, GExpr.all_eq, lstA]
theorem GExpr.cells_eq (x : GExpr) : x.cells = .int .i64 x.kind :: .int .u64 x.n :: .str x.name :: .int .i64 x.op :: .int .i64 x.order :: (x.place.cells ++ [lstA GExpr.cells x.kids]) := by
 cases x; simp only [GExpr.cells, GExpr.all_eq, lstA]
theorem GPlace.len (x : GPlace) : x.cells.length = 2 := by rw [GPlace.cells_eq]; rfl
theorem GPart.len (x : GPart) : x.cells.length = 2 := by rw [GPart.cells_eq]; rfl
theorem GExpr.len (x : GExpr) : x.cells.length = 8 := by rw [GExpr.cells_eq]; simp [GPlace.len]
def u64ok (z : Int) : Prop := 0 ≤ z ∧ z ≤ 18446744073709551615
mutual
def GExpr.ok : GExpr → Prop
 | .mk kind n name op order place kids => i64ok kind ∧ u64ok n ∧ name.length ≤ 140737488351232 ∧ i64ok op ∧ i64ok order ∧ GPlace.ok place ∧ kids.length ≤ maxLen ∧ GExpr.oks kids
def GExpr.oks : List GExpr → Prop
 | [] => True
 | x :: r => GExpr.ok x ∧ GExpr.oks r
def GPlace.ok : GPlace → Prop
 | .mk var parts => var.length ≤ 140737488351232 ∧ parts.length ≤ maxLen ∧ GPart.oks parts
def GPart.ok : GPart → Prop
 | .mk field index => field.length ≤ 140737488351232 ∧ index.length ≤ maxLen ∧ GExpr.oks index
def GPart.oks : List GPart → Prop
 | [] => True
 | x :: r => GPart.ok x ∧ GPart.oks r
end
theorem GExpr.oks_iff : ∀ {xs : List GExpr}, GExpr.oks xs ↔ ∀ x ∈ xs, x.ok
 | [] => by simp [GExpr.oks]
 | x :: r => by simp [GExpr.oks, GExpr.oks_iff (xs := r)]
theorem GPart.oks_iff : ∀ {xs : List GPart}, GPart.oks xs ↔ ∀ x ∈ xs, x.ok
 | [] => by simp [GPart.oks]
 | x :: r => by simp [GPart.oks, GPart.oks_iff (xs := r)]
structure GVar where
 name : List UInt8
 type : GType
def GVar.cells (x : GVar) : List AV := .str x.name :: x.type.cells
theorem GVar.len (x : GVar) : x.cells.length = 7 := by simp [GVar.cells, GType.len]
def GVar.ok (x : GVar) : Prop := x.name.length ≤ 140737488351232 ∧ x.type.ok
section
variable {H : Type} {enc : TypeId × Value → H} {P : Program} {w : World} {sp : Nat → Bool} {held : Bool} {F : FTab}
theorem Dec.i64 {n : Nat} {ti : TypeId} (h : P.underlying ti = some (.int .i64)) : Dec F enc P w sp held n ti (fun z : Int => [.int .i64 z]) i64ok := Dec.map id (fun _ => rfl) (fun x hx => by
    simp only [IntKind.min, IntKind.max, IntKind.signed, IntKind.bits, if_true] at hx
    show -9223372036854775808 ≤ x ∧ x ≤ 9223372036854775807
    omega) (Dec.int h)
theorem Dec.u64 {n : Nat} {ti : TypeId} (h : P.underlying ti = some (.int .u64)) : Dec F enc P w sp held n ti (fun z : Int => [.int .u64 z]) u64ok := Dec.map id (fun _ => rfl) (fun x hx => by
    simp [IntKind.min, IntKind.max, IntKind.signed, IntKind.bits] at hx
    show 0 ≤ x ∧ x ≤ 18446744073709551615
    omega) (Dec.int h)
structure ExOK (P : Program) (ti tu ts tE tL tR sE sR : TypeId) (fE fL fR : Array Field) : Prop where
 int : P.underlying ti = some (.int .i64)
 u64 : P.underlying tu = some (.int .u64)
 str : P.underlying ts = some .string
 exp : P.underlying tE = some (.struct fE)
 pla : P.underlying tL = some (.struct fL)
 par : P.underlying tR = some (.struct fR)
 slE : P.underlying sE = some (.slice tE)
 slR : P.underlying sR = some (.slice tR)
 lE : fE.toList.map (fun f => (f.type, f.offset)) = [(ti, 0), (tu, 1), (ts, 2), (ti, 3), (ti, 4), (tL, 5), (sE, 7)]
 lL : fL.toList.map (fun f => (f.type, f.offset)) = [(ts, 0), (sR, 1)]
 lR : fR.toList.map (fun f => (f.type, f.offset)) = [(ts, 0), (sE, 1)]
 cE : P.cellsOf tE = 8
 cL : P.cellsOf tL = 2
 cR : P.cellsOf tR = 2
 c1 : ∀ t ∈ [ti, tu, ts, sE, sR], P.cellsOf t = 1
theorem Dec_exprs {ti tu ts tE tL tR sE sR : TypeId} {fE fL fR : Array Field} (h : ExOK P ti tu ts tE tL tR sE sR fE fL fR) :
  ∀ n, Dec F enc P w sp held n tE GExpr.cells GExpr.ok ∧ Dec F enc P w sp held n tL GPlace.cells GPlace.ok ∧ Dec F enc P w sp held n tR GPart.cells GPart.ok := by
 have c1 : P.cellsOf ti = 1 := h.c1 _ (by simp)
 have c2 : P.cellsOf tu = 1 := h.c1 _ (by simp)
 have c3 : P.cellsOf ts = 1 := h.c1 _ (by simp)
 have c4 : P.cellsOf sE = 1 := h.c1 _ (by simp)
 have c5 : P.cellsOf sR = 1 := h.c1 _ (by simp)
 intro n
 induction n with
 | zero => exact ⟨Dec.zero, Dec.zero, Dec.zero⟩
 | succ n ih =>
  obtain ⟨iE, iL, iR⟩ := ih
  have kE := Dec.mono (Dec.slice h.slE h.cE (by decide) GExpr.len iE) (Nat.le_succ n)
  have kR := Dec.mono (Dec.slice h.slR h.cR (by decide) GPart.len iR) (Nat.le_succ n)
  refine ⟨?_, ?_, ?_⟩
  · refine Dec.map (fun (x : Int × Int × List UInt8 × Int × Int × GPlace × List GExpr × Unit) => (⟨x.1, x.2.1, x.2.2.1, x.2.2.2.1, x.2.2.2.2.1, x.2.2.2.2.2.1, x.2.2.2.2.2.2.1⟩ : GExpr)) (fun x => ?_) (fun x hx => ?_)
      (Dec.struct h.exp h.lE (by simp [chainB, c1, c2, c3, c4, h.cL]) (by simp [totC, c1, c2, c3, c4, h.cL, h.cE])
        (DecL.cons (Dec.i64 h.int) (DecL.cons (Dec.u64 h.u64) (DecL.cons (Dec.string h.str) (DecL.cons (Dec.i64 h.int) (DecL.cons (Dec.i64 h.int) (DecL.cons iL (DecL.cons kE DecL.nil))))))))
    · rw [GExpr.cells_eq]; simp
    · obtain ⟨h1, h2, h3, h4, h5, h6, ⟨h7, h8⟩, _⟩ := hx
      exact ⟨h1, h2, h3, h4, h5, h6, h7, GExpr.oks_iff.2 h8⟩
  · refine Dec.map (fun (x : List UInt8 × List GPart × Unit) => (⟨x.1, x.2.1⟩ : GPlace)) (fun x => ?_) (fun x hx => ?_)
      (Dec.struct h.pla h.lL (by simp [chainB, c3, c5]) (by simp [totC, c3, c5, h.cL]) (DecL.cons (Dec.string h.str) (DecL.cons kR DecL.nil)))
    · rw [GPlace.cells_eq]; rfl
    · obtain ⟨h1, ⟨h2, h3⟩, _⟩ := hx
      exact ⟨h1, h2, GPart.oks_iff.2 h3⟩
  · refine Dec.map (fun (x : List UInt8 × List GExpr × Unit) => (⟨x.1, x.2.1⟩ : GPart)) (fun x => ?_) (fun x hx => ?_)
      (Dec.struct h.par h.lR (by simp [chainB, c3, c4]) (by simp [totC, c3, c4, h.cR]) (DecL.cons (Dec.string h.str) (DecL.cons kE DecL.nil)))
    · rw [GPart.cells_eq]; rfl
    · obtain ⟨h1, ⟨h2, h3⟩, _⟩ := hx
      exact ⟨h1, h2, GExpr.oks_iff.2 h3⟩
end
end Rb

set_option linter.unusedVariables false
set_option linter.unusedSimpArgs false
namespace Rb
open Go
structure GStmt where
 kind : Int
 line : Int
 name : List UInt8
 name2 : List UInt8
 order : Int
 place : GPlace
 exprs : List GExpr
 thn : List GStmt
 els : List GStmt
mutual
def GStmt.cells : GStmt → List AV
 | .mk kind line name name2 order place exprs thn els => .int .i64 kind :: .int .i64 line :: .str name :: .str name2 :: .int .i64 order :: (GPlace.cells place ++ [lstA GExpr.cells exprs, .lst .dead thn.length (GStmt.all thn), .lst .dead els.length (GStmt.all els)])
def GStmt.all : List GStmt → List AV
 | [] => []
 | x :: r => GStmt.cells x ++ GStmt.all r
end
theorem GStmt.all_eq : ∀ xs : List GStmt, GStmt.all xs = xs.flatMap GStmt.cells
 | [] => rfl
 | x :: r => by rw [GStmt.all, GStmt.all_eq r, List.flatMap_cons]
theorem GStmt.cells_eq (x : GStmt) : x.cells = .int .i64 x.kind :: .int .i64 x.line :: .str x.name :: .str x.name2 :: .int .i64 x.order :: (x.place.cells ++ [lstA GExpr.cells x.exprs, lstA GStmt.cells x.thn, lstA GStmt.cells x.els]) := by
 cases x; simp only [GStmt.cells, GStmt.all_eq, lstA]
theorem GStmt.len (x : GStmt) : x.cells.length = 10 := by rw [GStmt.cells_eq]; simp [GPlace.len]
mutual
def GStmt.ok : GStmt → Prop
 | .mk kind line name name2 order place exprs thn els => i64ok kind ∧ i64ok line ∧ name.length ≤ 140737488351232 ∧ name2.length ≤ 140737488351232 ∧ i64ok order ∧ GPlace.ok place ∧ exprs.length ≤ maxLen ∧ GExpr.oks exprs ∧ thn.length ≤ maxLen ∧ GStmt.oks thn ∧ els.length ≤ maxLen ∧ GStmt.oks els
def GStmt.oks : List GStmt → Prop
 | [] => True
 | x :: r => GStmt.ok x ∧ GStmt.oks r
end
theorem GStmt.oks_iff : ∀ {xs : List GStmt}, GStmt.oks xs ↔ ∀ x ∈ xs, x.ok
 | [] => by simp [GStmt.oks]
 | x :: r => by simp [GStmt.oks, GStmt.oks_iff (xs := r)]
structure GProg where
 vars : List GVar
 threads : List (List GStmt)
def thrCells (l : List GStmt) : List AV := [lstA GStmt.cells l]
def GProg.cells (x : GProg) : List AV := [lstA GVar.cells x.vars, lstA thrCells x.threads]
def GProg.ok (x : GProg) : Prop := (x.vars.length ≤ maxLen ∧ ∀ v ∈ x.vars, v.ok) ∧ x.threads.length ≤ maxLen ∧ ∀ t ∈ x.threads, t.length ≤ maxLen ∧ ∀ s ∈ t, s.ok
section
variable {H : Type} {enc : TypeId × Value → H} {P : Program} {w : World} {sp : Nat → Bool} {held : Bool} {F : FTab}
theorem Dec_var {ts tT tV : TypeId} {fV : Array Field} (hs : P.underlying ts = some .string) (c3 : P.cellsOf ts = 1) (cT : P.cellsOf tT = 6) (hT : ∀ n, Dec F enc P w sp held n tT GType.cells GType.ok)
  (hV : P.underlying tV = some (.struct fV)) (lV : fV.toList.map (fun f => (f.type, f.offset)) = [(ts, 0), (tT, 1)]) (cV : P.cellsOf tV = 7) : ∀ n, Dec F enc P w sp held n tV GVar.cells GVar.ok := by
 intro n
 refine Dec.mono (n := n + 1) ?_ (Nat.le_succ n)
 refine Dec.map (fun (x : List UInt8 × GType × Unit) => (⟨x.1, x.2.1⟩ : GVar)) (fun x => ?_) (fun x hx => ?_)
  (Dec.struct hV lV (by simp [chainB, c3]) (by simp [totC, c3, cT, cV]) (DecL.cons (Dec.string hs) (DecL.cons (hT n) DecL.nil)))
 · simp [GVar.cells]
 · exact ⟨hx.1, hx.2.1⟩
theorem Dec_stmt {ti tu ts tE tL tR sE sR tS sS : TypeId} {fE fL fR fS : Array Field} (h : ExOK P ti tu ts tE tL tR sE sR fE fL fR) (hS : P.underlying tS = some (.struct fS)) (slS : P.underlying sS = some (.slice tS))
  (lS : fS.toList.map (fun f => (f.type, f.offset)) = [(ti, 0), (ti, 1), (ts, 2), (ts, 3), (ti, 4), (tL, 5), (sE, 7), (sS, 8), (sS, 9)]) (cS : P.cellsOf tS = 10) (csS : P.cellsOf sS = 1) :
  ∀ n, Dec F enc P w sp held n tS GStmt.cells GStmt.ok := by
 have c1 : P.cellsOf ti = 1 := h.c1 _ (by simp)
 have c3 : P.cellsOf ts = 1 := h.c1 _ (by simp)
 have c4 : P.cellsOf sE = 1 := h.c1 _ (by simp)
 intro n
 induction n with
 | zero => exact Dec.zero
 | succ n ih =>
  have kE := Dec.mono (Dec.slice h.slE h.cE (by decide) GExpr.len (Dec_exprs (F := F) (enc := enc) (w := w) (sp := sp) (held := held) h n).1) (Nat.le_succ n)
  have kS := Dec.mono (Dec.slice slS cS (by decide) GStmt.len ih) (Nat.le_succ n)
  refine Dec.map (fun (x : Int × Int × List UInt8 × List UInt8 × Int × GPlace × List GExpr × List GStmt × List GStmt × Unit) => (⟨x.1, x.2.1, x.2.2.1, x.2.2.2.1, x.2.2.2.2.1, x.2.2.2.2.2.1, x.2.2.2.2.2.2.1, x.2.2.2.2.2.2.2.1, x.2.2.2.2.2.2.2.2.1⟩ : GStmt)) (fun x => ?_) (fun x hx => ?_)
   (Dec.struct hS lS (by simp [chainB, c1, c3, c4, csS, h.cL]) (by simp [totC, c1, c3, c4, csS, h.cL, cS])
     (DecL.cons (Dec.i64 h.int) (DecL.cons (Dec.i64 h.int) (DecL.cons (Dec.string h.str) (DecL.cons (Dec.string h.str) (DecL.cons (Dec.i64 h.int) (DecL.cons (Dec_exprs h n).2.1 (DecL.cons kE (DecL.cons kS (DecL.cons kS DecL.nil))))))))))
  · rw [GStmt.cells_eq]; simp
  · obtain ⟨h1, h2, h3, h4, h5, h6, ⟨h7, h8⟩, ⟨h9, h10⟩, ⟨h11, h12⟩, _⟩ := hx
    exact ⟨h1, h2, h3, h4, h5, h6, h7, GExpr.oks_iff.2 h8, h9, GStmt.oks_iff.2 h10, h11, GStmt.oks_iff.2 h12⟩
theorem Dec_prog {tV sV tS sS ssS tP : TypeId} {fP : Array Field} (hV : ∀ n, Dec F enc P w sp held n tV GVar.cells GVar.ok) (hS : ∀ n, Dec F enc P w sp held n tS GStmt.cells GStmt.ok)
  (slV : P.underlying sV = some (.slice tV)) (slS : P.underlying sS = some (.slice tS)) (slSS : P.underlying ssS = some (.slice sS)) (cV : P.cellsOf tV = 7) (cS : P.cellsOf tS = 10) (csS : P.cellsOf sS = 1) (csV : P.cellsOf sV = 1) (cssS : P.cellsOf ssS = 1)
  (hP : P.underlying tP = some (.struct fP)) (lP : fP.toList.map (fun f => (f.type, f.offset)) = [(sV, 0), (ssS, 1)]) (cP : P.cellsOf tP = 2) : ∀ n, Dec F enc P w sp held n tP GProg.cells GProg.ok := by
 intro n
 refine Dec.mono (n := n + 2 + 1) ?_ (by omega)
 have k1 : Dec F enc P w sp held (n + 2) sV (fun xs : List GVar => [lstA GVar.cells xs]) (fun xs => xs.length ≤ maxLen ∧ ∀ x ∈ xs, x.ok) := Dec.slice slV cV (by decide) GVar.len (hV (n + 1))
 have k2 : Dec F enc P w sp held (n + 1) sS thrCells (fun xs => xs.length ≤ maxLen ∧ ∀ x ∈ xs, x.ok) := Dec.slice slS cS (by decide) GStmt.len (hS n)
 have k3 : Dec F enc P w sp held (n + 2) ssS (fun xs : List (List GStmt) => [lstA thrCells xs]) (fun xs => xs.length ≤ maxLen ∧ ∀ x ∈ xs, x.length ≤ maxLen ∧ ∀ y ∈ x, y.ok) := Dec.slice slSS csS (by decide) (fun _ => rfl) k2
 refine Dec.map (fun (x : List GVar × List (List GStmt) × Unit) => (⟨x.1, x.2.1⟩ : GProg)) (fun x => ?_) (fun x hx => ?_)
  (Dec.struct hP lP (by simp [chainB, csV]) (by simp [totC, csV, cssS, cP]) (DecL.cons k1 (DecL.cons k3 DecL.nil)))
 · simp [GProg.cells]
 · exact ⟨hx.1, hx.2.1⟩
end
end Rb

set_option linter.unusedVariables false
namespace Rb
open Go
@[simp] theorem Do_of {α : Type} (a : α) (K : α → Prop) : Do (some a) K ↔ K a := ⟨fun ⟨b, h, k⟩ => by cases h; exact k, fun h => ⟨a, rfl, h⟩⟩
@[simp] theorem DoH_some (v : AV) (H : AH) (K : Post) : DoH (some (v, H)) K ↔ K v H := ⟨fun ⟨a, b, h, k⟩ => by cases h; exact k, fun h => ⟨v, H, rfl, h⟩⟩
@[simp] theorem Gd_true (b : Bool) (A B : Prop) : Gd (.bool b) true A B ↔ if b = true then A else B := Iff.rfl
@[simp] theorem Gd_false (b : Bool) (A B : Prop) : Gd (.bool b) false A B ↔ if b = false then A else B := Iff.rfl
@[simp] theorem JoinP_def (K : List AV → AH → Prop) (st : List AV) (H : AH) : JoinP K st H ↔ K st H := Iff.rfl
@[simp] theorem sl_zero (a : AV) (l : List AV) : sl (a :: l) 0 = a := rfl
@[simp] theorem sl_succ (a : AV) (l : List AV) (i : Nat) : sl (a :: l) (i + 1) = sl l i := rfl
section
variable (k : IntKind) (a b : Int)
@[simp] theorem abin_add : abin .add (.int k a) (.int k b) = some (.int k (k.wrap (a + b))) := by simp [abin, abinInt]
@[simp] theorem abin_sub : abin .sub (.int k a) (.int k b) = some (.int k (k.wrap (a - b))) := by simp [abin, abinInt]
@[simp] theorem abin_mul : abin .mul (.int k a) (.int k b) = some (.int k (k.wrap (a * b))) := by simp [abin, abinInt]
@[simp] theorem abin_eql : abin .eql (.int k a) (.int k b) = some (.bool (a == b)) := by simp [abin, abinInt]
@[simp] theorem abin_neq : abin .neq (.int k a) (.int k b) = some (.bool (a != b)) := by simp [abin, abinInt]
@[simp] theorem abin_lss : abin .lss (.int k a) (.int k b) = some (.bool (decide (a < b))) := by simp [abin, abinInt]
@[simp] theorem abin_leq : abin .leq (.int k a) (.int k b) = some (.bool (decide (a ≤ b))) := by simp [abin, abinInt]
@[simp] theorem abin_gtr : abin .gtr (.int k a) (.int k b) = some (.bool (decide (a > b))) := by simp [abin, abinInt]
@[simp] theorem abin_geq : abin .geq (.int k a) (.int k b) = some (.bool (decide (a ≥ b))) := by simp [abin, abinInt]
theorem abin_rem (h : b ≠ 0) : abin .rem (.int k a) (.int k b) = some (.int k (a.tmod b)) := by simp [abin, abinInt, h]
theorem abin_quo (h : b ≠ 0) : abin .quo (.int k a) (.int k b) = some (.int k (k.wrap (a.tdiv b))) := by simp [abin, abinInt, h]
@[simp] theorem abin_and : abin .and (.int k a) (.int k b) = some (.int k (k.wrap (BitVec.ofInt k.bits a &&& BitVec.ofInt k.bits b).toNat)) := by simp [abin, abinInt, bitsOp]
@[simp] theorem abin_or : abin .or (.int k a) (.int k b) = some (.int k (k.wrap (BitVec.ofInt k.bits a ||| BitVec.ofInt k.bits b).toNat)) := by simp [abin, abinInt, bitsOp]
@[simp] theorem abin_xor : abin .xor (.int k a) (.int k b) = some (.int k (k.wrap (BitVec.ofInt k.bits a ^^^ BitVec.ofInt k.bits b).toNat)) := by simp [abin, abinInt, bitsOp]
theorem abin_shr (k' : IntKind) (h : 0 ≤ b) : abin .shr (.int k a) (.int k' b) = some (.int k (a.fdiv (2 ^ (min b.toNat k.bits)))) := by simp [abin, abinInt, Int.not_lt.2 h]
theorem abin_shl (k' : IntKind) (h : 0 ≤ b) : abin .shl (.int k a) (.int k' b) = some (.int k (k.wrap (a * 2 ^ (min b.toNat k.bits)))) := by simp [abin, abinInt, Int.not_lt.2 h]
@[simp] theorem aconv_int (k' : IntKind) : aconv k' (.int k a) = some (.int k' (k'.wrap a)) := rfl
@[simp] theorem abeq_def (neg : Bool) (x y : Bool) : abeq neg (.bool x) (.bool y) = some (.bool (if neg then !(x == y) else x == y)) := rfl
@[simp] theorem aun_not (x : Bool) : aun .not (.bool x) = some (.bool !x) := rfl
end
@[simp] theorem alen_lst (tk : Tok) (n : Nat) (cs : List AV) : alen false (.lst tk n cs) = some (.int .i64 n) := rfl
@[simp] theorem alen_row (id o n sz : Nat) : alen false (.row id o n sz) = some (.int .i64 n) := rfl
@[simp] theorem alen_str (s : List UInt8) : alen true (.str s) = some (.int .i64 s.length) := rfl
end Rb

set_option linter.unusedVariables false
namespace Rb
open Go
def AH.Ext (H H' : AH) : Prop := H.n ≤ H'.n ∧ ∀ i, i < H.n → H'.o i = H.o i
theorem AH.Ext.refl (H : AH) : AH.Ext H H := ⟨Nat.le_refl _, fun _ _ => rfl⟩
theorem AH.Ext.trans {a b c : AH} (h : AH.Ext a b) (k : AH.Ext b c) : AH.Ext a c := ⟨Nat.le_trans h.1 k.1, fun i hi => (k.2 i (Nat.lt_of_lt_of_le hi h.1)).trans (h.2 i hi)⟩
theorem AH.Ext.push (H : AH) (x : AObj) : AH.Ext H (H.push x) := ⟨Nat.le_succ _, fun i hi => if_neg (Nat.ne_of_lt hi)⟩
theorem AH.Ext.set {H H' : AH} (h : AH.Ext H H') {i : Nat} (hi : H.n ≤ i) (x : AObj) : AH.Ext H (H'.set i x) := ⟨h.1, fun j hj => by
  simp only [AH.set]; rw [if_neg (by omega)]; exact h.2 j hj⟩
@[simp] theorem AH.push_n (H : AH) (x : AObj) : (H.push x).n = H.n + 1 := rfl
@[simp] theorem AH.set_n (H : AH) (i : Nat) (x : AObj) : (H.set i x).n = H.n := rfl
theorem AH.push_self (H : AH) (x : AObj) : (H.push x).o H.n = x := if_pos rfl
theorem AH.push_ne (H : AH) (x : AObj) {i : Nat} (h : i ≠ H.n) : (H.push x).o i = H.o i := if_neg h
theorem AH.set_self (H : AH) (i : Nat) (x : AObj) : (H.set i x).o i = x := if_pos rfl
theorem AH.set_ne (H : AH) {i j : Nat} (x : AObj) (h : j ≠ i) : (H.set i x).o j = H.o j := if_neg h
theorem wrap_i64 {n : Int} (h1 : -9223372036854775808 ≤ n) (h2 : n ≤ 9223372036854775807) : IntKind.wrap .i64 n = n := by
 simp [IntKind.wrap, IntKind.signed, IntKind.bits]; omega
theorem wrap_u64 {n : Int} (h1 : 0 ≤ n) (h2 : n < 18446744073709551616) : IntKind.wrap .u64 n = n := by
 simp [IntKind.wrap, IntKind.signed, IntKind.bits]; omega
theorem wrap_u8 {n : Int} (h1 : 0 ≤ n) (h2 : n < 256) : IntKind.wrap .u8 n = n := by
 simp [IntKind.wrap, IntKind.signed, IntKind.bits]; omega
theorem wrap_u32 {n : Int} (h1 : 0 ≤ n) (h2 : n < 4294967296) : IntKind.wrap .u32 n = n := by
 simp [IntKind.wrap, IntKind.signed, IntKind.bits]; omega
def Lst (H0 H : AH) (sz : Nat) (x : AV) (len : Nat) (cells : List AV) : Prop :=
 AH.Ext H0 H ∧ ∃ tk, x = .lst tk len cells ∧ cells.length = len * sz ∧ ((tk = .nil ∧ len = 0) ∨ ∃ t, tk = .own t ∧ H0.n ≤ t ∧ t < H.n ∧ H.o t = .tok (len * sz) sz)
theorem Lst.nil (H : AH) (sz : Nat) : Lst H H sz (.lst .nil 0 []) 0 [] := ⟨AH.Ext.refl H, .nil, rfl, by simp, .inl ⟨rfl, rfl⟩⟩
theorem Lst.append {H0 H : AH} {sz bytes len m : Nat} {x y : AV} {cells news : List AV} {K : Post} (h : Lst H0 H sz x len cells) (hy : acells H sz y = some (m, news)) (hn : news.length = m * sz) (hs : news.all AV.scalar = true) (hm : m ≠ 0)
  (hb : (len + m) * bytes ≤ 140737488355328) (hl : len + m ≤ 9223372036854775807) (hK : ∀ x' H', Lst H0 H' sz x' (len + m) (cells ++ news) → K x' H') : DoH (aappend H false sz bytes x y) K := by
 obtain ⟨hx, tk, rfl, hc, htk⟩ := h
 have hlen : (cells ++ news).length = (len + m) * sz := by simp [hc, hn, Nat.add_mul]
 rcases htk with ⟨rfl, rfl⟩ | ⟨t, rfl, h1, h2, h3⟩
 · refine ⟨.lst (.own H.n) (0 + m) (cells ++ news), H.push (.tok ((0 + m) * sz) sz), ?_, hK _ _ ⟨hx.trans (AH.Ext.push _ _), _, rfl, hlen, .inr ⟨H.n, rfl, hx.1, Nat.lt_succ_self _, AH.push_self _ _⟩⟩⟩
   simp only [aappend, hy, hs, not_true_eq_false, if_false, if_neg hm]
   rw [if_neg (by simp only [Decidable.not_not]; exact ⟨hc, hb, hl⟩)]
 · refine ⟨.lst (.own H.n) (len + m) (cells ++ news), (H.set t .gone).push (.tok ((len + m) * sz) sz), ?_, hK _ _ ⟨(hx.set h1 _).trans (AH.Ext.push _ _), _, rfl, hlen, .inr ⟨H.n, rfl, hx.1, Nat.lt_succ_self _, AH.push_self _ _⟩⟩⟩
   simp only [aappend, hy, hs, not_true_eq_false, if_false, if_neg hm]
   rw [if_neg (by simp only [Decidable.not_not]; exact ⟨hc, hb, hl⟩)]
   simp [h3]
def At (H : AH) (id : Nat) (x : AObj) : Prop := id < H.n ∧ H.o id = x
theorem At.new (H : AH) (x : AObj) : At (H.push x) H.n x := ⟨Nat.lt_succ_self _, AH.push_self H x⟩
theorem At.ext {H H' : AH} {id : Nat} {x : AObj} (h : At H id x) (hE : AH.Ext H H') : At H' id x := ⟨Nat.lt_of_lt_of_le h.1 hE.1, (hE.2 id h.1).trans h.2⟩
theorem At.push {H : AH} {id : Nat} {x : AObj} (h : At H id x) (y : AObj) : At (H.push y) id x := h.ext (AH.Ext.push H y)
theorem At.set_ne {H : AH} {id i : Nat} {x : AObj} (h : At H id x) (hne : id ≠ i) (y : AObj) : At (H.set i y) id x := ⟨h.1, (AH.set_ne H y hne).trans h.2⟩
theorem At.set {H : AH} {id : Nat} {x : AObj} (h : At H id x) (y : AObj) : At (H.set id y) id y := ⟨h.1, AH.set_self H id y⟩
theorem At.ne {H : AH} {id i : Nat} {x y : AObj} (h : At H id x) (k : At H i y) (hxy : x ≠ y) : id ≠ i := fun e => hxy (by rw [← h.2, ← k.2, e])
theorem At.lt_new {H : AH} {id : Nat} {x : AObj} (h : At H id x) : id ≠ H.n := Nat.ne_of_lt h.1
theorem At.load {H : AH} {id : Nat} {cs : List AV} (h : At H id (.row cs)) (n o : Nat) (agg : Bool) : aload H n agg (.ptr id o) = takeCells cs o n agg := by simp [aload, h.2]
theorem At.store {H : AH} {id : Nat} {cs : List AV} (h : At H id (.row cs)) (n o : Nat) (v : AV) : astore H n (.ptr id o) v = if v.known ∧ v.cells.length = n ∧ v.cells.all AV.scalar ∧ o + n ≤ cs.length then some (H.set id (.row (setCells cs o v.cells))) else none := by simp [astore, h.2]
end Rb

set_option linter.unusedVariables false
namespace Rb
open Go
@[simp] theorem Gd3_true (b : Bool) (A B C : Prop) : Gd3 (.bool b) true A B C ↔ if b = true then A else B := Iff.rfl
@[simp] theorem Gd3_false (b : Bool) (A B C : Prop) : Gd3 (.bool b) false A B C ↔ if b = false then A else B := Iff.rfl
@[simp] theorem Gd3_tup (want : Bool) (A B C : Prop) : Gd3 (.tup []) want A B C ↔ C := Iff.rfl
theorem ite_both {c : Prop} [Decidable c] {A B : Prop} (h1 : c → A) (h2 : ¬ c → B) : if c then A else B := by
 split
 · exact h1 ‹_›
 · exact h2 ‹_›
theorem drop_nil_le {α : Type} {xs : List α} {i : Nat} (h : xs.drop i = []) : xs.length ≤ i := by simpa using h
theorem drop_cons_lt {α : Type} {xs ys : List α} {i : Nat} {y : α} (h : xs.drop i = y :: ys) : i < xs.length ∧ xs[i]? = some y ∧ xs.drop (i + 1) = ys := by
 have hlt : i < xs.length := by
  rcases Nat.lt_or_ge i xs.length with h' | h'
  · exact h'
  · rw [List.drop_eq_nil_of_le h'] at h; cases h
 refine ⟨hlt, ?_, ?_⟩
 · have := congrArg (fun l => l[0]?) h
   simpa using this
 · have := congrArg List.tail h
   simpa using this
end Rb

set_option linter.unusedVariables false
set_option linter.unusedSimpArgs false
namespace Rb
open Go
section
variable {α : Type} {cells : α → List AV} {sz : Nat}
theorem flatMap_drop (hc : ∀ x, (cells x).length = sz) : ∀ (xs : List α) (i : Nat), (xs.flatMap cells).drop (i * sz) = (xs.drop i).flatMap cells := by
 intro xs i
 induction i generalizing xs with
 | zero => simp
 | succ i ih =>
  cases xs with
  | nil => simp
  | cons x xs =>
   rw [List.flatMap_cons, List.drop_succ_cons, ← ih]
   rw [show (i + 1) * sz = (cells x).length + i * sz by rw [hc, Nat.add_mul, Nat.one_mul, Nat.add_comm], ← List.drop_drop, List.drop_left]
theorem flatMap_len (hc : ∀ x, (cells x).length = sz) (xs : List α) : (xs.flatMap cells).length = xs.length * sz := by
 induction xs with
 | nil => simp
 | cons x xs ih => rw [List.flatMap_cons, List.length_append, ih, hc, List.length_cons, Nat.add_mul]; omega
def elA (cells : α → List AV) (sz : Nat) (xs : List α) (i : Nat) : AV := .fptr ((xs.flatMap cells).drop (i * sz))
theorem lstA_addr {xs : List α} {i : Nat} (hi : i < xs.length) : aiaddr none sz (lstA cells xs) (.int .i64 i) = some (elA cells sz xs i) := by
 simp only [lstA, aiaddr]
 rw [if_pos ⟨by omega, by omega⟩]; rfl
theorem elA_load (hc : ∀ x, (cells x).length = sz) (hz : 0 < sz) (H : AH) {xs : List α} {i : Nat} {x : α} (hx : xs[i]? = some x) : aload H sz true (elA cells sz xs i) = some (.agg (cells x)) := by
 have hlt := (List.getElem?_eq_some_iff.1 hx).1
 have hd : xs.drop i = x :: xs.drop (i + 1) := by
  rw [List.drop_eq_getElem_cons hlt]
  rw [List.getElem?_eq_getElem hlt] at hx
  simp at hx
  rw [hx]
 show takeCells ((xs.flatMap cells).drop (i * sz)) 0 sz true = _
 rw [flatMap_drop hc, hd, List.flatMap_cons]
 unfold takeCells
 rw [if_pos (by rw [List.length_append, hc]; omega)]
 simp only [if_true, List.drop_zero]
 rw [List.take_append_of_le_length (by rw [hc]; omega), List.take_of_length_le (by rw [hc]; omega)]
def IndexFuncL (sz : Nat) (Φ : Calls') (a0 : AV) (a1 : AV) (x1 : AV) (Q : Post) : (List AV × AH) → ((List AV × AH) → Prop) → Prop := fun s2 L3 =>
 Do (abin .lss (sl s2.1 0) x1) fun x4 =>
 Gd x4 true (
 Do (aiaddr none sz a0 (sl s2.1 0)) fun x5 =>
 Do (aload s2.2 sz true x5) fun x6 =>
 ∃ k9 c10, a1 = .fn k9 c10 ∧ Φ k9 ([x6] ++ c10) s2.2 fun x7 H8 =>
 Gd x7 true (
 Q (sl s2.1 0) H8) (
 Do (abin .add (sl s2.1 0) (.int .i64 1)) fun x11 =>
 L3 ([x11], H8))) (
 Q (.int .i64 (-1)) s2.2)
def IndexFunc (sz : Nat) (Φ : Calls') (a0 : AV) (a1 : AV) (H : AH) (Q : Post) : Prop :=
 Do (alen false a0) fun x1 =>
 LoopP (IndexFuncL sz Φ a0 a1 x1 Q) ([(.int .i64 0)], H)
def idxI : Option Nat → Int
 | some i => i
 | none => -1
theorem IndexFunc_spec {Φ : Calls'} (hc : ∀ x, (cells x).length = sz) (hz : 0 < sz) {p : α → Bool} {key : Nat} {caps : List AV} {xs : List α} {H : AH} (hf : ∀ x ∈ xs, ∀ (R : Post), R (.bool (p x)) H → Φ key ([.agg (cells x)] ++ caps) H R) (hl : xs.length ≤ 9223372036854775807) {Q : Post}
  (hQ : Q (.int .i64 (idxI (xs.findIdx? p))) H) : IndexFunc sz Φ (lstA cells xs) (.fn key caps) H Q := by
 unfold IndexFunc
 have hlen : alen false (lstA cells xs) = some (.int .i64 xs.length) := rfl
 rw [hlen]
 simp only [Do_of]
 have main : ∀ (ys : List α) (i : Nat), xs.drop i = ys → Q (.int .i64 (idxI ((ys.findIdx? p).map (· + i)))) H → LoopP (IndexFuncL sz Φ (lstA cells xs) (.fn key caps) (.int .i64 xs.length) Q) ([.int .i64 i], H) := by
  intro ys
  induction ys with
  | nil =>
   intro i hi hq
   have hle := drop_nil_le hi
   refine LoopP.step ?_
   simp only [IndexFuncL, sl_zero, abin_lss, Do_of, Gd_true]
   rw [if_neg (by simp only [decide_eq_true_eq]; omega)]
   simpa [idxI] using hq
  | cons y ys ih =>
   intro i hi hq
   obtain ⟨hlt, hy, hd⟩ := drop_cons_lt hi
   refine LoopP.step ?_
   simp only [IndexFuncL, sl_zero, abin_lss, Do_of, Gd_true]
   rw [if_pos (by simp only [decide_eq_true_eq]; omega), lstA_addr hlt]
   simp only [Do_of]
   rw [elA_load hc hz H hy]
   simp only [Do_of]
   refine ⟨key, caps, rfl, hf y (List.mem_of_getElem? hy) _ ?_⟩
   simp only [Gd_true]
   rw [List.findIdx?_cons] at hq
   by_cases he : p y = true
   · rw [if_pos he]
     rw [if_pos he] at hq
     simpa [idxI] using hq
   · rw [if_neg he]
     rw [if_neg he] at hq
     simp only [abin_add, Do_of]
     rw [wrap_i64 (by omega) (by omega), show ((i : Int) + 1) = ((i + 1 : Nat) : Int) by simp]
     refine ih (i + 1) hd ?_
     have : (List.findIdx? p ys).map (· + (i + 1)) = ((List.findIdx? p ys).map (· + 1)).map (· + i) := by
      rw [Option.map_map]; congr 1; funext k; simp only [Function.comp]; omega
     rw [this]; exact hq
 refine main xs 0 rfl ?_
 simpa using hQ
end
end Rb

set_option linter.unusedVariables false
set_option linter.unusedSimpArgs false
namespace Rb
open Go
theorem frozs_app (a b : List AV) : AV.frozs (a ++ b) = (AV.frozs a && AV.frozs b) := by
 rw [frozs_all, frozs_all, frozs_all, List.all_append]
mutual
theorem GType.froz : ∀ x : GType, AV.frozs x.cells = true
 | .mk kind size packed fields count elem => by
  simp only [GType.cells, AV.frozs, AV.froz, Tok.free, GField.allFroz fields, GType.allFroz elem, Bool.and_self]
theorem GType.allFroz : ∀ xs : List GType, AV.frozs (GType.all xs) = true
 | [] => rfl
 | x :: r => by rw [GType.all, frozs_app, GType.froz x, GType.allFroz r]; rfl
theorem GField.froz : ∀ x : GField, AV.frozs x.cells = true
 | .mk name type bits width => by
  simp only [GField.cells, AV.frozs, AV.froz, frozs_app, GType.froz type, Bool.and_self]
theorem GField.allFroz : ∀ xs : List GField, AV.frozs (GField.all xs) = true
 | [] => rfl
 | x :: r => by rw [GField.all, frozs_app, GField.froz x, GField.allFroz r]; rfl
end
mutual
theorem GExpr.froz : ∀ x : GExpr, AV.frozs x.cells = true
 | .mk kind n name op order place kids => by
  simp only [GExpr.cells, AV.frozs, AV.froz, frozs_app, Tok.free, GPlace.froz place, GExpr.allFroz kids, Bool.and_self]
theorem GExpr.allFroz : ∀ xs : List GExpr, AV.frozs (GExpr.all xs) = true
 | [] => rfl
 | x :: r => by rw [GExpr.all, frozs_app, GExpr.froz x, GExpr.allFroz r]; rfl
theorem GPlace.froz : ∀ x : GPlace, AV.frozs x.cells = true
 | .mk var parts => by simp only [GPlace.cells, AV.frozs, AV.froz, Tok.free, GPart.allFroz parts, Bool.and_self]
theorem GPart.froz : ∀ x : GPart, AV.frozs x.cells = true
 | .mk field index => by simp only [GPart.cells, AV.frozs, AV.froz, Tok.free, GExpr.allFroz index, Bool.and_self]
theorem GPart.allFroz : ∀ xs : List GPart, AV.frozs (GPart.all xs) = true
 | [] => rfl
 | x :: r => by rw [GPart.all, frozs_app, GPart.froz x, GPart.allFroz r]; rfl
end
theorem lstA_froz {α : Type} {cells : α → List AV} (h : ∀ x, AV.frozs (cells x) = true) (xs : List α) : (lstA cells xs).froz = true := by
 have : AV.frozs (xs.flatMap cells) = true := by
  induction xs with
  | nil => rfl
  | cons x xs ih => rw [List.flatMap_cons, frozs_app, h, ih]; rfl
 simp only [lstA, AV.froz, Tok.free, this, Bool.and_self]
theorem GVar.froz (x : GVar) : AV.frozs x.cells = true := by simp only [GVar.cells, AV.frozs, AV.froz, GType.froz, Bool.and_self]
mutual
theorem GStmt.froz : ∀ x : GStmt, AV.frozs x.cells = true
 | .mk kind line name name2 order place exprs thn els => by
  simp only [GStmt.cells, AV.frozs, AV.froz, frozs_app, Tok.free, GPlace.froz place, lstA_froz GExpr.froz exprs, GStmt.allFroz thn, GStmt.allFroz els, Bool.and_self]
theorem GStmt.allFroz : ∀ xs : List GStmt, AV.frozs (GStmt.all xs) = true
 | [] => rfl
 | x :: r => by rw [GStmt.all, frozs_app, GStmt.froz x, GStmt.allFroz r]; rfl
end
theorem thr_froz (l : List GStmt) : AV.frozs (thrCells l) = true := by simp only [thrCells, AV.frozs, lstA_froz GStmt.froz, Bool.and_self]
theorem GProg.froz (x : GProg) : AV.frozs x.cells = true := by simp only [GProg.cells, AV.frozs, lstA_froz GVar.froz, lstA_froz thr_froz, Bool.and_self]
end Rb

set_option linter.unusedVariables false
set_option linter.unusedSimpArgs false
namespace Rb
open Go
mutual
def AV.weak : AV → AV
 | .fptr cs => .fptr (AV.weaks cs)
 | .lst _ len cs => .lst .dead len (AV.weaks cs)
 | .fn k cs => .fn k (AV.weaks cs)
 | .iface t v => .iface t (AV.weak v)
 | .agg cs => .agg (AV.weaks cs)
 | .tup cs => .tup (AV.weaks cs)
 | v => v
def AV.weaks : List AV → List AV
 | [] => []
 | c :: r => AV.weak c :: AV.weaks r
end
theorem weaks_map : ∀ cs : List AV, AV.weaks cs = cs.map AV.weak
 | [] => rfl
 | c :: r => by rw [AV.weaks, weaks_map r]; rfl
theorem weaks_get {cs : List AV} {j : Nat} {c : AV} (h : (AV.weaks cs)[j]? = some c) : ∃ d, cs[j]? = some d ∧ c = d.weak := by
 rw [weaks_map, List.getElem?_map] at h
 cases hc : cs[j]? with
 | none => rw [hc] at h; cases h
 | some d => rw [hc] at h; simp at h; exact ⟨d, rfl, h.symm⟩
theorem weaks_len (cs : List AV) : (AV.weaks cs).length = cs.length := by rw [weaks_map, List.length_map]
theorem VR.weak {F : FTab} {w : World} {G : Ghost} {c : AV} {V : Value} (h : VR F w G c V) : VR F w G c.weak V := by
 induction h with
 | bot V => exact .bot V
 | bool b => exact .bool b
 | int k n => exact .int k n
 | str s => exact .str s
 | nilp => exact .nilp
 | ptr id off h => exact .ptr id off h
 | fptr cells b o Vs h _ ih =>
  refine .fptr _ b o Vs (fun j c hj => ?_) fun j c hj => ?_
  · obtain ⟨d, hd, rfl⟩ := weaks_get hj; exact h j d hd
  · obtain ⟨d, hd, rfl⟩ := weaks_get hj; exact ih j d hd
 | lstnil => exact .lst0 none 0
 | lst0 a cap => exact .lst0 a cap
 | lst tk len cells b o cap Vs ht hle h _ ih =>
  refine .lst .dead len _ b o cap Vs trivial hle (fun j c hj => ?_) fun j c hj => ?_
  · obtain ⟨d, hd, rfl⟩ := weaks_get hj; exact h j d hd
  · obtain ⟨d, hd, rfl⟩ := weaks_get hj; exact ih j d hd
 | row id off len sz cap h hle hc => exact .row id off len sz cap h hle hc
 | map id h => exact .map id h
 | nilmap => exact .nilmap
 | fn key caps f Vs hk hf hl _ ih =>
  refine .fn key _ f Vs hk hf (by rw [weaks_len]; exact hl) fun j c V hc hV => ?_
  obtain ⟨d, hd, rfl⟩ := weaks_get hc; exact ih j d V hd hV
 | bfn key k caps f Vs hk hf hl _ ih =>
  refine .bfn key k _ f Vs hk hf (by rw [weaks_len]; exact hl) fun j c V hc hV => ?_
  obtain ⟨d, hd, rfl⟩ := weaks_get hc; exact ih j d V hd hV
 | nilfn => exact .nilfn
 | iface t v V _ ih => exact .iface t _ V ih
 | nilif => exact .nilif
 | agg cs Vs hl _ ih =>
  refine .agg _ Vs (by rw [weaks_len]; exact hl) fun j c V hc hV => ?_
  obtain ⟨d, hd, rfl⟩ := weaks_get hc; exact ih j d V hd hV
 | tup cs Vs hl _ ih =>
  refine .tup _ Vs (by rw [weaks_len]; exact hl) fun j c V hc hV => ?_
  obtain ⟨d, hd, rfl⟩ := weaks_get hc; exact ih j d V hd hV
theorem ACall.weak {C : Ctx} {key : Nat} {args : List AV} {H : AH} {Q : Post} (h : ACall C key args H (fun v H' => Q v.weak H')) : ACall C key args H Q := by
 refine ⟨by obtain ⟨v, H', hq⟩ := h.1; exact ⟨_, _, hq⟩, fun f hf G w Vs hG hrel hargs => ?_⟩
 refine Calls.mono (h.2 f hf G w Vs hG hrel hargs) fun e w' he => ?_
 obtain ⟨V, v, H', G', e1, hQ, hv, r⟩ := he
 exact ⟨V, v.weak, H', G', e1, hQ, hv.weak, r⟩
theorem ACall.weak_args {C : Ctx} {key : Nat} {args : List AV} {H : AH} {Q : Post} (h : ACall C key (AV.weaks args) H Q) : ACall C key args H Q := by
 refine ⟨h.1, fun f hf G w Vs hG hrel hargs => ?_⟩
 refine h.2 f hf G w Vs hG hrel ⟨by rw [weaks_len]; exact hargs.1, fun j c V hc hV => ?_⟩
 obtain ⟨d, hd, rfl⟩ := weaks_get hc
 exact (hargs.2 j d V hd hV).weak
end Rb

set_option linter.unusedVariables false
set_option linter.unusedSimpArgs false
namespace Rb
open Go
@[simp] theorem AH.push_set (H : AH) (x y : AObj) : (H.push x).set H.n y = H.push y := by
 simp only [AH.push, AH.set]
 congr 1
 funext j
 split <;> rfl
@[simp] theorem load_push (H : AH) (cs : List AV) (n o : Nat) (agg : Bool) : aload (H.push (.row cs)) n agg (.ptr H.n o) = takeCells cs o n agg := by
 simp [aload, AH.push_self]
theorem store_push (H : AH) (cs : List AV) (n o : Nat) (v : AV) (h1 : v.known = true) (h2 : v.cells.length = n) (h3 : v.cells.all AV.scalar = true) (h4 : o + n ≤ cs.length) : astore (H.push (.row cs)) n (.ptr H.n o) v = some (H.push (.row (setCells cs o v.cells))) := by
 rw [(At.new H (.row cs)).store, if_pos ⟨h1, h2, h3, h4⟩, AH.push_set]
theorem setCells_all {xs ys : List AV} : ∀ {k : Nat}, k + ys.length = xs.length → setCells xs k ys = xs.take k ++ ys := by
 induction ys generalizing xs with
 | nil => intro k h; simp only [setCells]; rw [List.append_nil, List.take_of_length_le (by simp at h; omega)]
 | cons y ys ih =>
  intro k h
  simp only [setCells]
  rw [ih (by simp at h ⊢; omega)]
  have hk : k < xs.length := by simp at h; omega
  rw [List.take_add_one, List.getElem?_set_self hk, List.take_set_of_le (by omega)]
  simp
theorem store_new (H : AH) (zs cs : List AV) (n : Nat) (h2 : cs.length = n) (h3 : cs.all AV.scalar = true) (h4 : zs.length = n) : astore (H.push (.row zs)) n (.ptr H.n 0) (.agg cs) = some (H.push (.row cs)) := by
 rw [store_push H zs n 0 (.agg cs) rfl h2 h3 (by omega)]
 congr 3
 show setCells zs 0 cs = cs
 rw [setCells_all (by omega)]; rfl
theorem takeCells_app {a b : List AV} {n : Nat} (h : a.length = n) : takeCells (a ++ b) 0 n true = some (.agg a) := by
 unfold takeCells
 rw [if_pos (by rw [List.length_append]; omega)]
 simp only [if_true, List.drop_zero]
 rw [List.take_append_of_le_length (by omega), List.take_of_length_le (by omega)]
theorem takeCells_whole {a : List AV} {n : Nat} (h : a.length = n) : takeCells a 0 n true = some (.agg a) := by
 have := takeCells_app (a := a) (b := []) h
 rwa [List.append_nil] at this
theorem takeCells_drop {cs : List AV} {o n : Nat} {agg : Bool} (h : o ≤ cs.length) : takeCells cs o n agg = takeCells (cs.drop o) 0 n agg := by
 by_cases hl : o + n ≤ cs.length
 · have hl' : 0 + n ≤ (cs.drop o).length := by rw [List.length_drop]; omega
   unfold takeCells
   simp only [hl, hl', if_true]
   cases agg <;> simp
 · have hl' : ¬ 0 + n ≤ (cs.drop o).length := by rw [List.length_drop]; omega
   unfold takeCells
   simp only [hl, hl', if_false]
theorem froz_scalar : ∀ {cs : List AV}, (∀ c ∈ cs, c.scalar = true) → cs.all AV.scalar = true := fun h => List.all_eq_true.2 h
mutual
theorem GType.scalar : ∀ x : GType, x.cells.all AV.scalar = true
 | .mk kind size packed fields count elem => by simp [GType.cells, AV.scalar]
theorem GField.scalar : ∀ x : GField, x.cells.all AV.scalar = true
 | .mk name type bits width => by simp only [GField.cells, List.all_cons, List.all_append, GType.scalar type]; rfl
end
theorem GPlace.scalar (x : GPlace) : x.cells.all AV.scalar = true := by rw [GPlace.cells_eq]; rfl
theorem GPart.scalar (x : GPart) : x.cells.all AV.scalar = true := by rw [GPart.cells_eq]; rfl
theorem GExpr.scalar (x : GExpr) : x.cells.all AV.scalar = true := by rw [GExpr.cells_eq]; simp only [List.all_cons, List.all_append, GPlace.scalar]; rfl
theorem GStmt.scalar (x : GStmt) : x.cells.all AV.scalar = true := by rw [GStmt.cells_eq]; simp only [List.all_cons, List.all_append, GPlace.scalar]; rfl
theorem GVar.scalar (x : GVar) : x.cells.all AV.scalar = true := by simp only [GVar.cells, List.all_cons, GType.scalar]; rfl
end Rb

set_option linter.unusedVariables false
set_option linter.unusedSimpArgs false
namespace Rb
open Go
def i1 (k : IntKind) (z : Int) : List AV := [.int k z]
theorem i1_len (k : IntKind) (z : Int) : (i1 k z).length = 1 := rfl
section
variable {α : Type} {c : α → AV}
theorem one_load (H : AH) {xs : List α} {i : Nat} {x : α} (hx : xs[i]? = some x) : aload H 1 false (elA (fun x => [c x]) 1 xs i) = some (c x) := by
 have hlt := (List.getElem?_eq_some_iff.1 hx).1
 have hd : xs.drop i = x :: xs.drop (i + 1) := by
  rw [List.drop_eq_getElem_cons hlt]
  rw [List.getElem?_eq_getElem hlt] at hx
  simp at hx
  rw [hx]
 show takeCells ((xs.flatMap fun x => [c x]).drop (i * 1)) 0 1 false = _
 rw [flatMap_drop (sz := 1) (fun _ => rfl), hd, List.flatMap_cons]
 rfl
end
theorem num_load {k : IntKind} (H : AH) {xs : List Int} {i : Nat} {x : Int} (hx : xs[i]? = some x) : aload H 1 false (elA (i1 k) 1 xs i) = some (.int k x) := one_load H hx
def EqualL (a0 : AV) (a1 : AV) (x4 : AV) (Q : Post) : (List AV × AH) → ((List AV × AH) → Prop) → Prop := fun s5 L6 =>
 Do (abin .lss (sl s5.1 0) x4) fun x7 =>
 Gd x7 true (
 Do (aiaddr none 1 a0 (sl s5.1 0)) fun x8 =>
 Do (aload s5.2 1 false x8) fun x9 =>
 Do (aiaddr none 1 a1 (sl s5.1 0)) fun x10 =>
 Do (aload s5.2 1 false x10) fun x11 =>
 Do (abin .neq x9 x11) fun x12 =>
 Gd x12 true (
 Q (.bool false) s5.2) (
 Do (abin .add (sl s5.1 0) (.int .i64 1)) fun x13 =>
 L6 ([x13], s5.2))) (
 Q (.bool true) s5.2)
def Equal (a0 : AV) (a1 : AV) (H : AH) (Q : Post) : Prop :=
 Do (alen false a0) fun x1 =>
 Do (alen false a1) fun x2 =>
 Do (abin .neq x1 x2) fun x3 =>
 Gd x3 true (
 Q (.bool false) H) (
 Do (alen false a0) fun x4 =>
 LoopP (EqualL a0 a1 x4 Q) ([(.int .i64 0)], H))
theorem lstA_len' {α : Type} (cells : α → List AV) (xs : List α) : alen false (lstA cells xs) = some (.int .i64 xs.length) := rfl
theorem ne_len {α : Type} {xs ys : List α} [BEq α] [LawfulBEq α] (h : xs.length ≠ ys.length) : (xs == ys) = false := by
 rw [beq_eq_false_iff_ne]; intro e; exact h (by rw [e])
theorem Equal_spec {k : IntKind} {xs ys : List Int} {H : AH} {Q : Post} (hl : xs.length ≤ 9223372036854775807) (hQ : Q (.bool (xs == ys)) H) : Equal (lstA (i1 k) xs) (lstA (i1 k) ys) H Q := by
 unfold Equal
 simp only [lstA_len', Do_of, abin_neq, Gd_true]
 by_cases he : xs.length = ys.length
 · rw [if_neg (by simp [he])]
   have main : ∀ (us vs : List Int) (i : Nat), xs.drop i = us → ys.drop i = vs → us.length = vs.length → Q (.bool (us == vs)) H → LoopP (EqualL (lstA (i1 k) xs) (lstA (i1 k) ys) (.int .i64 xs.length) Q) ([.int .i64 i], H) := by
    intro us
    induction us with
    | nil =>
     intro vs i hu hv hlen hq
     have hle := drop_nil_le hu
     obtain rfl : vs = [] := by cases vs with | nil => rfl | cons _ _ => cases hlen
     refine LoopP.step ?_
     simp only [EqualL, sl_zero, abin_lss, Do_of, Gd_true]
     rw [if_neg (by simp only [decide_eq_true_eq]; omega)]
     exact hq
    | cons u us ih =>
     intro vs i hu hv hlen hq
     cases vs with
     | nil => cases hlen
     | cons v vs =>
      obtain ⟨hlt, hu1, hu2⟩ := drop_cons_lt hu
      obtain ⟨hlt', hv1, hv2⟩ := drop_cons_lt hv
      refine LoopP.step ?_
      simp only [EqualL, sl_zero, abin_lss, Do_of, Gd_true]
      rw [if_pos (by simp only [decide_eq_true_eq]; omega), lstA_addr hlt, lstA_addr hlt']
      simp only [Do_of]
      rw [num_load H hu1, num_load H hv1]
      simp only [Do_of, abin_neq, Gd_true]
      by_cases hx : u = v
      · subst hx
        rw [if_neg (by simp)]
        simp only [abin_add, Do_of]
        rw [wrap_i64 (by omega) (by omega), show ((i : Int) + 1) = ((i + 1 : Nat) : Int) by simp]
        refine ih vs (i + 1) hu2 hv2 (by simpa using hlen) ?_
        simpa using hq
      · rw [if_pos (by simpa using hx)]
        have : (u :: us == v :: vs) = false := by rw [beq_eq_false_iff_ne]; intro e; cases e; exact hx rfl
        rw [this] at hq; exact hq
   exact main xs ys 0 rfl rfl he hQ
 · rw [if_pos (by simpa using fun e => he (by omega))]
   rw [ne_len he] at hQ; exact hQ
def SameL (a0 : AV) (a1 : AV) (Q : Post) : (List AV × AH) → ((List AV × AH) → Prop) → Prop := fun s4 L5 =>
 Do (alen false a0) fun x6 =>
 Do (abin .lss (sl s4.1 0) x6) fun x7 =>
 Gd x7 true (
 Do (aiaddr none 1 a0 (sl s4.1 0)) fun x8 =>
 Do (aload s4.2 1 false x8) fun x9 =>
 Do (aiaddr none 1 a1 (sl s4.1 0)) fun x10 =>
 Do (aload s4.2 1 false x10) fun x11 =>
 Do (abin .neq x9 x11) fun x12 =>
 Gd x12 true (
 Q (.bool false) s4.2) (
 Do (abin .add (sl s4.1 0) (.int .i64 1)) fun x13 =>
 L5 ([x13], s4.2))) (
 Q (.bool true) s4.2)
def SameD (a0 : AV) (a1 : AV) (H : AH) (Q : Post) : Prop :=
 Do (alen false a0) fun x1 =>
 Do (alen false a1) fun x2 =>
 Do (abin .neq x1 x2) fun x3 =>
 Gd x3 true (
 Q (.bool false) H) (
 LoopP (SameL a0 a1 Q) ([(.int .i64 0)], H))
theorem SameD_spec {k : IntKind} {xs ys : List Int} {H : AH} {Q : Post} (hl : xs.length ≤ 9223372036854775807) (hQ : Q (.bool (xs == ys)) H) : SameD (lstA (i1 k) xs) (lstA (i1 k) ys) H Q := by
 have e : SameL (lstA (i1 k) xs) (lstA (i1 k) ys) Q = EqualL (lstA (i1 k) xs) (lstA (i1 k) ys) (.int .i64 xs.length) Q := by
  funext s L
  unfold SameL EqualL
  rw [lstA_len']
  simp only [Do_of]
 have := Equal_spec (k := k) (ys := ys) hl hQ
 unfold Equal at this
 unfold SameD
 rw [e]
 simp only [lstA_len', Do_of] at this ⊢
 exact this
theorem bytes_str {H : AH} : ∀ {xs : List Int}, (∀ x ∈ xs, 0 ≤ x ∧ x ≤ 255) → abstr H (lstA (i1 .u8) xs) = some (.str (xs.map fun x => UInt8.ofNat x.toNat)) := by
 intro xs hx
 have h1 : ∀ ys : List Int, cellBytes (ys.flatMap (i1 .u8)) = some (ys.map fun x => UInt8.ofNat x.toNat) := by
  intro ys
  induction ys with
  | nil => rfl
  | cons y ys ih =>
   rw [List.flatMap_cons]
   show cellBytes (.int .u8 y :: ys.flatMap (i1 .u8)) = _
   unfold cellBytes
   rw [ih]; rfl
 simp only [abstr, lstA, acells]
 rw [if_pos (by rw [flatMap_len (i1_len _)])]
 simp only [h1, Option.map_some]
theorem bytes_eq {xs ys : List Int} (hx : ∀ x ∈ xs, 0 ≤ x ∧ x ≤ 255) (hy : ∀ x ∈ ys, 0 ≤ x ∧ x ≤ 255) : ((xs.map fun x => UInt8.ofNat x.toNat) == ys.map fun x => UInt8.ofNat x.toNat) = (xs == ys) := by
 rw [Bool.eq_iff_iff]
 simp only [beq_iff_eq]
 constructor
 · intro h
   induction xs generalizing ys with
   | nil => cases ys with | nil => rfl | cons _ _ => cases h
   | cons x xs ih =>
    cases ys with
    | nil => cases h
    | cons y ys =>
     simp only [List.map_cons, List.cons.injEq] at h
     obtain ⟨h1, h2⟩ := h
     have h3 := hx x (by simp)
     have h4 := hy y (by simp)
     have h5 := congrArg UInt8.toNat h1
     simp only [UInt8.toNat_ofNat'] at h5
     rw [ih (fun z hz => hx z (by simp [hz])) (fun z hz => hy z (by simp [hz])) h2]
     congr 1
     omega
 · intro h; rw [h]
end Rb

set_option linter.unusedVariables false
set_option linter.unusedSimpArgs false
namespace Rb
open Go Go.RowKit
theorem cell_lt {w : World} {b o : Nat} {V : Value} (h : w.cell? ⟨b, o, none⟩ = some V) : b < w.heap.size := by
 unfold World.cell? at h
 split at h
 · rename_i hb
   exact (Array.getElem?_eq_some_iff.1 hb).1
 · cases h
theorem gle_below {w w' : World} {G : Ghost} (hb : Below w.heap.size w w') : GLe w G w' G :=
 ⟨Nat.le_refl _, fun _ _ => rfl, fun _ _ => rfl, fun _ _ h => h, fun b o V _ hc => by rw [hb.cell (p := ⟨b, o, none⟩) (cell_lt hc)]; exact hc⟩
theorem obj_below {F : FTab} {w w' : World} {G : Ghost} (hb : Below w.heap.size w w') {i : Nat} {x : AObj} (h : ObjR F w G i x) : ObjR F w' G i x := by
 have hg := gle_below (G := G) hb
 cases x with
 | row cs =>
  obtain ⟨c, e, h1, h2, h3, h4⟩ := h
  refine ⟨c, e, by rw [hb.block _ (Array.getElem?_eq_some_iff.1 h1).1]; exact h1, h2, h3, fun j c hj => ?_⟩
  obtain ⟨V, h5, h6⟩ := h4 j c hj
  exact ⟨V, h5, h6.mono hg⟩
 | tok k sz =>
  obtain ⟨c, e, h1, h2, h3, h4⟩ := h
  exact ⟨c, e, by rw [hb.block _ (Array.getElem?_eq_some_iff.1 h1).1]; exact h1, h2, h3, h4⟩
 | map es =>
  obtain ⟨c, e, h1, h2, h3, h4⟩ := h
  refine ⟨c, e, by rw [hb.block _ (Array.getElem?_eq_some_iff.1 h1).1]; exact h1, h2, h3, fun j k v hj => ?_⟩
  obtain ⟨m, h5, h6, h7⟩ := h4 j k v hj
  exact ⟨m, h5, h6.mono hg, h7.mono hg⟩
 | siter s pos =>
  obtain ⟨h1, h2⟩ := h
  exact ⟨by rw [hb.block _ (Array.getElem?_eq_some_iff.1 h1).1]; exact h1, h2⟩
 | bld T u b =>
  obtain ⟨v, h1, h2⟩ := h
  exact ⟨v, by rw [hb.block _ (Array.getElem?_eq_some_iff.1 h1).1]; exact h1, h2⟩
 | buf U bs =>
  obtain ⟨c, z, h1, h2⟩ := h
  exact ⟨c, z, by rw [hb.block _ (Array.getElem?_eq_some_iff.1 h1).1]; exact h1, h2⟩
 | gone => trivial
theorem obj_lt {F : FTab} {w : World} {G : Ghost} {i : Nat} {x : AObj} (h : ObjR F w G i x) (hl : x.live = true) : G.loc i < w.heap.size := by
 cases x with
 | row cs => obtain ⟨c, e, h1, _⟩ := h; exact (Array.getElem?_eq_some_iff.1 h1).1
 | tok k sz => obtain ⟨c, e, h1, _⟩ := h; exact (Array.getElem?_eq_some_iff.1 h1).1
 | map es => obtain ⟨c, e, h1, _⟩ := h; exact (Array.getElem?_eq_some_iff.1 h1).1
 | siter s pos => exact (Array.getElem?_eq_some_iff.1 h.1).1
 | bld T u b => obtain ⟨v, h1, _⟩ := h; exact (Array.getElem?_eq_some_iff.1 h1).1
 | buf U bs => obtain ⟨c, z, h1, _⟩ := h; exact (Array.getElem?_eq_some_iff.1 h1).1
 | gone => cases hl
theorem rel_below {F : FTab} {w w' : World} {G : Ghost} {H : AH} (hb : Below w.heap.size w w') (h : Rel F w G H) : Rel F w' G H :=
 ⟨h.n, h.over, fun i => obj_below hb (h.obj i), h.dist, fun b o hf => by
   obtain ⟨V, hV⟩ := h.fzc b o hf
   exact ⟨V, by rw [hb.cell (p := ⟨b, o, none⟩) (cell_lt hV)]; exact hV⟩⟩
theorem step_below {F : FTab} {w w' : World} {G : Ghost} {H : AH} (hb : Below w.heap.size w w') (h : Rel F w G H) : Step w G H w' G H :=
 { gle_below hb with
   size := hb.size
   os := hb.os
   tape := hb.tape
   output := hb.output
   old := fun k hk _ => hb.block k hk
   owned := fun i hl _ => ⟨i, hl, rfl⟩
   fznew := fun _ _ hf => .inl hf }
end Rb

set_option linter.unusedVariables false
set_option linter.unusedSimpArgs false
namespace Rb
open Go Go.RowKit
def AH.setO (H : AH) : Option Nat → AH
 | none => H
 | some j => H.set j .gone
def bytesV (bs : List UInt8) : List Value := bs.map fun b => Value.int .u8 b.toNat
theorem bytesV_len (bs : List UInt8) : (bytesV bs).length = bs.length := List.length_map ..
def BldAt (T U : TypeId) (H : AH) (id : Nat) (bs : List UInt8) : Prop :=
 id < H.n ∧ ((∃ u, H.o id = .bld T u none ∧ bs = []) ∨ ∃ j, H.o id = .bld T true (some (j, bs.length)) ∧ H.o j = .buf U bs ∧ j < H.n ∧ bs ≠ [])
def bufOf (H : AH) (id : Nat) : Option Nat := match H.o id with | .bld _ _ (some (j, _)) => some j | _ => none
def notbuf (x : AObj) : Prop := ∀ U bs, x ≠ .buf U bs
def KeepB (H : AH) (id : Nat) (H' : AH) : Prop := H.n ≤ H'.n ∧ ∀ i, i < H.n → i ≠ id → notbuf (H.o i) → H'.o i = H.o i
theorem KeepB.refl (H : AH) (id : Nat) : KeepB H id H := ⟨Nat.le_refl _, fun _ _ _ _ => rfl⟩
theorem KeepB.trans {H1 H2 H3 : AH} {id : Nat} (h : KeepB H1 id H2) (k : KeepB H2 id H3) : KeepB H1 id H3 :=
 ⟨Nat.le_trans h.1 k.1, fun i hi hne hb => by rw [k.2 i (Nat.lt_of_lt_of_le hi h.1) hne (by rw [h.2 i hi hne hb]; exact hb), h.2 i hi hne hb]⟩
structure Wrote (w w' : World) (T U : TypeId) (b : Nat) (old : Option Nat) (bs : List UInt8) : Prop where
 size : w.heap.size ≤ w'.heap.size
 os : w'.os = w.os
 tape : w'.tape = w.tape
 output : w'.output = w.output
 cell : ∃ v, w'.heap[b]? = some (.cells #[.pointer (some ⟨b, 0, none⟩), v] T (0, 0)) ∧ w'.ownsRowF 0 U 1 v bs.length (bytesV bs) ∧ (∀ g, v.ownBlock = some g → old = some g ∨ w.heap.size ≤ g) ∧ (bs = [] → v.ownBlock = none)
 kept : ∀ k, k < w.heap.size → k ≠ b → old ≠ some k → w'.heap[k]? = w.heap[k]?
section
variable {F : FTab} {w w' : World} {G : Ghost} {H : AH} {T U : TypeId} {id : Nat} {bs bs' : List UInt8}
theorem BldAt.rel (hrel : Rel F w G H) (hb : BldAt T U H id bs) : ∃ p v, (p = .pointer none ∨ p = .pointer (some ⟨G.loc id, 0, none⟩)) ∧ (bs ≠ [] → p = .pointer (some ⟨G.loc id, 0, none⟩)) ∧ w.heap[G.loc id]? = some (.cells #[p, v] T (0, 0)) ∧ w.ownsRowF 0 U 1 v bs.length (bytesV bs) ∧
  v.ownBlock ≠ some (G.loc id) ∧ v.ownBlock = (bufOf H id).map G.loc := by
 obtain ⟨hid, hb⟩ := hb
 have ho := hrel.obj id
 rcases hb with ⟨u, h1, rfl⟩ | ⟨j, h1, h2, hj, hne0⟩
 · rw [h1] at ho
   obtain ⟨v, hc, hz, hv⟩ := ho
   rcases hv with ⟨_, rfl⟩ | ⟨j, n, h, _⟩
   · refine ⟨_, _, ?_, fun h => absurd rfl h, hc, World.ownsRowF_nil _ _ _ _, by simp [Value.ownBlock], by simp [Value.ownBlock, bufOf, h1]⟩
     cases u
     · left; rfl
     · right; rfl
   · cases h
 · rw [h1] at ho
   obtain ⟨v, hc, hz, hv⟩ := ho
   rcases hv with ⟨h, _⟩ | ⟨j', n, h, hj', rfl⟩
   · cases h
   · cases h
     have hq := hrel.obj j
     rw [h2] at hq
     obtain ⟨C, z, q1, q2, q3, q4, q5, q6, q7⟩ := hq
     have hne : j ≠ id := by intro e; subst e; rw [h1] at h2; cases h2
     have hd := hrel.dist j id hne (by rw [h2]; rfl) (by rw [h1]; rfl)
     refine ⟨_, _, .inr rfl, fun _ => rfl, hc, ⟨by rw [bytesV_len, Nat.mul_one], .inr ⟨G.loc j, G.cap j, C, z, rfl, Nat.zero_le _, q1, by omega, q4, q5, by omega, by rw [Nat.mul_one]; exact q7⟩⟩, by simp only [Value.ownBlock]; intro e; exact hd (Option.some.inj e), by simp [Value.ownBlock, bufOf, h1]⟩
def wroteH (H : AH) (id : Nat) (T U : TypeId) (bs : List UInt8) : AH := ((H.setO (bufOf H id)).set id (.bld T true (some (H.n, bs.length)))).push (.buf U bs)
def wroteN (H : AH) (id : Nat) (T : TypeId) : AH := (H.setO (bufOf H id)).set id (.bld T true none)
theorem setO_n (H : AH) (o : Option Nat) : (H.setO o).n = H.n := by cases o <;> rfl
theorem buf_live (hb : BldAt T U H id bs) {j : Nat} (hj : bufOf H id = some j) : j < H.n ∧ j ≠ id ∧ ∃ bs, H.o j = .buf U bs := by
 obtain ⟨hid, hb⟩ := hb
 rcases hb with ⟨u, h1, rfl⟩ | ⟨j', h1, h2, hj', _⟩
 · simp [bufOf, h1] at hj
 · simp [bufOf, h1] at hj
   subst hj
   refine ⟨hj', ?_, bs, h2⟩
   intro e; subst e; rw [h1] at h2; cases h2
theorem setO_other (H : AH) (id : Nat) {i : Nat} (hi : i ≠ id) (hj : bufOf H id ≠ some i) (x : AObj) : ((H.setO (bufOf H id)).set id x).o i = H.o i := by
 show (if i = id then x else (H.setO (bufOf H id)).o i) = _
 rw [if_neg hi]
 cases hb : bufOf H id with
 | none => rfl
 | some j =>
  show (if i = j then .gone else H.o i) = _
  rw [if_neg (by intro e; subst e; exact hj hb)]
theorem wroteH_bld (hb : BldAt T U H id bs) (bs' : List UInt8) (hne0 : bs' ≠ []) : BldAt T U (wroteH H id T U bs') id bs' ∧ KeepB H id (wroteH H id T U bs') := by
 have hn : (wroteH H id T U bs').n = H.n + 1 := by show (H.setO _).n + 1 = _; rw [setO_n]
 have hm : ((H.setO (bufOf H id)).set id (.bld T true (some (H.n, bs'.length)))).n = H.n := setO_n _ _
 refine ⟨⟨by rw [hn]; have := hb.1; omega, .inr ⟨H.n, ?_, ?_, by rw [hn]; omega, hne0⟩⟩, by rw [hn]; omega, fun i hi hne hnb => ?_⟩
 · show (if id = _ then _ else _) = _
   rw [hm, if_neg (by have := hb.1; omega)]
   show (if id = id then _ else _) = _
   rw [if_pos rfl]
 · show (if H.n = _ then _ else _) = _
   rw [hm, if_pos rfl]
 · show (if i = _ then _ else _) = _
   rw [hm, if_neg (by omega)]
   refine setO_other H id hne (fun e => ?_) _
   obtain ⟨_, _, bs0, h⟩ := buf_live hb e
   exact hnb _ _ h
theorem wroteN_bld (hb : BldAt T U H id bs) : BldAt T U (wroteN H id T) id [] ∧ KeepB H id (wroteN H id T) := by
 have hn : (wroteN H id T).n = H.n := setO_n _ _
 refine ⟨⟨by rw [hn]; exact hb.1, .inl ⟨true, ?_, rfl⟩⟩, by rw [hn]; omega, fun i hi hne hnb => ?_⟩
 · show (if id = id then _ else _) = _
   rw [if_pos rfl]
 · refine setO_other H id hne (fun e => ?_) _
   obtain ⟨_, _, bs0, h⟩ := buf_live hb e
   exact hnb _ _ h
def wroteX (H : AH) (id : Nat) (T U : TypeId) (bs : List UInt8) : AH := if bs = [] then wroteN H id T else wroteH H id T U bs
theorem wroteX_bld (hb : BldAt T U H id bs) (bs' : List UInt8) : BldAt T U (wroteX H id T U bs') id bs' ∧ KeepB H id (wroteX H id T U bs') := by
 unfold wroteX
 split
 · rename_i h; subst h; exact wroteN_bld hb
 · rename_i h; exact wroteH_bld hb bs' h
theorem wrote_some (hb : BldAt T U H id bs) (bs' : List UInt8) : ∃ H', BldAt T U H' id bs' ∧ KeepB H id H' := by
 by_cases h : bs' = []
 · subst h; exact ⟨_, wroteN_bld hb⟩
 · exact ⟨_, wroteH_bld hb bs' h⟩
theorem wrote_relX (hrel : Rel F w G H) (hb : BldAt T U H id bs) (hw : Wrote w w' T U (G.loc id) ((bufOf H id).map G.loc) bs') :
  ∃ G', Rel F w' G' (wroteX H id T U bs') ∧ Step w G H w' G' (wroteX H id T U bs') := by
 have hn := hrel.n
 have hidn := hb.1
 have hidl : (H.o id).live = true := by rcases hb.2 with ⟨u, h1, _⟩ | ⟨j, h1, _⟩ <;> rw [h1] <;> rfl
 have hidz : ∀ j, ¬ G.fz (G.loc id) j := by
  have ho := hrel.obj id
  rcases hb.2 with ⟨u, h1, _⟩ | ⟨j, h1, _⟩ <;> (rw [h1] at ho; obtain ⟨_, _, hz, _⟩ := ho; exact hz)
 have hbz : ∀ j, bufOf H id = some j → ∀ k, ¬ G.fz (G.loc j) k := by
  intro j hj
  obtain ⟨_, _, bs0, h⟩ := buf_live hb hj
  have ho := hrel.obj j
  rw [h] at ho
  obtain ⟨_, _, _, _, _, _, _, hz, _⟩ := ho
  exact hz
 have hcell : ∀ b o V, G.fz b o → w.cell? ⟨b, o, none⟩ = some V → w'.cell? ⟨b, o, none⟩ = some V := by
  intro b o V hf hc
  have hlt := cell_lt hc
  have h1 : w'.heap[b]? = w.heap[b]? := hw.kept b hlt (fun e => by subst e; exact hidz o hf) (fun e => by
    obtain ⟨j, hj, rfl⟩ := Option.map_eq_some_iff.1 e
    exact hbz j hj o hf)
  unfold World.cell? at hc ⊢
  simp only [h1]
  exact hc
 have hkeep : ∀ i, (H.o i).live = true → i ≠ id → bufOf H id ≠ some i → w'.heap[G.loc i]? = w.heap[G.loc i]? := by
  intro i hl hne hnb
  refine hw.kept _ (obj_lt (hrel.obj i) hl) (hrel.dist i id hne hl hidl) (fun e => ?_)
  obtain ⟨j, hj, he⟩ := Option.map_eq_some_iff.1 e
  obtain ⟨_, _, bs0, h⟩ := buf_live hb hj
  exact hrel.dist j i (fun e => hnb (by rw [← e]; exact hj)) (by rw [h]; rfl) hl he
 obtain ⟨v, hcv, hown, hfrom, hnil⟩ := hw.cell
 rcases hown.2 with ⟨rfl, h0⟩ | ⟨g, cap, C, z, rfl, _, hg, hz, hnc, hcm, hcs, htake⟩
 ·
   have h0' : bs' = [] := List.eq_nil_of_length_eq_zero h0
   subst h0'
   have hg : GLe w G w' G := ⟨Nat.le_refl _, fun _ _ => rfl, fun _ _ => rfl, fun _ _ h => h, fun b o V hf hc => hcell b o V hf hc⟩
   have hNn : (wroteN H id T).n = H.n := setO_n _ _
   have hoid : (wroteN H id T).o id = .bld T true none := by show (if id = id then _ else _) = _; rw [if_pos rfl]
   have hobuf : ∀ j, bufOf H id = some j → (wroteN H id T).o j = .gone := by
    intro j hj
    obtain ⟨_, hne, _⟩ := buf_live hb hj
    show (if j = id then _ else _) = _
    rw [if_neg hne, hj]
    show (if j = j then _ else _) = _
    rw [if_pos rfl]
   have hoth : ∀ i, i ≠ id → bufOf H id ≠ some i → (wroteN H id T).o i = H.o i := fun i h1 h2 => setO_other H id h1 h2 _
   have hlive : ∀ i, ((wroteN H id T).o i).live = true → (H.o i).live = true ∧ bufOf H id ≠ some i := by
    intro i hl
    by_cases hi : i = id
    · subst hi
      exact ⟨hidl, fun e => (buf_live hb e).2.1 rfl⟩
    · by_cases hj : bufOf H id = some i
      · rw [hobuf i hj] at hl; cases hl
      · rw [hoth i hi hj] at hl; exact ⟨hl, hj⟩
   rw [show wroteX H id T U [] = wroteN H id T from if_pos rfl]
   refine ⟨G, ⟨by rw [hNn]; exact hn, fun i hi => ?_, fun i => ?_, fun i k hik h1 h2 => hrel.dist i k hik (hlive i h1).1 (hlive k h2).1, fun b o hf => ?_⟩, ?_⟩
   · rw [hNn] at hi
     rw [hoth i (by omega) (fun e => by have := (buf_live hb e).1; omega)]
     exact hrel.over i hi
   · by_cases hi : i = id
     · subst hi
       rw [hoid]
       exact ⟨_, hcv, hidz, .inl ⟨rfl, rfl⟩⟩
     · by_cases hj : bufOf H id = some i
       · rw [hobuf i hj]; trivial
       · rw [hoth i hi hj]
         exact (hrel.obj i).keep hg (fun hl => hrel.idlt hl) (fun hl => hkeep i hl hi hj) (fun _ _ h => h)
   · obtain ⟨V, hV⟩ := hrel.fzc b o hf
     exact ⟨V, hcell b o V hf hV⟩
   · exact { hg with
       size := hw.size, os := hw.os, tape := hw.tape, output := hw.output
       old := fun k hk hk2 => hw.kept k hk (fun e => hk2 id hidl e.symm) (fun e => by
         obtain ⟨j, hj, he⟩ := Option.map_eq_some_iff.1 e
         obtain ⟨_, _, bs0, h⟩ := buf_live hb hj
         exact hk2 j (by rw [h]; rfl) he)
       owned := fun i hl _ => ⟨i, (hlive i hl).1, rfl⟩
       fznew := fun _ _ hf => .inl hf }
 ·
   have hfr := hfrom g rfl
   have hne0 : bs' ≠ [] := fun e => by have := hnil e; simp [Value.ownBlock] at this
   have hglt : g < w'.heap.size := (Array.getElem?_eq_some_iff.1 hg).1
   have hgz : ∀ k, ¬ G.fz g k := by
    intro k hf
    rcases hfr with e | hge
    · obtain ⟨j, hj, he⟩ := Option.map_eq_some_iff.1 e
      rw [← he] at hf
      exact hbz j hj k hf
    · obtain ⟨V, hV⟩ := hrel.fzc g k hf
      have := cell_lt hV
      omega
   have hGn : (G.more g cap).n = G.n + 1 := rfl
   have hloc : ∀ i, i ≠ H.n → (G.more g cap).loc i = G.loc i := fun i hi => if_neg (show ¬ i = G.n by omega)
   have hcap : ∀ i, i ≠ H.n → (G.more g cap).cap i = G.cap i := fun i hi => if_neg (show ¬ i = G.n by omega)
   have hlocn : (G.more g cap).loc H.n = g := if_pos hn.symm
   have hcapn : (G.more g cap).cap H.n = cap := if_pos hn.symm
   have hle : GLe w G w' (G.more g cap) := ⟨Nat.le_succ _, fun i hi => if_neg (Nat.ne_of_lt hi), fun i hi => if_neg (Nat.ne_of_lt hi), fun _ _ h => h, fun b o V hf hc => hcell b o V hf hc⟩
   have hm : ((H.setO (bufOf H id)).set id (.bld T true (some (H.n, bs'.length)))).n = H.n := setO_n _ _
   have hNn : (wroteH H id T U bs').n = H.n + 1 := by show (H.setO _).n + 1 = _; rw [setO_n]
   have hon : (wroteH H id T U bs').o H.n = .buf U bs' := by show (if H.n = _ then _ else _) = _; rw [hm, if_pos rfl]
   have hoid : (wroteH H id T U bs').o id = .bld T true (some (H.n, bs'.length)) := by
    show (if id = _ then _ else _) = _
    rw [hm, if_neg (by omega)]
    show (if id = id then _ else _) = _
    rw [if_pos rfl]
   have hobuf : ∀ j, bufOf H id = some j → (wroteH H id T U bs').o j = .gone := by
    intro j hj
    obtain ⟨hlt, hne, _⟩ := buf_live hb hj
    show (if j = _ then _ else _) = _
    rw [hm, if_neg (by omega)]
    show (if j = id then _ else _) = _
    rw [if_neg hne, hj]
    show (if j = j then _ else _) = _
    rw [if_pos rfl]
   have hoth : ∀ i, i ≠ id → i ≠ H.n → bufOf H id ≠ some i → (wroteH H id T U bs').o i = H.o i := fun i h1 h2 h3 => by
    show (if i = _ then _ else _) = _
    rw [hm, if_neg h2]
    exact setO_other H id h1 h3 _
   have hlive : ∀ i, i ≠ H.n → ((wroteH H id T U bs').o i).live = true → (H.o i).live = true ∧ bufOf H id ≠ some i := by
    intro i hin hl
    by_cases hi : i = id
    · subst hi
      exact ⟨hidl, fun e => (buf_live hb e).2.1 rfl⟩
    · by_cases hj : bufOf H id = some i
      · rw [hobuf i hj] at hl; cases hl
      · rw [hoth i hi hin hj] at hl; exact ⟨hl, hj⟩
   have hgd : ∀ i, i ≠ H.n → ((wroteH H id T U bs').o i).live = true → G.loc i ≠ g := by
    intro i hin hl e
    obtain ⟨h1, h2⟩ := hlive i hin hl
    rcases hfr with e' | hge
    · obtain ⟨j, hj, he⟩ := Option.map_eq_some_iff.1 e'
      obtain ⟨_, _, bs0, h⟩ := buf_live hb hj
      exact hrel.dist j i (fun e => h2 (by rw [← e]; exact hj)) (by rw [h]; rfl) h1 (he.trans e.symm)
    · have := obj_lt (hrel.obj i) h1
      omega
   rw [show wroteX H id T U bs' = wroteH H id T U bs' from if_neg hne0]
   refine ⟨G.more g cap, ⟨by rw [hNn, hGn, hn], fun i hi => ?_, fun i => ?_, fun i k hik h1 h2 => ?_, fun b o hf => ?_⟩, ?_⟩
   · rw [hNn] at hi
     rw [hoth i (by omega) (by omega) (fun e => by have := (buf_live hb e).1; omega)]
     exact hrel.over i (by omega)
   · by_cases hin : i = H.n
     · subst hin
       rw [hon]
       refine ⟨C, z, by rw [hlocn]; exact hg, by rw [hcapn, hcs, Nat.mul_one], by omega, by rw [hcapn]; exact hnc, by rw [hcapn]; exact hcm, by rw [hlocn]; exact hgz, ?_⟩
       rw [Nat.mul_one] at htake
       exact htake
     · by_cases hi : i = id
       · subst hi
         rw [hoid]
         refine ⟨_, by rw [hloc i hin]; exact hcv, by rw [hloc i hin]; exact hidz, .inr ⟨H.n, bs'.length, rfl, by rw [hGn]; omega, by rw [hlocn, hcapn]⟩⟩
       · by_cases hj : bufOf H id = some i
         · rw [hobuf i hj]; trivial
         · rw [hoth i hi hin hj]
           exact (hrel.obj i).keep hle (fun hl => hrel.idlt hl) (fun hl => hkeep i hl hi hj) (fun _ _ h => h)
   · by_cases hin : i = H.n
     · subst hin
       rw [hlocn, hloc k (by omega)]
       exact (hgd k (by omega) h2).symm
     · by_cases hkn : k = H.n
       · subst hkn
         rw [hlocn, hloc i hin]
         exact hgd i hin h1
       · rw [hloc i hin, hloc k hkn]
         exact hrel.dist i k hik (hlive i hin h1).1 (hlive k hkn h2).1
   · obtain ⟨V, hV⟩ := hrel.fzc b o hf
     exact ⟨V, hcell b o V hf hV⟩
   · exact { hle with
       size := hw.size, os := hw.os, tape := hw.tape, output := hw.output
       old := fun k hk hk2 => hw.kept k hk (fun e => hk2 id hidl e.symm) (fun e => by
         obtain ⟨j, hj, he⟩ := Option.map_eq_some_iff.1 e
         obtain ⟨_, _, bs0, h⟩ := buf_live hb hj
         exact hk2 j (by rw [h]; rfl) he)
       owned := fun i hl hlt => by
        by_cases hin : i = H.n
        · subst hin
          rw [hlocn] at hlt ⊢
          rcases hfr with e | hge
          · obtain ⟨j, hj, he⟩ := Option.map_eq_some_iff.1 e
            obtain ⟨_, _, bs0, h⟩ := buf_live hb hj
            exact ⟨j, by rw [h]; rfl, he⟩
          · omega
        · rw [hloc i hin]
          exact ⟨i, (hlive i hin hl).1, rfl⟩
       fznew := fun _ _ hf => .inl hf }
theorem wrote_rel (hrel : Rel F w G H) (hb : BldAt T U H id bs) (hw : Wrote w w' T U (G.loc id) ((bufOf H id).map G.loc) bs') :
  ∃ G' H', Rel F w' G' H' ∧ Step w G H w' G' H' ∧ BldAt T U H' id bs' ∧ KeepB H id H' := by
 obtain ⟨G', h1, h2⟩ := wrote_relX hrel hb hw
 exact ⟨G', _, h1, h2, (wroteX_bld hb bs').1, (wroteX_bld hb bs').2⟩
end
end Rb

set_option linter.unusedVariables false
set_option linter.unusedSimpArgs false
namespace Rb
open Go Go.RowKit Go.Lib
section
variable {P : Program} (w : World)
theorem run_append_strO (t u ty e : TypeId) (i : TypeInfo) (ht : P.underlying t = some (.slice e)) (hu : P.underlying u = some .string) (hi : P.info? e = some i) (hz : i.zero = some (.int .u8 0))
  (hsize : i.size = 1) (hby : i.bytes = 1) (v : Value) (n : Nat) (xs : List Value) (hown : w.ownsRowF 0 e 1 v n xs) (s : ByteArray) (h47 : s.size ≤ 140737488351232) (hn : n ≤ 8796093022208 ∨ s.size ≤ 8796093022208 ∧ n ≤ 149533581377536) :
  ∃ v' w', (Builtin.append_ #[t, u] ty #[v, .string s]).run P w = .ok v' w' ∧ w'.ownsRowF 0 e 1 v' (n + s.size) (xs ++ strCells s) ∧ w.grownBy w' v.ownBlock ∧ (∀ g, v'.ownBlock = some g → v.ownBlock = some g ∨ w.heap.size ≤ g) ∧ (v.ownBlock = none → s.size = 0 → v'.ownBlock = none) := by
 have htot : n + s.size ≤ 158329674399744 := by omega
 have hwide : ((n + s.size) + (n + s.size) / 4 + 192) * 1 ≤ 281474976710656 := by omega
 rcases hown.2 with ⟨rfl, rfl⟩ | ⟨g, cap, cur, fz, rfl, hbg, hg, hfz, hnc, hcm, hcs, htake⟩
 · obtain ⟨v', w', h1, h2, h3, h4⟩ := run_append_own_string (P := P) w w.heap.size t u ty e i ht hu hi hz hsize hby (.slice none 0 0) 0 xs ⟨hown.1, .inl ⟨rfl, rfl⟩⟩ s (by unfold maxLen; omega) (by omega) (Nat.le_refl _)
   refine ⟨v', w', h1, ?_, h3, fun g hg => .inr (h2.lt g hg).1, fun _ h0 => by rw [h4.2 ⟨rfl, h0⟩]; rfl⟩
   have h5 := World.ownsRowF_of h2
   refine ⟨h5.1, ?_⟩
   rcases h5.2 with hv | ⟨g, cap, cur, fz, hv, _, r⟩
   · exact .inl hv
   · exact .inr ⟨g, cap, cur, fz, hv, Nat.zero_le _, r⟩
 · have hxl : xs.length = n := by simpa using hown.1
   have hlen : (xs ++ strCells s).length = (n + s.size) * 1 := by rw [List.length_append, hxl, strCells_length, Nat.mul_one]
   by_cases hroom : n + s.size ≤ cap
   · have hcs' : cur.size = cap := by simpa using hcs
     have hr := run_append_room_stringF (P := P) w t u ty e i ht hu hi hsize g n cap cur fz hg (by simpa using hfz) s hroom (by omega)
     refine ⟨_, _, hr, ⟨hlen, .inr ⟨g, cap, _, fz, rfl, hbg, setRow_heap w g cur _ e _ hg, by omega, hroom, hcm, ?_, ?_⟩⟩, ⟨rfl, rfl, rfl, by simp, fun k _ hk => setRow_other w g k _ (fun e => hk (by simp [Value.ownBlock, e]))⟩, fun k hk => .inl (by simpa [Value.ownBlock] using hk), fun h => by simp [Value.ownBlock] at h⟩
     · simp only [List.size_toArray, List.length_append, List.length_take, List.length_drop, Array.length_toList, strCells_length]
       omega
     · have ht' : cur.toList.take n = xs := by simpa using htake
       rw [ht', ← hlen]
       exact List.take_left
   · have holds : ∀ j u, xs[j]? = some u → w.cell? ((⟨g, 0, none⟩ : Addr).add j) = some u := hown.cells (g := g) rfl
     have hr := run_append_grow_string (P := P) w t u ty e i (.int .u8 0) ht hu hi hz ⟨g, 0, none⟩ n cap xs (by rw [hsize]; simpa using hxl) holds s (by omega) (by omega) (by rw [hby]; exact growslice_fits_wide (by omega) hwide)
     have hge := grownCap_ge w (n + s.size) cap e
     have hcm2 : grownCap w (n + s.size) cap e ≤ maxLen := grownCap_le_maxLen w (n + s.size) cap e (by unfold maxLen; omega)
     refine ⟨_, _, hr, ⟨hlen, .inr ⟨w.heap.size, _, _, (0, 0), rfl, Nat.zero_le _, heap_alloc_new w.drew _, Nat.zero_le _, hge, hcm2, ?_, ?_⟩⟩, ⟨rfl, rfl, rfl, by simp, fun k hk _ => Go.Lib.alloc_old w.drew _ k hk⟩, fun k hk => .inr (by simp [Value.ownBlock] at hk; omega), fun h => by simp [Value.ownBlock] at h⟩
     · have hz1 : (Value.int IntKind.u8 0).cells.size = 1 := rfl
       simp only [Array.size_append, List.size_toArray, size_zeroCells, hz1, hxl, strCells_length]
       omega
     · simp only [Array.toList_append, List.append_assoc]
       rw [← List.append_assoc, ← hlen]
       exact List.take_left
theorem wpList_append_strO {ops : Array Oper} {rest : List Oper} {o : Oper} {a : Act} {Q : Exit → Act → World → Prop} (hgd : o.guard = none) (sl x : Operand) (t u : TypeId)
  (ho : o.op = .call { callee := .builtin .append, args := #[sl, x], argTypes := #[t, u] })
  (e : TypeId) (i : TypeInfo) (ht : P.underlying t = some (.slice e)) (hu : P.underlying u = some .string) (hi : P.info? e = some i) (hz : i.zero = some (.int .u8 0))
  (hsize : i.size = 1) (hby : i.bytes = 1)
  (v : Value) (n : Nat) (xs : List Value) (hs : a.eval sl = v) (hown : w.ownsRowF 0 e 1 v n xs) (s : ByteArray) (hx : a.eval x = .string s)
  (h47 : s.size ≤ 140737488351232) (hn : n ≤ 8796093022208 ∨ s.size ≤ 8796093022208 ∧ n ≤ 149533581377536)
  (h : ∀ v' w', w'.ownsRowF 0 e 1 v' (n + s.size) (xs ++ strCells s) → w.grownBy w' v.ownBlock → (∀ g, v'.ownBlock = some g → v.ownBlock = some g ∨ w.heap.size ≤ g) → (v.ownBlock = none → s.size = 0 → v'.ownBlock = none) → wpList P ops Q rest (a.put o.dst v') w') : wpList P ops Q (o :: rest) a w := by
 refine wpList_plain hgd fun K hK => ?_
 obtain ⟨v', w', hr, h2, h3, h4, h5⟩ := run_append_strO (P := P) w t u o.type e i ht hu hi hz hsize hby v n xs hown s h47 hn
 unfold Oper.wp execOp
 simp only [ho, resolve, invoke, builtin, Sem.run_bind, Sem.run_pure, Result.andThen_ok, List.map_toArray, List.map_cons, List.map_nil, hs, hx, hr]
 exact hK _ _ (h v' w' h2 h3 h4 h5)
theorem strCells_bytes (s : List UInt8) : strCells ⟨s.toArray⟩ = bytesV s := by
 unfold strCells bytesV
 simp
theorem bytesV_app (a b : List UInt8) : bytesV (a ++ b) = bytesV a ++ bytesV b := List.map_append ..
end
end Rb

set_option linter.unusedVariables false
namespace Rb
open Go
structure Hint where
 fid : Nat
 mus : List Nat
 loops : List (List Nat)
 fz : Option Nat
 tys : List TypeId := []
 fzo : List (Nat × List Nat) := []
def memN (t : Nat) : List Nat → Bool
 | [] => false
 | s :: r => cond (Nat.beq t s) true (memN t r)
def subN : List Nat → List Nat → Bool
 | [], _ => true
 | t :: r, l => cond (memN t l) (subN r l) false
def addN (t : Nat) (l : List Nat) : List Nat := cond (memN t l) l (t :: l)
def uniN : List Nat → List Nat → List Nat
 | [], l => l
 | t :: r, l => uniN r (addN t l)
def lessN : List Nat → List Nat → List Nat
 | [], _ => []
 | t :: r, l => cond (memN t l) (lessN r l) (addN t (lessN r l))
def decK1 : Value → AV
 | .bool b => .bool b
 | .int k n => .int k n
 | .string s => .str s.data.toList
 | .pointer none => .nilp
 | .map none => .nilmap
 | .nilFunc => .nilfn
 | .nilIface => .nilif
 | .slice none _ _ => .lst .nil 0 []
 | _ => .bot
def decK : Value → AV
 | .agg Vs => .agg (Vs.toList.map decK1)
 | .tuple Vs => .tup (Vs.toList.map decK1)
 | V => decK1 V
def badO : Opd := .k .bot
def badOp : AOp := .ext .stuck []
def decO (C : Ctx) : Operand → Opd
 | .tmp t => .t t
 | .const v => .k (decK v)
 | .global g => match C.GT g with | some l => .k (.fptr l) | none => badO
 | .func f => cond (goodFn C.P f) (.k (.fn f [])) badO
def isBldF (fs : List Field) : Bool := match fs with | [a, b] => a.name == "addr" && b.name == "buf" | _ => false
def isBld (P : Program) (t : TypeId) : Bool :=
 match P.underlying t with
 | some (.struct fs) => isBldF fs.toList || (match fs.toList with | [f] => (match P.underlying f.type with | some (.struct gs) => isBldF gs.toList | _ => false) | _ => false)
 | _ => false
def isNilO : Operand → Bool
 | .const v => (match v with | .pointer none | .slice none 0 0 | .map none | .nilFunc | .nilIface => true | _ => false)
 | _ => false
def szOf (P : Program) (t : TypeId) : Nat := match P.info? t with | some i => i.size | none => 0
def byOf (P : Program) (t : TypeId) : Nat := match P.info? t with | some i => i.bytes | none => 0
def zvOf (P : Program) (t : TypeId) : Value := match P.info? t with | some i => (match i.zero with | some z => z | none => .nilIface) | none => .nilIface
def zcOf (P : Program) (t : TypeId) : List AV := (zvOf P t).cells.toList.map decK1
def agOf (P : Program) (t : TypeId) : Bool := match P.underlying t with | some d => rowish d | none => false
def elOf (P : Program) (t : TypeId) : TypeId := match P.underlying t with | some (.slice e) => e | some (.array _ e) => e | some (.map _ e) => e | _ => 0
def kkOf (P : Program) (t : TypeId) : FK := match P.underlying t with
 | some (.map kt _) => (match P.underlying kt with | some .bool => .b | some .string => .t | _ => .n)
 | _ => .n
def invOf (C : Ctx) (name : String) : List TypeId → List (TypeId × Nat × Option (Nat × Bool))
 | [] => []
 | t :: r => (match C.P.info? t with
   | some i => (match i.methods.find? (·.name == name) with
     | some mt => (match mt.func, C.P.underlying t with
       | some (f, true), some (.pointer _) => (t, f, none) :: invOf C name r
       | some (f, false), some (.pointer e) => (t, f, some (szOf C.P e, agOf C.P e)) :: invOf C name r
       | _, _ => invOf C name r)
     | none => invOf C name r)
   | none => invOf C name r)
def isIntT (P : Program) (t : TypeId) : Bool := match P.underlying t with | some (.int _) => true | _ => false
def decCall (C : Ctx) (tys : List TypeId) (mu : Bool) (c : Call) : AOp :=
 match c.callee with
 | .value (.func f) => cond (goodFn C.P f) (.call f (c.args.toList.map (decO C))) badOp
 | .value f => .callv (decO C f) (c.args.toList.map (decO C))
 | .builtin b =>
  match c.args.toList.map (decO C), c.argTypes.toList with
  | [x], [t] => (match b with
    | .len => (match C.P.underlying t with | some .string => .len true x | some (.slice _) => .len false x | some (.array n _) => .lenk n | some (.map _ _) => .maplen x | _ => badOp)
    | .cap => .cap x
    | .max => .minmax true [x]
    | .min => .minmax false [x]
    | .clear => .ext (.clear (szOf C.P (elOf C.P t)) (zcOf C.P (elOf C.P t))) [x]
    | _ => badOp)
  | [x, y], t :: _ => (match b with
    | .append => cond (isIntT C.P (c.argTypes.toList.tail.headD 0)) (.ext (.grow (szOf C.P (elOf C.P t)) (byOf C.P (elOf C.P t)) (zcOf C.P (elOf C.P t))) [x, y]) <| .append mu (szOf C.P (elOf C.P t)) (byOf C.P (elOf C.P t)) x y
    | .delete => .delete (kkOf C.P t) x y
    | .copy => .copy (szOf C.P (elOf C.P t)) x y
    | .max => .minmax true [x, y]
    | .min => .minmax false [x, y]
    | _ => badOp)
  | xs, _ => (match b with
    | .max => .minmax true xs
    | .min => .minmax false xs
    | _ => badOp)
 | .invoke x name => .inv (invOf C name tys) (decO C x) (c.args.toList.map (decO C))
def decOp (C : Ctx) (tys : List TypeId) (mu : Bool) : Op → AOp
 | .move x => .mv (decO C x)
 | .assign x => .mv (decO C x)
 | .pick c a b => .pick (decO C c) (decO C a) (decO C b)
 | .binOp op t x y _ =>
  match op, C.P.underlying t with
  | .eql, some d => (match nilKind d, d with
    | some k, _ => cond (isNilO y) (.isnil k false (decO C x)) (match k with | .p => .ext (.ptreq false) [decO C x, decO C y] | _ => badOp)
    | none, .bool => .beq false (decO C x) (decO C y)
    | none, .array _ _ => (match deepK C.P 9 t with | some l => .eqagg false l (decO C x) (decO C y) | none => badOp)
    | none, .struct _ => (match deepK C.P 9 t with | some l => .eqagg false l (decO C x) (decO C y) | none => badOp)
    | none, _ => .bin op (decO C x) (decO C y))
  | .neq, some d => (match nilKind d, d with
    | some k, _ => cond (isNilO y) (.isnil k true (decO C x)) (match k with | .p => .ext (.ptreq true) [decO C x, decO C y] | _ => badOp)
    | none, .bool => .beq true (decO C x) (decO C y)
    | none, .array _ _ => (match deepK C.P 9 t with | some l => .eqagg true l (decO C x) (decO C y) | none => badOp)
    | none, .struct _ => (match deepK C.P 9 t with | some l => .eqagg true l (decO C x) (decO C y) | none => badOp)
    | none, _ => .bin op (decO C x) (decO C y))
  | op, _ => .bin op (decO C x) (decO C y)
 | .unOp op _ x => .un op (decO C x)
 | .convert s d x =>
  match C.P.underlying s, C.P.underlying d with
  | some .string, some .string => .same (decO C x)
  | some .string, some (.slice _) => .sbytes (decO C x)
  | some (.slice _), some .string => .bstr (decO C x)
  | _, some (.int k) => .conv k (decO C x)
  | _, _ => badOp
 | .nilCheck x => .nilck (decO C x)
 | .field t x n => (match fieldOf C.P t n with | some f => .field f.offset (szOf C.P f.type) (agOf C.P f.type) (decO C x) | none => badOp)
 | .fieldAddr t x n => (match fieldOf C.P t n with | some f => .faddr f.offset (decO C x) | none => badOp)
 | .index t x i => (match C.P.underlying t with
   | some .string => .idxs (decO C x) (decO C i)
   | some (.array n e) => .idx n (szOf C.P e) (agOf C.P e) (decO C x) (decO C i)
   | _ => badOp)
 | .indexAddr t x i => (match C.P.underlying t with
   | some (.slice e) => .iaddr none (szOf C.P e) (decO C x) (decO C i)
   | some (.array n e) => .iaddr (some n) (szOf C.P e) (decO C x) (decO C i)
   | _ => badOp)
 | .slice t x lo hi mx => (match C.P.underlying t with
   | some .string => .sslice (decO C x) (lo.map (decO C)) (hi.map (decO C))
   | some (.slice e) => .slice (szOf C.P e) (decO C x) (lo.map (decO C)) (hi.map (decO C)) (mx.map (decO C))
   | _ => badOp)
 | .makeInterface t x => .mkif t (decO C x)
 | .makeFunc (.func f) first caps => cond (goodFn C.P f) (match first.toList with
   | [] => .mkfn f (caps.toList.map (decO C))
   | l => .mkfn (f + 1048576) (l.map (decO C))) badOp
 | .extract x i => .extract i (decO C x)
 | .build t ps => .build (zcOf C.P t) (ps.toList.map fun p => match placeOf C.P t p.1 with | some (o, s) => (o, s, decO C p.2) | none => (0, 0, badO))
 | .buildSlice t len ps => .bslice mu (szOf C.P (elOf C.P t)) len (zcOf C.P (elOf C.P t)) (ps.toList.map fun p => (p.1 * szOf C.P (elOf C.P t), szOf C.P (elOf C.P t), decO C p.2))
 | .load t x => .load (szOf C.P t) (agOf C.P t) (decO C x)
 | .store t x v => .store (szOf C.P t) (decO C x) (decO C v)
 | .box t x => cond (isBld C.P t) (.ext (.bnew t) [decO C x]) (.box mu (szOf C.P t) (decO C x))
 | .alloc t => cond (isBld C.P t) (.ext (.bnew t) []) (.alloc mu (zcOf C.P t))
 | .makeSlice t l c => .make mu (szOf C.P (elOf C.P t)) (byOf C.P (elOf C.P t)) (zcOf C.P (elOf C.P t)) (decO C l) (decO C c)
 | .range _ x => .srange (decO C x)
 | .next x true => .snext (decO C x)
 | .makeMap _ _ => .mkmap
 | .lookup t m k ok => .lookup (kkOf C.P t) (decK (zvOf C.P (elOf C.P t))) ok (decO C m) (decO C k)
 | .mapUpdate t m k v => .mapup (kkOf C.P t) (decO C m) (decO C k) (decO C v)
 | .insert t m k v => .mapup (kkOf C.P t) (decO C m) (decO C k) (decO C v)
 | .typeAssert x _ t ok => cond ok badOp (.ext (.tassert t) [decO C x])
 | .call c => decCall C tys mu c
 | _ => badOp
def dstN : List Oper → Nat → Option Nat
 | [], _ => none
 | o :: r, i => match i with | 0 => o.dst | i + 1 => dstN r i
def decReg (C : Ctx) (tys : List TypeId) (mus : List Nat) (all : List Oper) : List Oper → List AOper
 | [] => []
 | o :: r => ⟨o.dst, decOp C tys (match o.dst with | some d => memN d mus | none => false) o.op, match o.guard with | some (j, want) => (match dstN all j with | some s => some (s, want) | none => none) | none => none⟩ :: decReg C tys mus all r
def onOf : List Edge → List Nat
 | [] => []
 | e :: r => cond (Region.binds .any e) (addN e.on (onOf r)) (onOf r)
def nthN : List (List Nat) → Nat → List Nat
 | [], _ => []
 | l :: r, i => match i with | 0 => l | i + 1 => nthN r i
def prGo : List (List Nat) → List Nat → List Nat → List Nat
 | pr, acc, [] => acc
 | pr, acc, e :: r => prGo pr (uniN (nthN pr e) acc) r
def prOf : List (List Nat) → List Oper → List (List Nat)
 | pr, [] => pr
 | pr, o :: r => let es := onOf o.after.toList; prOf (pr ++ [prGo pr es es]) r
structure DR where
 i : Nat
 pr : List Nat
 k : Nat
 al : Bool
def drs (ops : List AOper) (pr : List (List Nat)) : Nat → List AOper → List (List Nat) → List DR
 | i, o :: r, p :: q => ⟨i, p, cond (isP o.op) 2 (cond (isR o.op) 1 0), isAl ops pr i⟩ :: drs ops pr (i + 1) r q
 | _, _, _ => []
def segD : List DR → List Nat → List Nat → List Nat × List Nat
 | [], done, out => (done, out.reverse)
 | d :: r, done, out => cond (Nat.beq d.k 0) (segD r done out) (cond (memN d.i done) (segD r done out) (cond (subN d.pr done) (segD r (d.i :: done) (d.i :: out)) (segD r done out)))
def alsD : List DR → List Nat → List Nat → List DR
 | [], _, _ => []
 | d :: r, pr, seq => cond d.al (cond (memN d.i pr) (cond (memN d.i seq) (alsD r pr seq) (d :: alsD r pr seq)) (alsD r pr seq)) (alsD r pr seq)
def effD (all : List DR) : List DR → List Nat → List DR
 | [], seq => all.filter fun d => d.al && !memN d.i seq
 | d :: r, seq => cond (Nat.beq d.k 0) (cond d.al (effD all r seq) (let a := alsD all d.pr seq; a ++ d :: effD all r (d.i :: (a.map DR.i ++ seq)))) (effD all r seq)
def stD : List DR → List Nat → List Nat → List Nat
 | [], _, _ => []
 | d :: r, done, pr => cond (Nat.beq d.k 1) (cond (memN d.i done) (cond (memN d.i pr) (stD r done pr) (d.i :: stD r done pr)) (stD r done pr)) (stD r done pr)
def planD (all : List DR) : List DR → List Nat → List (List Nat × Nat × List Nat) × List Nat
 | [], done => ([], (segD all done []).2)
 | e :: r, done => let s := segD all done []; let q := planD all r (e.i :: s.1); ((s.2, e.i, stD all s.1 e.pr) :: q.1, q.2)
def decDraw (ops : List Oper) (al : List AOper) : ACode :=
 let pr := prOf [] ops
 let ds := drs al pr 0 al pr
 let p := planD ds (effD ds ds []) []
 .draw al pr p.1 p.2
def isMv (t : Nat) (o : AOper) : Bool := match o.op with | .mv (.t s) => Nat.beq s t | _ => false
def isDst (l : List Nat) (o : AOper) : Bool := match o.dst with | some d => memN d l | none => false
def fzoN : List (Nat × List Nat) → Nat → List Nat
 | [], _ => []
 | (i, l) :: r, id => cond (Nat.beq i id) l (fzoN r id)
def frzC : List Nat → ACode → ACode
 | [], c => c
 | t :: r, c => .freeze t (frzC r c)
def decC (C : Ctx) (tys : List TypeId) (mus : List Nat) (fz : Option Nat) (fzo : List (Nat × List Nat)) (res : List Nat) : Code → List (List Nat) → ACode × List (List Nat)
 | .skip, h => (.skip, h)
 | .region id ops false, h =>
  let al := decReg C tys mus ops.toList ops.toList
  (frzC (fzoN fzo id) (match fz with
    | none => .region al
    | some t => cond (al.any (isMv t) && al.any (isDst res)) (.freeze t (.region al)) (.region al)), h)
 | .region id ops true, h => (frzC (fzoN fzo id) (decDraw ops.toList (decReg C tys mus ops.toList ops.toList)), h)
 | .seq a b, h => let p := decC C tys mus fz fzo res a h; let q := decC C tys mus fz fzo res b p.2; (.seq p.1 q.1, q.2)
 | .cond c a b, h => let p := decC C tys mus fz fzo res a h; let q := decC C tys mus fz fzo res b p.2; (.cond (decO C c) p.1 q.1, q.2)
 | .block id a, h => let p := decC C tys mus fz fzo res a h; (.block id p.1, p.2)
 | .loop a, h => let p := decC C tys mus fz fzo res a h.tail; (.loop (h.headD []) (lessN (asg p.1) (h.headD [])) p.1, p.2)
 | .exit id, h => (.exit id, h)
 | .ret, h => (.ret, h)
 | _, h => (.exit 0, h)
def resN : List ResultVar → List Nat
 | [] => []
 | .tmp t :: r => t :: resN r
 | .cell t _ :: r => t :: resN r
def decRes (P : Program) : List ResultVar → List ARes
 | [] => []
 | .tmp t :: r => .tmp t :: decRes P r
 | .cell t ty :: r => .cell t (szOf P ty) (agOf P ty) :: decRes P r
def decF (C : Ctx) (h : Hint) : AFunc :=
 match C.P.funcs[h.fid]? with
 | some fn => ⟨fn.ntmps, decRes C.P fn.results.toList, match fn.body with | some c => (decC C h.tys h.mus h.fz h.fzo (resN fn.results.toList) c h.loops).1 | none => .skip⟩
 | none => ⟨0, [], .exit 0⟩
def idC (P : Program) (GT : Nat → Option (List AV)) : Ctx := ⟨P, fun k => cond (goodFn P k) (some k) none, GT⟩
theorem idC_fok (P : Program) (GT : Nat → Option (List AV)) : FOK (idC P GT) := by
 intro key f hf
 simp only [idC] at hf
 cases hg : goodFn P key with
 | true => rw [hg] at hf; simp only [cond_true, Option.some.injEq] at hf; subst hf; exact hg
 | false => rw [hg] at hf; cases hf
def chkH (C : Ctx) : List Hint → Bool
 | [] => true
 | h :: r => and (chkF C h.fid (decF C h)) (chkH C r)
theorem chkH_mem {C : Ctx} : ∀ {L : List Hint}, chkH C L = true → ∀ h, h ∈ L → chkF C h.fid (decF C h) = true
 | [], _, h, hm => by cases hm
 | p :: r, hc, h, hm => by
  simp only [chkH, Bool.and_eq_true] at hc
  rcases List.mem_cons.1 hm with rfl | hm
  · exact hc.1
  · exact chkH_mem hc.2 h hm
theorem chkH_app {C : Ctx} : ∀ {L M : List Hint}, chkH C L = true → chkH C M = true → chkH C (L ++ M) = true
 | [], _, _, h => h
 | p :: r, M, hc, h => by
  simp only [chkH, Bool.and_eq_true] at hc
  simp only [List.cons_append, chkH, Bool.and_eq_true]
  exact ⟨hc.1, chkH_app hc.2 h⟩
end Rb

set_option linter.unusedVariables false
set_option linter.unusedSimpArgs false
namespace Rb
open Go
noncomputable section
theorem nb (a b : Nat) : Nat.beq a b = decide (a = b) := by rw [Bool.eq_iff_iff]; simp
theorem nl (a b : Nat) : Nat.blt a b = decide (a < b) := by rw [Bool.eq_iff_iff]; simp [Nat.blt]; omega
theorem ne' (a b : Nat) : Nat.ble a b = decide (a ≤ b) := by rw [Bool.eq_iff_iff]; simp
def apK {α β : Type} (f : α → β) (a : α) : β := f a
def nthF {α : Type} (l : List α) : Nat → Option α := List.rec (motive := fun _ => Nat → Option α) (fun _ => none) (fun x _ ih n => Nat.rec (motive := fun _ => Option α) (some x) (fun m _ => apK ih m) n) l
theorem nthF_eq {α : Type} : ∀ (l : List α) (n : Nat), nthF l n = l[n]?
 | [], n => by cases n <;> rfl
 | x :: r, 0 => rfl
 | x :: r, n + 1 => by rw [List.getElem?_cons_succ, ← nthF_eq r n]; rfl
def dropF {α : Type} (n : Nat) : List α → List α := Nat.rec (motive := fun _ => List α → List α) (fun l => l) (fun _ ih l => List.rec (motive := fun _ => List α) [] (fun _ t _ => apK ih t) l) n
theorem dropF_eq {α : Type} : ∀ (n : Nat) (l : List α), dropF n l = l.drop n
 | 0, l => rfl
 | n + 1, [] => rfl
 | n + 1, x :: r => by rw [List.drop_succ_cons, ← dropF_eq n r]; rfl
def leF {α : Type} (n : Nat) : List α → Bool := Nat.rec (motive := fun _ => List α → Bool) (fun _ => true) (fun _ ih l => List.rec (motive := fun _ => Bool) false (fun _ t _ => apK ih t) l) n
theorem leF_eq {α : Type} : ∀ (n : Nat) (l : List α), leF n l = decide (n ≤ l.length)
 | 0, l => by simp; rfl
 | n + 1, [] => by simp; rfl
 | n + 1, x :: r => by rw [List.length_cons, show decide (n + 1 ≤ r.length + 1) = decide (n ≤ r.length) by simp, ← leF_eq n r]; rfl
def kN : IntKind → Nat
 | .i8 => 0 | .i16 => 1 | .i32 => 2 | .i64 => 3 | .u8 => 4 | .u16 => 5 | .u32 => 6 | .u64 => 7
def kEq (k k' : IntKind) : Bool := Nat.beq (kN k) (kN k')
theorem kEq_eq {k k' : IntKind} (h : kEq k k' = true) : k = k' := by
 revert h; cases k <;> cases k' <;> decide
def lim : IntKind → Nat
 | .i8 => 128 | .i16 => 32768 | .i32 => 2147483648 | .i64 => 9223372036854775808 | .u8 => 256 | .u16 => 65536 | .u32 => 4294967296 | .u64 => 18446744073709551616
theorem wrap_lim {k : IntKind} {m : Nat} (h : m < lim k) : k.wrap (Int.ofNat m) = Int.ofNat m := by
 have hm : (Int.ofNat m) = (m : Int) := rfl
 rw [hm]
 cases k <;> simp only [lim] at h <;> simp only [IntKind.wrap, IntKind.bits, IntKind.signed] <;> simp <;> omega
def asNat (v : AV) (d : Option AV) (f : IntKind → Nat → Option AV) : Option AV :=
 match v with
 | .int k n => (match n with | .ofNat m => f k m | .negSucc _ => d)
 | _ => d
theorem asNat_eq {v : AV} {d : Option AV} {f : IntKind → Nat → Option AV} (h : ∀ k m, v = .int k (.ofNat m) → f k m = d) : asNat v d f = d := by
 unfold asNat
 split
 · split
   · exact h _ _ rfl
   · rfl
 · rfl
def natOp (g : IntKind → Nat → Nat → Option AV → Option AV) (s : Option AV) (x y : AV) : Option AV :=
 asNat x s fun k a => asNat y s fun k' b => cond (kEq k k') (g k a b s) s
theorem natOp_eq {g : IntKind → Nat → Nat → Option AV → Option AV} {op : BinOp} (hg : ∀ k a b, g k a b (abinInt op k (.ofNat a) k (.ofNat b)) = abinInt op k (.ofNat a) k (.ofNat b)) (x y : AV) : natOp g (abin op x y) x y = abin op x y := by
 refine asNat_eq fun k a hx => asNat_eq fun k' b hy => ?_
 subst hx hy
 cases h : kEq k k' with
 | false => rfl
 | true =>
  obtain rfl := kEq_eq h
  exact hg k a b
def gAdd (k : IntKind) (a b : Nat) (s : Option AV) : Option AV := cond (Nat.blt (Nat.add a b) (lim k)) (some (.int k (.ofNat (Nat.add a b)))) s
def gSub (k : IntKind) (a b : Nat) (s : Option AV) : Option AV := cond (and (Nat.ble b a) (Nat.blt a (lim k))) (some (.int k (.ofNat (Nat.sub a b)))) s
def gMul (k : IntKind) (a b : Nat) (s : Option AV) : Option AV := cond (Nat.blt (Nat.mul a b) (lim k)) (some (.int k (.ofNat (Nat.mul a b)))) s
def gLss (k : IntKind) (a b : Nat) (s : Option AV) : Option AV := some (.bool (Nat.blt a b))
def gLeq (k : IntKind) (a b : Nat) (s : Option AV) : Option AV := some (.bool (Nat.ble a b))
def gGtr (k : IntKind) (a b : Nat) (s : Option AV) : Option AV := some (.bool (Nat.blt b a))
def gGeq (k : IntKind) (a b : Nat) (s : Option AV) : Option AV := some (.bool (Nat.ble b a))
def gEql (k : IntKind) (a b : Nat) (s : Option AV) : Option AV := some (.bool (Nat.beq a b))
def gNeq (k : IntKind) (a b : Nat) (s : Option AV) : Option AV := some (.bool (not (Nat.beq a b)))
def gQuo (k : IntKind) (a b : Nat) (s : Option AV) : Option AV := cond (and (Nat.blt 0 b) (Nat.blt a (lim k))) (some (.int k (.ofNat (Nat.div a b)))) s
def gRem (k : IntKind) (a b : Nat) (s : Option AV) : Option AV := cond (Nat.blt 0 b) (some (.int k (.ofNat (Nat.mod a b)))) s
def gAnd (k : IntKind) (a b : Nat) (s : Option AV) : Option AV := cond (and (Nat.blt a (lim k)) (Nat.blt b (lim k))) (some (.int k (.ofNat (Nat.land a b)))) s
def gOr (k : IntKind) (a b : Nat) (s : Option AV) : Option AV := cond (and (Nat.blt a (lim k)) (Nat.blt b (lim k))) (some (.int k (.ofNat (Nat.lor a b)))) s
def gXor (k : IntKind) (a b : Nat) (s : Option AV) : Option AV := cond (and (Nat.blt a (lim k)) (Nat.blt b (lim k))) (some (.int k (.ofNat (Nat.xor a b)))) s
theorem gAdd_eq (k : IntKind) (a b : Nat) : gAdd k a b (abinInt .add k (.ofNat a) k (.ofNat b)) = abinInt .add k (.ofNat a) k (.ofNat b) := by
 unfold gAdd
 rw [nl]
 by_cases h : Nat.add a b < lim k
 · simp only [h, decide_true, cond_true, abinInt, if_true]
   rw [show (Int.ofNat a + Int.ofNat b) = Int.ofNat (Nat.add a b) from rfl, wrap_lim h]
 · simp only [h, decide_false, cond_false]
theorem gMul_eq (k : IntKind) (a b : Nat) : gMul k a b (abinInt .mul k (.ofNat a) k (.ofNat b)) = abinInt .mul k (.ofNat a) k (.ofNat b) := by
 unfold gMul
 rw [nl]
 by_cases h : Nat.mul a b < lim k
 · simp only [h, decide_true, cond_true, abinInt, if_true]
   rw [show (Int.ofNat a * Int.ofNat b) = Int.ofNat (Nat.mul a b) from rfl, wrap_lim h]
 · simp only [h, decide_false, cond_false]
theorem gSub_eq (k : IntKind) (a b : Nat) : gSub k a b (abinInt .sub k (.ofNat a) k (.ofNat b)) = abinInt .sub k (.ofNat a) k (.ofNat b) := by
 unfold gSub
 rw [nl, ne']
 by_cases h : b ≤ a ∧ a < lim k
 · simp only [h.1, h.2, decide_true, Bool.and_self, cond_true, abinInt, if_true]
   have : (Int.ofNat a - Int.ofNat b) = Int.ofNat (Nat.sub a b) := by
    show (a : Int) - (b : Int) = ((a - b : Nat) : Int)
    omega
   rw [this, wrap_lim (show Nat.sub a b < lim k from Nat.lt_of_le_of_lt (Nat.sub_le _ _) h.2)]
 · have : (decide (b ≤ a) && decide (a < lim k)) = false := by
     rw [Bool.eq_false_iff]; intro h2; simp at h2; exact h h2
   simp only [this, cond_false]
theorem gLss_eq (k : IntKind) (a b : Nat) : gLss k a b (abinInt .lss k (.ofNat a) k (.ofNat b)) = abinInt .lss k (.ofNat a) k (.ofNat b) := by
 simp only [gLss, abinInt, if_true, nl]
 congr 2
 simp
theorem gLeq_eq (k : IntKind) (a b : Nat) : gLeq k a b (abinInt .leq k (.ofNat a) k (.ofNat b)) = abinInt .leq k (.ofNat a) k (.ofNat b) := by
 simp only [gLeq, abinInt, if_true, ne']
 congr 2
 simp
theorem gGtr_eq (k : IntKind) (a b : Nat) : gGtr k a b (abinInt .gtr k (.ofNat a) k (.ofNat b)) = abinInt .gtr k (.ofNat a) k (.ofNat b) := by
 simp only [gGtr, abinInt, if_true, nl]
 congr 2
 simp
theorem gGeq_eq (k : IntKind) (a b : Nat) : gGeq k a b (abinInt .geq k (.ofNat a) k (.ofNat b)) = abinInt .geq k (.ofNat a) k (.ofNat b) := by
 simp only [gGeq, abinInt, if_true, ne']
 congr 2
 simp
theorem ofN_beq (a b : Nat) : (Int.ofNat a == Int.ofNat b) = decide (a = b) := by
 rw [Bool.eq_iff_iff]; simp; omega
theorem gEql_eq (k : IntKind) (a b : Nat) : gEql k a b (abinInt .eql k (.ofNat a) k (.ofNat b)) = abinInt .eql k (.ofNat a) k (.ofNat b) := by
 simp only [gEql, abinInt, if_true, nb, ofN_beq]
theorem gNeq_eq (k : IntKind) (a b : Nat) : gNeq k a b (abinInt .neq k (.ofNat a) k (.ofNat b)) = abinInt .neq k (.ofNat a) k (.ofNat b) := by
 simp only [gNeq, abinInt, if_true, nb, bne, ofN_beq]
theorem gRem_eq (k : IntKind) (a b : Nat) : gRem k a b (abinInt .rem k (.ofNat a) k (.ofNat b)) = abinInt .rem k (.ofNat a) k (.ofNat b) := by
 unfold gRem
 rw [nl]
 by_cases h : 0 < b
 · have hb : (Int.ofNat b) ≠ 0 := by simp; omega
   simp only [h, decide_true, cond_true, abinInt, if_pos (show True ∧ Int.ofNat b ≠ 0 from ⟨trivial, hb⟩)]
   rfl
 · simp only [h, decide_false, cond_false]
theorem gQuo_eq (k : IntKind) (a b : Nat) : gQuo k a b (abinInt .quo k (.ofNat a) k (.ofNat b)) = abinInt .quo k (.ofNat a) k (.ofNat b) := by
 unfold gQuo
 rw [nl, nl]
 by_cases h : 0 < b ∧ a < lim k
 · have hb : (Int.ofNat b) ≠ 0 := by have := h.1; simp; omega
   simp only [h.1, h.2, decide_true, Bool.and_self, cond_true, abinInt, if_pos (show True ∧ Int.ofNat b ≠ 0 from ⟨trivial, hb⟩)]
   rw [show (Int.ofNat a).tdiv (Int.ofNat b) = Int.ofNat (Nat.div a b) from rfl, wrap_lim (show Nat.div a b < lim k from Nat.lt_of_le_of_lt (Nat.div_le_self _ _) h.2)]
 · have : (decide (0 < b) && decide (a < lim k)) = false := by
     rw [Bool.eq_false_iff]; intro h2; simp at h2; exact h h2
   simp only [this, cond_false]
theorem lim_le (k : IntKind) : lim k ≤ 2 ^ k.bits := by cases k <;> decide
theorem lim_pow (k : IntKind) : ∃ n, lim k = 2 ^ n := by
 cases k
 · exact ⟨7, rfl⟩
 · exact ⟨15, rfl⟩
 · exact ⟨31, rfl⟩
 · exact ⟨63, rfl⟩
 · exact ⟨8, rfl⟩
 · exact ⟨16, rfl⟩
 · exact ⟨32, rfl⟩
 · exact ⟨64, rfl⟩
theorem bits_eq {op : BinOp} {f : Nat → Nat → Nat} (k : IntKind) (a b : Nat) (ha : a < lim k) (hb : b < lim k) (hf : f a b < lim k)
  (h : bitsOp op k (.ofNat a) (.ofNat b) = some (k.wrap (((f (BitVec.ofInt k.bits (.ofNat a)).toNat (BitVec.ofInt k.bits (.ofNat b)).toNat) : Nat) : Int))) : bitsOp op k (.ofNat a) (.ofNat b) = some (.ofNat (f a b)) := by
 have h2 := lim_le k
 have e : ∀ n : Nat, n < lim k → (BitVec.ofInt k.bits (.ofNat n)).toNat = n := fun n hn => by
  have : BitVec.ofInt k.bits (.ofNat n) = BitVec.ofNat k.bits n := by simp
  rw [this, BitVec.toNat_ofNat, Nat.mod_eq_of_lt (by omega)]
 rw [h, e a ha, e b hb]
 exact congrArg some (wrap_lim hf)
theorem gAnd_eq (k : IntKind) (a b : Nat) : gAnd k a b (abinInt .and k (.ofNat a) k (.ofNat b)) = abinInt .and k (.ofNat a) k (.ofNat b) := by
 unfold gAnd
 rw [nl, nl]
 by_cases h : a < lim k ∧ b < lim k
 · simp only [h.1, h.2, decide_true, Bool.and_self, cond_true, abinInt, if_true]
   rw [bits_eq (op := .and) (f := Nat.land) k a b h.1 h.2 (Nat.lt_of_le_of_lt Nat.and_le_left h.1) (by simp only [bitsOp, BitVec.toNat_and]; rfl)]
   rfl
 · have : (decide (a < lim k) && decide (b < lim k)) = false := by
     rw [Bool.eq_false_iff]; intro h2; simp at h2; exact h h2
   simp only [this, cond_false]
theorem gOr_eq (k : IntKind) (a b : Nat) : gOr k a b (abinInt .or k (.ofNat a) k (.ofNat b)) = abinInt .or k (.ofNat a) k (.ofNat b) := by
 unfold gOr
 rw [nl, nl]
 by_cases h : a < lim k ∧ b < lim k
 · simp only [h.1, h.2, decide_true, Bool.and_self, cond_true, abinInt, if_true]
   have hl : Nat.lor a b < lim k := by
    obtain ⟨n, hn⟩ := lim_pow k
    rw [hn] at h ⊢
    exact Nat.or_lt_two_pow h.1 h.2
   rw [bits_eq (op := .or) (f := Nat.lor) k a b h.1 h.2 hl (by simp only [bitsOp, BitVec.toNat_or]; rfl)]
   rfl
 · have : (decide (a < lim k) && decide (b < lim k)) = false := by
     rw [Bool.eq_false_iff]; intro h2; simp at h2; exact h h2
   simp only [this, cond_false]
theorem gXor_eq (k : IntKind) (a b : Nat) : gXor k a b (abinInt .xor k (.ofNat a) k (.ofNat b)) = abinInt .xor k (.ofNat a) k (.ofNat b) := by
 unfold gXor
 rw [nl, nl]
 by_cases h : a < lim k ∧ b < lim k
 · simp only [h.1, h.2, decide_true, Bool.and_self, cond_true, abinInt, if_true]
   have hl : Nat.xor a b < lim k := by
    obtain ⟨n, hn⟩ := lim_pow k
    rw [hn] at h ⊢
    exact Nat.xor_lt_two_pow h.1 h.2
   rw [bits_eq (op := .xor) (f := Nat.xor) k a b h.1 h.2 hl (by simp only [bitsOp, BitVec.toNat_xor]; rfl)]
   rfl
 · have : (decide (a < lim k) && decide (b < lim k)) = false := by
     rw [Bool.eq_false_iff]; intro h2; simp at h2; exact h h2
   simp only [this, cond_false]
structure BinC where
 f : AV → AV → Option AV
def binC : BinOp → BinC
 | .add => ⟨fun x y => natOp gAdd (abin .add x y) x y⟩
 | .sub => ⟨fun x y => natOp gSub (abin .sub x y) x y⟩
 | .mul => ⟨fun x y => natOp gMul (abin .mul x y) x y⟩
 | .quo => ⟨fun x y => natOp gQuo (abin .quo x y) x y⟩
 | .rem => ⟨fun x y => natOp gRem (abin .rem x y) x y⟩
 | .and => ⟨fun x y => natOp gAnd (abin .and x y) x y⟩
 | .or => ⟨fun x y => natOp gOr (abin .or x y) x y⟩
 | .xor => ⟨fun x y => natOp gXor (abin .xor x y) x y⟩
 | .lss => ⟨fun x y => natOp gLss (abin .lss x y) x y⟩
 | .leq => ⟨fun x y => natOp gLeq (abin .leq x y) x y⟩
 | .gtr => ⟨fun x y => natOp gGtr (abin .gtr x y) x y⟩
 | .geq => ⟨fun x y => natOp gGeq (abin .geq x y) x y⟩
 | .eql => ⟨fun x y => natOp gEql (abin .eql x y) x y⟩
 | .neq => ⟨fun x y => natOp gNeq (abin .neq x y) x y⟩
 | .shl => ⟨fun x y => abin .shl x y⟩
 | .shr => ⟨fun x y => abin .shr x y⟩
 | .andNot => ⟨fun x y => abin .andNot x y⟩
theorem binC_eq (op : BinOp) (x y : AV) : (binC op).f x y = abin op x y := by
 cases op <;> first | rfl | exact natOp_eq (by first | exact gAdd_eq | exact gSub_eq | exact gMul_eq | exact gQuo_eq | exact gRem_eq | exact gAnd_eq | exact gOr_eq | exact gXor_eq | exact gLss_eq | exact gLeq_eq | exact gGtr_eq | exact gGeq_eq | exact gEql_eq | exact gNeq_eq) x y
def convF (k : IntKind) (x : AV) : Option AV := asNat x (aconv k x) fun _ m => cond (Nat.blt m (lim k)) (some (.int k (.ofNat m))) (aconv k x)
theorem convF_eq (k : IntKind) (x : AV) : convF k x = aconv k x := by
 refine asNat_eq fun k' m hx => ?_
 subst hx
 rw [nl]
 by_cases h : m < lim k
 · simp only [h, decide_true, cond_true, aconv]
   rw [wrap_lim h]
 · simp only [h, decide_false, cond_false]
def takeF (cs : List AV) (o n : Nat) (agg : Bool) : Option AV :=
 cond agg (cond (leF (Nat.add o n) cs) (some (.agg ((dropF o cs).take n))) none) (cond (Nat.beq n 1) (nthF cs o) (takeCells cs o n false))
theorem takeF_eq (cs : List AV) (o n : Nat) (agg : Bool) : takeF cs o n agg = takeCells cs o n agg := by
 unfold takeF takeCells
 cases agg with
 | true =>
  rw [leF_eq, dropF_eq]
  by_cases h : o + n ≤ cs.length
  · rw [if_pos h]; simp [show Nat.add o n = o + n from rfl, h]
  · rw [if_neg h]; simp [show Nat.add o n = o + n from rfl, h]
 | false =>
  rw [nb, nthF_eq]
  by_cases h1 : n = 1
  · subst h1
    simp only [decide_true, cond_true, cond_false, Bool.false_eq_true, if_false]
    by_cases h : o + 1 ≤ cs.length
    · rw [if_pos h]
    · rw [if_neg h, List.getElem?_eq_none (by omega)]
  · simp only [h1, decide_false, cond_false]
def fieldF (off sz : Nat) (agg : Bool) (x : AV) : Option AV :=
 match x with
 | .agg cs => takeF cs off sz agg
 | _ => none
theorem fieldF_eq (off sz : Nat) (agg : Bool) (x : AV) : fieldF off sz agg x = afield off sz agg x := by
 unfold fieldF afield; cases x <;> first | rfl | exact takeF_eq _ _ _ _
def idxF (len sz : Nat) (agg : Bool) (x i : AV) : Option AV := asNat i (aidx len sz agg x i) fun k m => match x with
 | .agg cs => cond (Nat.blt m len) (takeF cs (Nat.mul m sz) sz agg) none
 | _ => aidx len sz agg x i
theorem idxF_eq (len sz : Nat) (agg : Bool) (x i : AV) : idxF len sz agg x i = aidx len sz agg x i := by
 refine asNat_eq fun k m hi => ?_
 subst hi
 cases x <;> first | rfl | skip
 rename_i cs
 dsimp only
 rw [nl, takeF_eq]
 simp only [aidx]
 by_cases h : m < len
 · rw [if_pos ⟨Int.natCast_nonneg _, by exact Int.ofNat_lt.2 h⟩]; simp only [h, decide_true, cond_true]; rfl
 · rw [if_neg (fun h2 => h (Int.ofNat_lt.1 h2.2))]; simp only [h, decide_false, cond_false]
def idxsF (x i : AV) : Option AV := asNat i (aidxs x i) fun _ m => match x with
 | .str s => (match nthF s m with | some b => some (.int .u8 (.ofNat b.toNat)) | none => none)
 | _ => aidxs x i
theorem idxsF_eq (x i : AV) : idxsF x i = aidxs x i := by
 refine asNat_eq fun k m hi => ?_
 subst hi
 cases x <;> first | rfl | skip
 rename_i s
 dsimp only
 rw [nthF_eq]
 simp only [aidxs]
 rw [if_pos (show 0 ≤ Int.ofNat m from Int.natCast_nonneg _)]
 show _ = Option.map _ s[m]?
 cases s[m]? <;> rfl
def iaddrF (arr : Option Nat) (sz : Nat) (x i : AV) : Option AV := asNat i (aiaddr arr sz x i) fun _ m => match arr, x with
 | none, .lst _ len cells => cond (Nat.blt m len) (some (.fptr (dropF (Nat.mul m sz) cells))) none
 | none, .row id o len _ => cond (Nat.blt m len) (some (.ptr id (Nat.add o (Nat.mul m sz)))) none
 | some n, .ptr id o => cond (Nat.blt m n) (some (.ptr id (Nat.add o (Nat.mul m sz)))) none
 | some n, .fptr cells => cond (Nat.blt m n) (some (.fptr (dropF (Nat.mul m sz) cells))) none
 | _, _ => aiaddr arr sz x i
theorem iaddrF_eq (arr : Option Nat) (sz : Nat) (x i : AV) : iaddrF arr sz x i = aiaddr arr sz x i := by
 refine asNat_eq fun k m hi => ?_
 subst hi
 have key : ∀ (n : Nat) (v : AV), cond (Nat.blt m n) (some v) none = if 0 ≤ (Int.ofNat m) ∧ (Int.ofNat m) < (n : Int) then some v else none := by
  intro n v
  rw [nl]
  by_cases h : m < n
  · rw [if_pos ⟨Int.natCast_nonneg _, Int.ofNat_lt.2 h⟩]; simp only [h, decide_true, cond_true]
  · rw [if_neg (fun h2 => h (Int.ofNat_lt.1 h2.2))]; simp only [h, decide_false, cond_false]
 cases arr <;> cases x <;> first
  | rfl
  | (dsimp only; rw [key]; simp only [dropF_eq]; rfl)
  | (dsimp only; rw [key]; rfl)
def loadF (T : TH) (n : Nat) (agg : Bool) (x : AV) : Option AV :=
 match x with
 | .ptr id o => (match T.t.get id with | .row cs => takeF cs o n agg | _ => none)
 | .fptr cs => takeF cs 0 n agg
 | _ => none
theorem loadF_eq (T : TH) (n : Nat) (agg : Bool) (x : AV) : loadF T n agg x = aload T.ah n agg x := by
 unfold loadF aload
 cases x <;> first | rfl | skip
 · dsimp only
   show _ = match T.t.get _ with | .row cs => _ | _ => _
   split <;> first | rfl | exact takeF_eq _ _ _ _
 · exact takeF_eq _ _ _ _
end
end Rb

set_option linter.unusedVariables false
set_option linter.unusedSimpArgs false
namespace Rb
open Go
noncomputable section
def natV (m : Nat) (K : Nat → Bool) : Bool := Nat.rec (motive := fun _ => Bool) (K 0) (fun p _ => K (Nat.succ p)) m
theorem natV_eq (m : Nat) (K : Nat → Bool) : natV m K = K m := by cases m <;> rfl
def spineK {α : Type} (l : List α) : (List α → Bool) → Bool := List.rec (motive := fun _ => (List α → Bool) → Bool) (fun K => K []) (fun x _ ih K => apK ih fun r => apK K (x :: r)) l
theorem spineK_eq {α : Type} : ∀ (l : List α) (K : List α → Bool), spineK l K = K l
 | [], K => rfl
 | x :: r, K => by show spineK r (fun r => K (x :: r)) = _; rw [spineK_eq r]
def dropK {α : Type} (n : Nat) : List α → (List α → Bool) → Bool := Nat.rec (motive := fun _ => List α → (List α → Bool) → Bool) (fun l K => K l) (fun _ ih l K => List.rec (motive := fun _ => Bool) (K []) (fun _ t _ => apK (ih t) K) l) n
theorem dropK_eq {α : Type} : ∀ (n : Nat) (l : List α) (K : List α → Bool), dropK n l K = K (l.drop n)
 | 0, l, K => rfl
 | n + 1, [], K => rfl
 | n + 1, x :: r, K => by rw [List.drop_succ_cons, ← dropK_eq n r K]; rfl
def fv (v : AV) (K : AV → Bool) : Bool :=
 match v with
 | .int k n => (match n with | .ofNat m => natV m fun m => K (.int k (.ofNat m)) | .negSucc m => natV m fun m => K (.int k (.negSucc m)))
 | .bool b => (match b with | true => K (.bool true) | false => K (.bool false))
 | .str s => spineK s fun s => K (.str s)
 | .ptr i o => natV i fun i => natV o fun o => K (.ptr i o)
 | .row i o l z => natV i fun i => natV o fun o => natV l fun l => K (.row i o l z)
 | .lst tk l cs => natV l fun l => spineK cs fun cs => K (.lst tk l cs)
 | .fptr cs => spineK cs fun cs => K (.fptr cs)
 | .agg cs => spineK cs fun cs => K (.agg cs)
 | .tup cs => spineK cs fun cs => K (.tup cs)
 | v => K v
theorem fv_eq (v : AV) (K : AV → Bool) : fv v K = K v := by
 unfold fv
 split <;> (try split) <;> simp only [natV_eq, spineK_eq]
def DoK (x : Option AV) (K : AV → Bool) : Bool := match x with | some v => fv v K | none => false
theorem DoK_eq (x : Option AV) (K : AV → Bool) : DoK x K = DoB x K := by
 cases x with
 | none => rfl
 | some v => exact fv_eq v K
def DoR (x : Option AV) (K : AV → Bool) : Bool := match x with | some v => K v | none => false
theorem DoR_eq (x : Option AV) (K : AV → Bool) : DoR x K = DoB x K := by cases x <;> rfl
def getK (E : EV) (t : Nat) (K : AV → Bool) : Bool := List.rec (motive := fun _ => Bool) (K .bot) (fun p _ ih => Prod.rec (motive := fun _ => Bool) (fun s v => Bool.rec (motive := fun _ => Bool) ih (K v) (Nat.beq s t)) p) E
theorem getK_eq : ∀ (E : EV) (t : Nat) (K : AV → Bool), getK E t K = K (eget E t)
 | [], t, K => rfl
 | (s, v) :: E, t, K => by
  show Bool.rec (motive := fun _ => Bool) (getK E t K) (K v) (Nat.beq s t) = K (cond (Nat.beq s t) v (eget E t))
  rw [getK_eq E t K]
  cases Nat.beq s t <;> rfl
def Opd.val (E : EV) : Opd → AV
 | .t n => eget E n
 | .k v => v
def ovals (E : EV) : Option Opd → Option AV
 | none => none
 | some x => some (x.val E)
def vals (E : EV) : List Opd → List AV
 | [] => []
 | x :: r => x.val E :: vals E r
def pvals (E : EV) : List (Nat × Nat × Opd) → List (Nat × Nat × AV)
 | [] => []
 | (a, b, x) :: r => (a, b, x.val E) :: pvals E r
theorem val_eq (E : EV) (x : Opd) : (x.sub E).ev [] = x.val E := by cases x <;> rfl
theorem vals_eq (E : EV) : ∀ xs : List Opd, evs [] (xs.map (Opd.sub E)) = vals E xs
 | [] => rfl
 | x :: r => by
  have := vals_eq E r
  simp only [evs, List.map_cons] at this ⊢
  rw [this, val_eq]; rfl
theorem pvals_eq (E : EV) : ∀ xs : List (Nat × Nat × Opd), evps [] (xs.map fun p => (p.1, p.2.1, p.2.2.sub E)) = pvals E xs
 | [] => rfl
 | (a, b, x) :: r => by
  have := pvals_eq E r
  simp only [evps, List.map_cons] at this ⊢
  rw [this, val_eq]; rfl
theorem ovals_eq (E : EV) (x : Option Opd) : (x.map (Opd.sub E)).map (Opd.ev []) = ovals E x := by
 cases x with
 | none => rfl
 | some x => exact congrArg some (val_eq E x)
def valK (x : Opd) (E : EV) (K : AV → Bool) : Bool := match x with | .t n => getK E n K | .k v => K v
theorem valK_eq (x : Opd) (E : EV) (K : AV → Bool) : valK x E K = K (x.val E) := by
 cases x with
 | t n => exact getK_eq E n K
 | k v => rfl
def valsK (E : EV) : List Opd → (List AV → Bool) → Bool
 | [], K => K []
 | x :: r, K => valK x E fun v => valsK E r fun vs => K (v :: vs)
theorem valsK_eq (E : EV) : ∀ (xs : List Opd) (K : List AV → Bool), valsK E xs K = K (vals E xs)
 | [], K => rfl
 | x :: r, K => by rw [valsK, valK_eq, valsK_eq E r]; rfl
def pvalsK (E : EV) : List (Nat × Nat × Opd) → (List (Nat × Nat × AV) → Bool) → Bool
 | [], K => K []
 | (a, b, x) :: r, K => valK x E fun v => pvalsK E r fun vs => K ((a, b, v) :: vs)
theorem pvalsK_eq (E : EV) : ∀ (xs : List (Nat × Nat × Opd)) (K : List (Nat × Nat × AV) → Bool), pvalsK E xs K = K (pvals E xs)
 | [], K => rfl
 | (a, b, x) :: r, K => by rw [pvalsK, valK_eq, pvalsK_eq E r]; rfl
def ovalK (E : EV) (x : Option Opd) (K : Option AV → Bool) : Bool := match x with | none => K none | some x => valK x E fun v => K (some v)
theorem ovalK_eq (E : EV) (x : Option Opd) (K : Option AV → Bool) : ovalK E x K = K (ovals E x) := by
 cases x with
 | none => rfl
 | some x => exact valK_eq x E _
def setK (x : AObj) (f : Nat) : TT → Nat → (TT → Bool) → Bool :=
 Nat.rec (motive := fun _ => TT → Nat → (TT → Bool) → Bool) (fun t _ K => K t)
  (fun _ ih t i K => TT.casesOn (motive := fun _ => Bool) t
    (cond (Nat.beq i 0) (K (.node x .leaf .leaf)) (cond (Nat.beq (Nat.mod i 2) 1) (ih .leaf (Nat.div i 2) fun l => K (.node .gone l .leaf)) (ih .leaf (Nat.sub (Nat.div i 2) 1) fun r => K (.node .gone .leaf r))))
    (fun a l r => cond (Nat.beq i 0) (K (.node x l r)) (cond (Nat.beq (Nat.mod i 2) 1) (ih l (Nat.div i 2) fun l => K (.node a l r)) (ih r (Nat.sub (Nat.div i 2) 1) fun r => K (.node a l r))))) f
theorem setK_eq (x : AObj) : ∀ (f : Nat) (t : TT) (i : Nat) (K : TT → Bool), setK x f t i K = K (TT.setF x f t i) := by
 intro f
 induction f with
 | zero => intro t i K; cases t <;> rfl
 | succ f ih =>
  intro t i K
  cases t with
  | leaf =>
   show cond (Nat.beq i 0) (K (.node x .leaf .leaf)) (cond (Nat.beq (i % 2) 1) (setK x f .leaf (i / 2) fun l => K (.node .gone l .leaf)) (setK x f .leaf (i / 2 - 1) fun r => K (.node .gone .leaf r))) = _
   rw [ih, ih, TT.setF]
   cases Nat.beq i 0 <;> cases Nat.beq (i % 2) 1 <;> rfl
  | node a l r =>
   show cond (Nat.beq i 0) (K (.node x l r)) (cond (Nat.beq (i % 2) 1) (setK x f l (i / 2) fun l => K (.node a l r)) (setK x f r (i / 2 - 1) fun r => K (.node a l r))) = _
   rw [ih, ih, TT.setF]
   cases Nat.beq i 0 <;> cases Nat.beq (i % 2) 1 <;> rfl
def THset (T : TH) (i : Nat) (x : AObj) (K : TH → Bool) : Bool := match T with | ⟨n, t⟩ => setK x (Nat.succ i) t i fun t => K ⟨n, t⟩
theorem THset_eq (T : TH) (i : Nat) (x : AObj) (K : TH → Bool) : THset T i x K = K (T.set i x) := by
 obtain ⟨n, t⟩ := T
 exact setK_eq x (i + 1) t i fun t => K ⟨n, t⟩
def THpush (T : TH) (x : AObj) (K : TH → Bool) : Bool := match T with | ⟨n, t⟩ => setK x (Nat.succ n) t n fun t => natV (Nat.succ n) fun m => K ⟨m, t⟩
theorem THpush_eq (T : TH) (x : AObj) (K : TH → Bool) : THpush T x K = K (T.push x) := by
 obtain ⟨n, t⟩ := T
 simp only [THpush, setK_eq, natV_eq]
 rfl
def objK (x : AObj) (K : AObj → Bool) : Bool :=
 match x with
 | .row cs => spineK cs fun cs => K (.row cs)
 | .map es => spineK es fun es => K (.map es)
 | .tok a b => natV a fun a => K (.tok a b)
 | .siter s p => natV p fun p => K (.siter s p)
 | .bld T u b => K (.bld T u b)
 | .buf U bs => K (.buf U bs)
 | .gone => K .gone
theorem objK_eq (x : AObj) (K : AObj → Bool) : objK x K = K x := by cases x <;> simp only [objK, spineK_eq, natV_eq]
def putK (n : Nat) : AV → List AV → (List AV → Bool) → Bool :=
 Nat.rec (motive := fun _ => AV → List AV → (List AV → Bool) → Bool) (fun v l K => List.rec (motive := fun _ => Bool) (K []) (fun _ t _ => K (v :: t)) l) (fun _ ih v l K => List.rec (motive := fun _ => Bool) (K []) (fun x t _ => apK (ih v t) fun r => apK K (x :: r)) l) n
theorem putK_eq : ∀ (n : Nat) (v : AV) (l : List AV) (K : List AV → Bool), putK n v l K = K (l.set n v)
 | 0, v, [], K => rfl
 | 0, v, x :: t, K => rfl
 | n + 1, v, [], K => rfl
 | n + 1, v, x :: t, K => by
  show putK n v t (fun r => K (x :: r)) = _
  rw [putK_eq n v t]; rfl
def cellsK (o : Nat) : List AV → List AV → (List AV → Bool) → Bool
 | [], cs, K => K cs
 | v :: r, cs, K => putK o v cs fun cs => cellsK (Nat.succ o) r cs K
theorem cellsK_eq : ∀ (o : Nat) (l cs : List AV) (K : List AV → Bool), cellsK o l cs K = K (setCells cs o l)
 | _, [], cs, K => rfl
 | o, v :: r, cs, K => by rw [cellsK, putK_eq, cellsK_eq (Nat.succ o) r]; rfl
inductive Eff where
 | wr (v : AV) (i : Nat) (cs : List AV) (o : Nat) (news : List AV)
 | keep (v : AV)
 | set (v : AV) (i : Nat) (x : AObj)
 | push (v : AV) (x : AObj)
 | gp (v : AV) (i : Nat) (x : AObj)
 | gs (v : AV) (i j : Nat) (x : AObj)
def Eff.app (T : TH) : Eff → AV × TH
 | .wr v i cs o news => (v, T.set i (.row (setCells cs o news)))
 | .keep v => (v, T)
 | .set v i x => (v, T.set i x)
 | .push v x => (v, T.push x)
 | .gp v i x => (v, (T.set i .gone).push x)
 | .gs v i j x => (v, (T.set i .gone).set j x)
def DoE (T : TH) (r : Option Eff) (K : PostB) : Bool :=
 match r with
 | none => false
 | some e => (match e with
   | .wr v i cs o news => fv v fun v => spineK news fun news => cellsK o news cs fun cs => THset T i (.row cs) (K v)
   | .keep v => fv v fun v => K v T
   | .set v i x => fv v fun v => objK x fun x => THset T i x (K v)
   | .push v x => fv v fun v => objK x fun x => THpush T x (K v)
   | .gp v i x => fv v fun v => objK x fun x => THset T i .gone fun T => THpush T x (K v)
   | .gs v i j x => fv v fun v => objK x fun x => THset T i .gone fun T => THset T j x (K v))
theorem DoE_eq (T : TH) (r : Option Eff) (K : PostB) : DoE T r K = DoHB (r.map (Eff.app T)) K := by
 cases r with
 | none => rfl
 | some e => cases e <;> simp only [DoE, fv_eq, objK_eq, THset_eq, THpush_eq, spineK_eq, cellsK_eq, Option.map_some, Eff.app, DoHB]
def storeE (T : TH) (n : Nat) (x v : AV) : Option Eff :=
 match x with
 | .ptr id o =>
  match T.t.get id with
  | .row cs => cond (and v.known (and (Nat.beq v.cells.length n) (and (v.cells.all AV.scalar) (leF (Nat.add o n) cs)))) (some (.wr (.tup []) id cs o v.cells)) none
  | _ => none
 | _ => none
theorem storeE_eq (T : TH) (n : Nat) (x v : AV) : (storeE T n x v).map (Eff.app T) = (tstore T n x v).map fun T => (.tup [], T) := by
 cases x with
 | ptr id o =>
  simp only [storeE, tstore]
  cases hc : T.t.get id with
  | row cs =>
   dsimp only
   rw [leF_eq, nb]
   by_cases h : v.known = true ∧ v.cells.length = n ∧ v.cells.all AV.scalar = true ∧ o + n ≤ cs.length
   · rw [if_pos h]
     have : (v.known && (decide (v.cells.length = n) && (v.cells.all AV.scalar && decide (Nat.add o n ≤ cs.length)))) = true := by
      simp only [h.1, h.2.1, h.2.2.1, decide_true, Bool.true_and, decide_eq_true_eq]; exact h.2.2.2
     rw [this]; rfl
   · rw [if_neg h]
     have : (v.known && (decide (v.cells.length = n) && (v.cells.all AV.scalar && decide (Nat.add o n ≤ cs.length)))) = false := by
      rw [Bool.eq_false_iff]; intro h2
      simp only [Bool.and_eq_true, decide_eq_true_eq] at h2
      exact h h2
     rw [this]; rfl
  | _ => rfl
 | _ => rfl
def boxE (T : TH) (mu : Bool) (cells : List AV) : Eff := cond mu (.push (.ptr T.n 0) (.row cells)) (.keep (.fptr cells))
theorem boxE_eq (T : TH) (mu : Bool) (cells : List AV) : (boxE T mu cells).app T = tbox T mu cells := by cases mu <;> rfl
def boxvE (T : TH) (mu : Bool) (n : Nat) (v : AV) : Option Eff := if v.known ∧ v.cells.length = n then some (boxE T mu v.cells) else none
theorem boxvE_eq (T : TH) (mu : Bool) (n : Nat) (v : AV) : (boxvE T mu n v).map (Eff.app T) = tboxv T mu n v := by
 unfold boxvE tboxv; split
 · exact congrArg some (boxE_eq _ _ _)
 · rfl
def bsliceE (T : TH) (mu : Bool) (sz len : Nat) (zero : List AV) (parts : List (Nat × Nat × AV)) : Option Eff :=
 match fillA (List.replicate len zero).flatten parts with
 | some cells => some (cond mu (.push (.row T.n 0 len sz) (.row cells)) (.keep (.lst .full len cells)))
 | none => none
theorem bsliceE_eq (T : TH) (mu : Bool) (sz len : Nat) (zero : List AV) (parts : List (Nat × Nat × AV)) : (bsliceE T mu sz len zero parts).map (Eff.app T) = tbslice T mu sz len zero parts := by
 unfold bsliceE tbslice
 cases fillA (List.replicate len zero).flatten parts with
 | none => rfl
 | some cells => cases mu <;> rfl
def appendE (T : TH) (mu : Bool) (sz bytes : Nat) (x y : AV) : Option Eff :=
 match acells T.ah sz y with
 | none => none
 | some (m, news) =>
  if ¬ news.all AV.scalar then none else
  match x with
  | .lst tk len cells =>
   if m = 0 then some (.keep (.lst tk len cells))
   else if ¬ (cells.length = len * sz ∧ (len + m) * bytes ≤ 140737488355328 ∧ len + m ≤ 9223372036854775807) then none
   else match tk, mu with
   | .nil, true | .full, true => some (.push (.row T.n 0 (len + m) sz) (.row (cells ++ news)))
   | .nil, false | .full, false => some (.push (.lst (.own T.n) (len + m) (cells ++ news)) (.tok ((len + m) * sz) sz))
   | .own t, _ => match T.t.get t with
    | .tok k sz' => if k = len * sz ∧ sz' = sz then some (.gp (.lst (.own T.n) (len + m) (cells ++ news)) t (.tok ((len + m) * sz) sz)) else none
    | _ => none
   | .dead, _ => none
  | .row id o len sz' =>
   match T.t.get id with
   | .row cs =>
    if m = 0 then some (.keep (.row id o len sz'))
    else if ¬ (o = 0 ∧ sz' = sz ∧ (len + m) * bytes ≤ 140737488355328 ∧ len + m ≤ 9223372036854775807) then none
    else if (len + m) * sz ≤ cs.length then some (.wr (.row id 0 (len + m) sz) id cs (len * sz) news)
    else if cs.length = len * sz then some (.gp (.row T.n 0 (len + m) sz) id (.row (cs ++ news)))
    else none
   | _ => none
  | _ => none
theorem appendE_eq (T : TH) (mu : Bool) (sz bytes : Nat) (x y : AV) : (appendE T mu sz bytes x y).map (Eff.app T) = tappend T mu sz bytes x y := by
 unfold appendE tappend
 cases acells T.ah sz y with
 | none => rfl
 | some p =>
  obtain ⟨m, news⟩ := p
  dsimp only
  split
  · rfl
  · cases x <;> try rfl
    · rename_i tk len cells
      dsimp only
      split
      · rfl
      · split
        · rfl
        · cases tk <;> cases mu <;> try rfl
          all_goals
           rename_i t
           dsimp only
           generalize T.t.get t = o
           cases o <;> try rfl
           dsimp only
           split <;> rfl
    · rename_i id o len sz'
      dsimp only
      generalize T.t.get id = o
      cases o <;> try rfl
      dsimp only
      split
      · rfl
      · split
        · rfl
        · split
          · rfl
          · split <;> rfl
def makeE (T : TH) (mu : Bool) (sz bytes : Nat) (zero : List AV) (len cap : AV) : Option Eff :=
 match len, cap with
 | .int .i64 n, .int .i64 c =>
  if 0 ≤ n ∧ n ≤ c ∧ bytes * c ≤ 281474976710656 ∧ c ≤ 9223372036854775807 ∧ zero.length = sz then
   if mu then some (.push (.row T.n 0 n.toNat sz) (.row (List.replicate c.toNat zero).flatten))
   else if n = c then some (.keep (.lst .full n.toNat (List.replicate n.toNat zero).flatten)) else none
  else none
 | _, _ => none
theorem makeE_eq (T : TH) (mu : Bool) (sz bytes : Nat) (zero : List AV) (len cap : AV) : (makeE T mu sz bytes zero len cap).map (Eff.app T) = tmake T mu sz bytes zero len cap := by
 unfold makeE tmake
 cases len <;> try rfl
 rename_i k n
 cases k <;> try rfl
 cases cap <;> try rfl
 rename_i k c
 cases k <;> try rfl
 dsimp only
 split
 · split
   · rfl
   · split <;> rfl
 · rfl
def copyE (T : TH) (sz : Nat) (x y : AV) : Option Eff :=
 match x, acells T.ah sz y with
 | .row id o len _, some (m, news) =>
  match T.t.get id with
  | .row cs =>
   let n := min m len
   if news.all AV.scalar ∧ o + n * sz ≤ cs.length then some (.wr (.int .i64 n) id cs o (news.take (n * sz))) else none
  | _ => none
 | _, _ => none
theorem copyE_eq (T : TH) (sz : Nat) (x y : AV) : (copyE T sz x y).map (Eff.app T) = tcopy T sz x y := by
 unfold copyE tcopy
 cases x <;> try rfl
 rename_i id o len z
 cases acells T.ah sz y with
 | none => rfl
 | some p =>
  obtain ⟨m, news⟩ := p
  dsimp only
  generalize T.t.get id = q
  cases q <;> try rfl
  dsimp only
  split <;> rfl
def mapupE (T : TH) (kk : FK) (m k v : AV) : Option Eff :=
 match m with
 | .map id =>
  match T.t.get id with
  | .map es => if plainKey kk k ∧ v.known then (match findA kk k es 0 with
      | some (some (i, _)) => some (.set (.tup []) id (.map (es.set i (k, v))))
      | some none => some (.set (.tup []) id (.map (es ++ [(k, v)])))
      | none => none) else none
  | _ => none
 | _ => none
theorem mapupE_eq (T : TH) (kk : FK) (m k v : AV) : (mapupE T kk m k v).map (Eff.app T) = (tmapup T kk m k v).map fun T => (.tup [], T) := by
 unfold mapupE tmapup
 cases m <;> try rfl
 rename_i id
 dsimp only
 generalize T.t.get id = q
 cases q <;> try rfl
 rename_i es
 dsimp only
 split
 · cases findA kk k es 0 with
   | none => rfl
   | some r =>
    cases r with
    | none => rfl
    | some p => rfl
 · rfl
def freezeE (T : TH) (x : AV) : Option Eff :=
 match x with
 | .row id o len sz =>
  match T.t.get id with
  | .row cs => if o + len * sz ≤ cs.length then some (.set (.lst .dead len ((cs.drop o).take (len * sz))) id .gone) else none
  | _ => none
 | .ptr id o =>
  match T.t.get id with
  | .row cs => match frzA (fun i => T.t.get i) cs with
   | some (l, id') => if id' = id then none else some (.gs (.ptr id o) id' id (.row l))
   | none => some (.set (.fptr (cs.drop o)) id .gone)
  | _ => none
 | .lst tk len cells => some (.keep (.lst tk len cells))
 | .fptr cs => some (.keep (.fptr cs))
 | .agg cells => match frzA (fun i => T.t.get i) cells with
  | some (l, id) => some (.set (.agg l) id .gone)
  | none => some (.keep (.agg cells))
 | _ => none
theorem freezeE_eq (T : TH) (x : AV) : (freezeE T x).map (Eff.app T) = tfreeze T x := by
 unfold freezeE tfreeze
 cases x <;> try rfl
 · rename_i id o
   dsimp only
   generalize T.t.get id = q
   cases q <;> try rfl
   rename_i cs
   dsimp only
   cases frzA (fun i => T.t.get i) cs with
   | none => rfl
   | some q =>
    obtain ⟨l, id'⟩ := q
    dsimp only
    by_cases e : id' = id
    · rw [if_pos e, if_pos e]; rfl
    · rw [if_neg e, if_neg e]; rfl
 · rename_i id o len sz
   dsimp only
   generalize T.t.get id = q
   cases q <;> try rfl
   dsimp only
   split <;> rfl
 · rename_i cs
   dsimp only
   cases frzA (fun i => T.t.get i) cs with
   | none => rfl
   | some q => rfl
structure OpC where
 f : CallsB → EV → TH → PostB → Bool
structure SetC where
 f : EV → AV → (EV → Bool) → Bool
structure RegC where
 f : CallsB → EV → TH → (EV → TH → Bool) → Bool
structure CodC where
 f : CallsB → EV → TH → (EV → TH → Bool) → (AExit → EV → TH → Bool) → Bool
structure PutC where
 f : EV → List AV → (EV → Bool) → Bool
structure SamC where
 f : EV → TH → Bool → Bool
structure ResC where
 f : EV → TH → (List AV → Bool) → Bool
structure FnC where
 f : CallsB → List AV → TH → PostB → Bool
def ldC (agg : Bool) (x : Option AV) (K : AV → Bool) : Bool := cond agg (DoK x K) (DoR x K)
theorem ldC_eq (agg : Bool) (x : Option AV) (K : AV → Bool) : ldC agg x K = DoB x K := by cases agg <;> simp only [ldC, cond_true, cond_false, DoK_eq, DoR_eq]
def iaddrK (arr : Option Nat) (sz : Nat) (x i : AV) (K : AV → Bool) : Bool :=
 match x with
 | .lst _ len cells => (match i with
   | .int _ n => (match n with
     | .ofNat m => (match arr with | none => cond (Nat.blt m len) (dropK (Nat.mul m sz) cells fun r => K (.fptr r)) false | some _ => DoK (iaddrF arr sz x i) K)
     | _ => DoK (iaddrF arr sz x i) K)
   | _ => DoK (iaddrF arr sz x i) K)
 | .fptr cells => (match i with
   | .int _ n => (match n with
     | .ofNat m => (match arr with | some l => cond (Nat.blt m l) (dropK (Nat.mul m sz) cells fun r => K (.fptr r)) false | none => DoK (iaddrF arr sz x i) K)
     | _ => DoK (iaddrF arr sz x i) K)
   | _ => DoK (iaddrF arr sz x i) K)
 | _ => DoK (iaddrF arr sz x i) K
theorem iaddrK_eq (arr : Option Nat) (sz : Nat) (x i : AV) (K : AV → Bool) : iaddrK arr sz x i K = DoB (aiaddr arr sz x i) K := by
 rw [← iaddrF_eq, ← DoK_eq]
 cases x <;> try rfl
 · rename_i cells
   cases i <;> try rfl
   rename_i k n
   cases n <;> try rfl
   rename_i m
   cases arr <;> try rfl
   rename_i l
   rw [DoK_eq]
   simp only [iaddrK, iaddrF, asNat, dropK_eq, dropF_eq]
   cases Nat.blt m l <;> rfl
 · rename_i tk len cells
   cases i <;> try rfl
   rename_i k n
   cases n <;> try rfl
   rename_i m
   cases arr <;> try rfl
   rw [DoK_eq]
   simp only [iaddrK, iaddrF, asNat, dropK_eq, dropF_eq]
   cases Nat.blt m len <;> rfl
def faddrK (off : Nat) (x : AV) (K : AV → Bool) : Bool :=
 match x with
 | .ptr i o => natV (Nat.add o off) fun o => K (.ptr i o)
 | .fptr cs => dropK off cs fun r => K (.fptr r)
 | _ => DoK (afaddr off x) K
theorem faddrK_eq (off : Nat) (x : AV) (K : AV → Bool) : faddrK off x K = DoB (afaddr off x) K := by
 unfold faddrK
 split
 · rw [natV_eq]; rfl
 · rw [dropK_eq]; rfl
 · exact DoK_eq _ _
def opC : AOp → OpC
 | .mv x => ⟨fun _ E T K => valK x E fun v => K v T⟩
 | .pick c a b => ⟨fun _ E T K => valK c E fun c => GdB c true (valK a E fun v => K v T) (valK b E fun v => K v T)⟩
 | .bin op x y => ⟨fun _ E T K => valK x E fun x => valK y E fun y => DoK ((binC op).f x y) fun v => K v T⟩
 | .beq neg x y => ⟨fun _ E T K => valK x E fun x => valK y E fun y => DoK (abeq neg x y) fun v => K v T⟩
 | .isnil k neg x => ⟨fun _ E T K => valK x E fun x => DoK (anil k neg x) fun v => K v T⟩
 | .eqagg neg ks x y => ⟨fun _ E T K => valK x E fun x => valK y E fun y => DoK (aeqAgg neg ks x y) fun v => K v T⟩
 | .un op x => ⟨fun _ E T K => valK x E fun x => DoK (aun op x) fun v => K v T⟩
 | .conv k x => ⟨fun _ E T K => valK x E fun x => DoK (convF k x) fun v => K v T⟩
 | .same x => ⟨fun _ E T K => valK x E fun x => DoR (asame x) fun v => K v T⟩
 | .nilck x => ⟨fun _ E T K => valK x E fun x => DoR (anilck x) fun v => K v T⟩
 | .field off sz agg x => ⟨fun _ E T K => valK x E fun x => ldC agg (fieldF off sz agg x) fun v => K v T⟩
 | .idx len sz agg x i => ⟨fun _ E T K => valK x E fun x => valK i E fun i => ldC agg (idxF len sz agg x i) fun v => K v T⟩
 | .idxs x i => ⟨fun _ E T K => valK x E fun x => valK i E fun i => DoK (idxsF x i) fun v => K v T⟩
 | .faddr off x => ⟨fun _ E T K => valK x E fun x => faddrK off x fun v => K v T⟩
 | .iaddr arr sz x i => ⟨fun _ E T K => valK x E fun x => valK i E fun i => iaddrK arr sz x i fun v => K v T⟩
 | .slice sz x lo hi mx => ⟨fun _ E T K => valK x E fun x => ovalK E lo fun lo => ovalK E hi fun hi => ovalK E mx fun mx => DoK (aslice sz x lo hi mx) fun v => K v T⟩
 | .sslice x lo hi => ⟨fun _ E T K => valK x E fun x => ovalK E lo fun lo => ovalK E hi fun hi => DoK (asslice x lo hi) fun v => K v T⟩
 | .mkif t x => ⟨fun _ E T K => valK x E fun v => K (.iface t v) T⟩
 | .mkfn key caps => ⟨fun _ E T K => valsK E caps fun vs => K (.fn key vs) T⟩
 | .extract i x => ⟨fun _ E T K => valK x E fun x => DoR (aextract i x) fun v => K v T⟩
 | .build zero parts => ⟨fun _ E T K => pvalsK E parts fun ps => DoK (abuild zero ps) fun v => K v T⟩
 | .len str x => ⟨fun _ E T K => valK x E fun x => DoK (alen str x) fun v => K v T⟩
 | .lenk n => ⟨fun _ E T K => K (.int .i64 n) T⟩
 | .cap x => ⟨fun _ E T K => valK x E fun x => DoK (acap x) fun v => K v T⟩
 | .minmax mx xs => ⟨fun _ E T K => valsK E xs fun vs => DoK (aminmax mx vs) fun v => K v T⟩
 | .load n agg x => ⟨fun _ E T K => valK x E fun x => ldC agg (loadF T n agg x) fun v => K v T⟩
 | .store n x v => ⟨fun _ E T K => valK x E fun x => valK v E fun v => DoE T (storeE T n x v) K⟩
 | .box mu n x => ⟨fun _ E T K => valK x E fun x => DoE T (boxvE T mu n x) K⟩
 | .alloc mu zero => ⟨fun _ E T K => DoE T (some (boxE T mu zero)) K⟩
 | .bslice mu sz len zero parts => ⟨fun _ E T K => pvalsK E parts fun ps => DoE T (bsliceE T mu sz len zero ps) K⟩
 | .append mu sz bytes x y => ⟨fun _ E T K => valK x E fun x => valK y E fun y => DoE T (appendE T mu sz bytes x y) K⟩
 | .make mu sz bytes zero len cap => ⟨fun _ E T K => valK len E fun l => valK cap E fun c => DoE T (makeE T mu sz bytes zero l c) K⟩
 | .copy sz x y => ⟨fun _ E T K => valK x E fun x => valK y E fun y => DoE T (copyE T sz x y) K⟩
 | .mkmap => ⟨fun _ E T K => DoE T (some (.push (.map T.n) (.map []))) K⟩
 | .lookup kk zero ok m k => ⟨fun _ E T K => valK m E fun m => valK k E fun k => DoK (alookup T.ah kk zero ok m k) fun v => K v T⟩
 | .mapup kk m k v => ⟨fun _ E T K => valK m E fun m => valK k E fun k => valK v E fun v => DoE T (mapupE T kk m k v) K⟩
 | .delete kk m k => ⟨fun _ E T K => DoB (tdelete T kk (m.val E) (k.val E)) fun T => K (.tup []) T⟩
 | .maplen m => ⟨fun _ E T K => valK m E fun m => DoK (amaplen T.ah m) fun v => K v T⟩
 | .sbytes x => ⟨fun _ E T K => valK x E fun x => DoK (asbytes x) fun v => K v T⟩
 | .bstr x => ⟨fun _ E T K => valK x E fun x => DoK (abstr T.ah x) fun v => K v T⟩
 | .srange x => ⟨fun _ E T K => DoHB (tsrange T (x.val E)) K⟩
 | .snext x => ⟨fun _ E T K => DoHB (tsnext T (x.val E)) K⟩
 | .call key args => ⟨fun B E T K => valsK E args fun vs => B key vs T K⟩
 | .callv f args => ⟨fun B E T K => valK f E fun f => valsK E args fun vs => clB B f vs T K⟩
 | .ext e xs => ⟨fun _ E T K => valsK E xs fun vs => DoHB (text T e vs) K⟩
 | .inv tbl x args => ⟨fun B E T K => valK x E fun x => valsK E args fun vs => invB B tbl x vs T K⟩
theorem mapB (x : Option TH) (K : PostB) : DoHB (x.map fun T => (.tup [], T)) K = DoB x fun T => K (.tup []) T := by cases x <;> rfl
theorem opC_eq (B : CallsB) (E : EV) (T : TH) (K : PostB) (op : AOp) : (opC op).f B E T K = opB B [] T K (op.sub E) := by
 cases op <;> simp only [opC, AOp.sub, opB, val_eq, vals_eq, pvals_eq, ovals_eq, valK_eq, valsK_eq, pvalsK_eq, ovalK_eq, DoK_eq, DoR_eq, ldC_eq, iaddrK_eq, faddrK_eq, binC_eq, convF_eq, fieldF_eq, idxF_eq, idxsF_eq, loadF_eq, DoE_eq, storeE_eq, boxvE_eq, bsliceE_eq, appendE_eq, makeE_eq, copyE_eq, mapupE_eq, mapB, Option.map_some, boxE_eq] <;> rfl
def setC (n : Nat) : Option Nat → SetC
 | none => ⟨fun E _ K => K E⟩
 | some d => cond (Nat.blt d n) ⟨fun E v K => K ((d, v) :: E)⟩ ⟨fun E _ K => K E⟩
theorem setC_eq (n : Nat) (d : Option Nat) (E : EV) (v : AV) (K : EV → Bool) : (setC n d).f E v K = K (esetd n E d v) := by
 cases d with
 | none => rfl
 | some d =>
  simp only [setC, esetd, eset]
  cases Nat.blt d n <;> rfl
def oneC (n : Nat) (o : AOper) : RegC :=
 match o.guard with
 | none => ⟨fun B E T K => (opC o.op).f B E T fun v T' => (setC n o.dst).f E v fun E => K E T'⟩
 | some (s, want) => ⟨fun B E T K => getK E s fun g =>
     Gd3B g want ((setC n (some s)).f E (.bool want) fun E => (opC o.op).f B E T fun v T' => (setC n o.dst).f E v fun E => K E T')
      ((setC n (some s)).f E (.bool !want) fun E => (setC n o.dst).f E (.tup []) fun E => K E T) ((setC n (some s)).f E (.tup []) fun E => (setC n o.dst).f E (.tup []) fun E => K E T)⟩
theorem oneC_eq (n : Nat) (o : AOper) (B : CallsB) (E : EV) (T : TH) (K : EV → TH → Bool) : (oneC n o).f B E T K = oneB B n o E T K := by
 unfold oneC oneB
 cases hg : o.guard with
 | none => simp only [opC_eq, setC_eq]
 | some g => simp only [opC_eq, setC_eq, esetd, getK_eq]
def regC (n : Nat) : List AOper → RegC
 | [] => ⟨fun _ E T K => K E T⟩
 | o :: r => ⟨fun B E T K => (oneC n o).f B E T fun E' T' => (regC n r).f B E' T' K⟩
theorem regC_eq (n : Nat) : ∀ (l : List AOper) (B : CallsB) (E : EV) (T : TH) (K : EV → TH → Bool), (regC n l).f B E T K = regB B n l E T K := by
 intro l
 induction l with
 | nil => intro B E T K; rfl
 | cons o r ih =>
  intro B E T K
  simp only [regC, oneC_eq, regB, oneB, ih]
def segC (n : Nat) (ops : List AOper) : List Nat → RegC
 | [] => ⟨fun _ E T K => K E T⟩
 | i :: r => match ops[i]? with
  | some o => ⟨fun B E T K => (oneC n o).f B E T fun E' T' => (segC n ops r).f B E' T' K⟩
  | none => ⟨fun _ _ _ _ => false⟩
theorem segC_eq (n : Nat) (ops : List AOper) : ∀ (l : List Nat) (B : CallsB) (E : EV) (T : TH) (K : EV → TH → Bool), (segC n ops l).f B E T K = segB B n ops l E T K := by
 intro l
 induction l with
 | nil => intro B E T K; rfl
 | cons i r ih =>
  intro B E T K
  simp only [segC, segB]
  cases ops[i]? with
  | none => rfl
  | some o => simp only [oneC_eq, ih]
def readC (o : AOper) : SamC :=
 match o.op with
 | .load n agg x => ⟨fun E T X => valK x E fun x => getK E (o.dst.getD 0) fun d => and (sameV (loadF T n agg x) d) X⟩
 | .lookup kk zero ok m k => ⟨fun E T X => and (sameV (alookup T.ah kk zero ok (m.val E) (k.val E)) (eget E (o.dst.getD 0))) X⟩
 | .maplen m => ⟨fun E T X => and (sameV (amaplen T.ah (m.val E)) (eget E (o.dst.getD 0))) X⟩
 | .bstr x => ⟨fun E T X => and (sameV (abstr T.ah (x.val E)) (eget E (o.dst.getD 0))) X⟩
 | _ => ⟨fun _ _ X => X⟩
theorem readC_eq (o : AOper) (E : EV) (T : TH) (X : Bool) : (readC o).f E T X = (readB T E o && X) := by
 unfold readC readB
 cases o.op <;> simp only [val_eq, Bool.true_and, valK_eq, getK_eq, loadF_eq] <;> rfl
def samC (ops : List AOper) : List Nat → SamC
 | [] => ⟨fun _ _ X => X⟩
 | l :: r => match ops[l]? with
  | some o => (match o.guard with
    | none => ⟨fun E T X => (readC o).f E T ((samC ops r).f E T X)⟩
    | some (s, want) => ⟨fun E T X => and (getK E s fun g => sameW g want ((readC o).f E T true)) ((samC ops r).f E T X)⟩)
  | none => ⟨fun E T X => (samC ops r).f E T X⟩
theorem samC_eq (ops : List AOper) : ∀ (l : List Nat) (E : EV) (T : TH) (X : Bool), (samC ops l).f E T X = samesT ops E T X l := by
 intro l
 induction l with
 | nil => intro E T X; rfl
 | cons i r ih =>
  intro E T X
  simp only [samC, samesT]
  cases ops[i]? with
  | none => simp only [ih, Bool.true_and]
  | some o =>
   simp only [sameGB]
   cases o.guard with
   | none => simp only [ih, readC_eq]
   | some g => simp only [ih, readC_eq, Bool.and_true, getK_eq]
def drawC (n : Nat) (ops : List AOper) (last : List Nat) : List (List Nat × Nat × List Nat) → RegC
 | [] => segC n ops last
 | (seg, e, st) :: r => match ops[e]? with
  | some o => ⟨fun B E T K => (segC n ops seg).f B E T fun E1 T1 => (oneC n o).f B E1 T1 fun E2 T2 => (samC ops st).f E1 T2 ((drawC n ops last r).f B E2 T2 K)⟩
  | none => ⟨fun B E T K => (segC n ops seg).f B E T fun _ _ => false⟩
theorem drawC_eq (n : Nat) (ops : List AOper) (last : List Nat) : ∀ (l : List (List Nat × Nat × List Nat)) (B : CallsB) (E : EV) (T : TH) (K : EV → TH → Bool), (drawC n ops last l).f B E T K = drawB B n ops last l E T K := by
 intro l
 induction l with
 | nil => intro B E T K; exact segC_eq _ _ _ _ _ _ _
 | cons p r ih =>
  obtain ⟨seg, e, st⟩ := p
  intro B E T K
  simp only [drawC, drawB]
  cases ops[e]? with
  | none => simp only [segC_eq]
  | some o => simp only [segC_eq, oneC_eq, samC_eq, ih]
def putC (n : Nat) : List Nat → PutC
 | [] => ⟨fun E _ K => K E⟩
 | t :: r => cond (Nat.blt t n) ⟨fun E s K => List.rec (motive := fun _ => Bool) ((putC n r).f ((t, .bot) :: E) [] K) (fun v q _ => (putC n r).f ((t, v) :: E) q K) s⟩ ⟨fun E s K => (putC n r).f E s.tail K⟩
theorem putC_eq (n : Nat) : ∀ (l : List Nat) (E : EV) (s : List AV) (K : EV → Bool), (putC n l).f E s K = K (eputs n E l s) := by
 intro l
 induction l with
 | nil => intro E s K; cases s <;> rfl
 | cons t r ih =>
  intro E s K
  simp only [putC, eputs, eset]
  cases Nat.blt t n with
  | true => cases s <;> simp only [cond_true, ih, List.headD_nil, List.headD_cons, List.tail_nil, List.tail_cons]
  | false => simp only [cond_false, ih]
def getsK (E : EV) : List Nat → (List AV → Bool) → Bool
 | [], K => K []
 | t :: r, K => getK E t fun v => getsK E r fun vs => K (v :: vs)
theorem getsK_eq (E : EV) : ∀ (l : List Nat) (K : List AV → Bool), getsK E l K = K (egets E l)
 | [], K => rfl
 | t :: r, K => by rw [getsK, getK_eq, getsK_eq E r]; rfl
def keepE (ks : List Nat) : EV → EV
 | [] => []
 | (t, v) :: E => cond (memN t ks) (keepE ks E) ((t, v) :: keepE ks E)
def keepK (ks : List Nat) (E : EV) : (EV → Bool) → Bool := List.rec (motive := fun _ => (EV → Bool) → Bool) (fun K => K []) (fun p _ ih K => Prod.rec (motive := fun _ => Bool) (fun t v => cond (memN t ks) (ih K) (ih fun E => K ((t, v) :: E))) p) E
theorem keepK_eq (ks : List Nat) : ∀ (E : EV) (K : EV → Bool), keepK ks E K = K (keepE ks E)
 | [], K => rfl
 | (t, v) :: E, K => by
  show cond (memN t ks) (keepK ks E K) (keepK ks E fun E => K ((t, v) :: E)) = _
  rw [keepK_eq ks E, keepK_eq ks E, keepE]
  cases memN t ks <;> rfl
theorem memN_iff : ∀ (t : Nat) (l : List Nat), memN t l = decide (t ∈ l)
 | t, [] => rfl
 | t, s :: r => by
  rw [memN, nb, memN_iff t r]
  by_cases h : t = s
  · simp [h]
  · simp [h]
theorem keepE_get (ks : List Nat) : ∀ (E : EV) (i : Nat), eget (keepE ks E) i = if i ∈ ks then .bot else eget E i
 | [], i => by simp [keepE, eget]
 | (t, v) :: E, i => by
  rw [keepE, memN_iff, eget_cons]
  by_cases h : t ∈ ks
  · simp only [h, decide_true, cond_true, keepE_get ks E i]
    by_cases hi : i ∈ ks
    · rw [if_pos hi, if_pos hi]
    · rw [if_neg hi, if_neg hi, if_neg (show ¬ t = i from fun e => hi (e ▸ h))]
  · simp only [h, decide_false, cond_false, eget_cons, keepE_get ks E i]
    by_cases e : t = i
    · subst e; rw [if_pos rfl, if_neg h, if_pos rfl]
    · rw [if_neg e, if_neg e]
theorem killsI_get : ∀ (ks : List Nat) (env : Env) (i : Nat), (Rb.kills env ks).getD i .bot = if i ∈ ks then .bot else env.getD i .bot
 | [], env, i => by simp [Rb.kills]
 | t :: r, env, i => by
  rw [Rb.kills, killsI_get r]
  by_cases hr : i ∈ r
  · rw [if_pos hr, if_pos (List.mem_cons_of_mem _ hr)]
  · rw [if_neg hr]
    by_cases e : t = i
    · subst e
      rw [if_pos List.mem_cons_self, List.getD_eq_getElem?_getD, List.getElem?_set]
      simp only [if_true]
      split <;> rfl
    · rw [if_neg (by simp only [List.mem_cons, not_or]; exact ⟨fun h => e h.symm, hr⟩), List.getD_eq_getElem?_getD, List.getElem?_set_ne e, ← List.getD_eq_getElem?_getD]
theorem killsI_length : ∀ (ks : List Nat) (env : Env), (Rb.kills env ks).length = env.length
 | [], env => rfl
 | t :: r, env => by rw [Rb.kills, killsI_length r]; simp
theorem Agree.keep {n : Nat} {E : EV} {env : Env} (h : Agree n E env) (ks : List Nat) : Agree n (keepE ks E) (Rb.kills env ks) :=
 ⟨by rw [killsI_length]; exact h.1, fun i => by rw [keepE_get, killsI_get, h.2 i]⟩
def blockX (id : Nat) (N : EV → TH → Bool) (X : AExit → EV → TH → Bool) : AExit → EV → TH → Bool
 | .exit id', E, T => cond (Nat.beq id' id) (N E T) (X (.exit id') E T)
 | e, E, T => X e E T
def LoopC (F : List AV → TH → (List AV → TH → Bool) → Bool) (n : Nat) : List AV → TH → Bool := Nat.rec (motive := fun _ => List AV → TH → Bool) (fun _ _ => false) (fun _ ih s T => F s T ih) n
def codeC (fuel n : Nat) : ACode → CodC
 | .skip => ⟨fun _ E T N _ => N E T⟩
 | .region ops => ⟨fun B E T N _ => (regC n ops).f B E T N⟩
 | .draw ops _ plan last => ⟨fun B E T N _ => (drawC n ops last plan).f B E T N⟩
 | .seq a b => ⟨fun B E T N X => (codeC fuel n a).f B E T (fun E T => (codeC fuel n b).f B E T N X) X⟩
 | .cond x a b => ⟨fun B E T N X => valK x E fun x => GdB x true ((codeC fuel n a).f B E T N X) ((codeC fuel n b).f B E T N X)⟩
 | .block id a => ⟨fun B E T N X => (codeC fuel n a).f B E T N (blockX id N X)⟩
 | .loop vs ks a => ⟨fun B E T N X => keepK ks E fun E0 => getsK E vs fun s => LoopC (fun s T K => (putC n vs).f E0 s fun E => (codeC fuel n a).f B E T (fun E' T' => getsK E' vs fun s => K s T') X) fuel s T⟩
 | .exit id => ⟨fun _ E T _ X => X (.exit id) E T⟩
 | .ret => ⟨fun _ E T _ X => X .ret E T⟩
 | .freeze t a => ⟨fun B E T N X => getK E t fun v => DoE T (freezeE T v) fun v T' => (setC n (some t)).f E v fun E => (codeC fuel n a).f B E T' N X⟩
 | .join vs ks a b => ⟨fun _ _ _ _ _ => false⟩
 | .rjoin vs ks ops b => ⟨fun _ _ _ _ _ => false⟩
theorem codeC_sound {Φ : Calls'} {B : CallsB} (hB : SoundB Φ B) (hΦ : Mono Φ) (fuel n : Nat) : ∀ (c : ACode) {E : EV} {env : Env} {T : TH} {N : EV → TH → Bool} {X : AExit → EV → TH → Bool} {Q : AExit → Env → AH → Prop}, Agree n E env → (codeC fuel n c).f B E T N X = true →
  (∀ E' env' T', Agree n E' env' → N E' T' = true → Q .normal env' T'.ah) → (∀ x E' env' T', x ≠ .normal → Agree n E' env' → X x E' T' = true → Q x env' T'.ah) → codeSem Φ c env T.ah Q := by
 have reg : ∀ (l : List AOper) {E : EV} {env : Env} {T : TH} {N : EV → TH → Bool} {Q : Env → AH → Prop}, Agree n E env → (regC n l).f B E T N = true → (∀ E' env' T', Agree n E' env' → N E' T' = true → Q env' T'.ah) → regSem Φ l env T.ah Q := by
  intro l E env T N Q ha h hN
  rw [regC_eq] at h
  refine regE_sound hΦ ha (regB_sound (Q := fun E' H' => ∃ T', H' = T'.ah ∧ N E' T' = true) hB h fun e T' h => ⟨T', rfl, h⟩) fun E' env' H' ha' h' => ?_
  obtain ⟨T', rfl, h'⟩ := h'
  exact hN _ _ _ ha' h'
 intro c
 induction c with
 | skip => intro E env T N X Q ha h hN hX; exact hN _ _ _ ha h
 | region ops => intro E env T N X Q ha h hN hX; exact reg ops ha h hN
 | draw ops pr plan last =>
  intro E env T N X Q ha h hN hX
  simp only [codeC, drawC_eq] at h
  refine drawE_sound hΦ ha (drawB_sound (Q := fun E' H' => ∃ T', H' = T'.ah ∧ N E' T' = true) hB h fun e T' h => ⟨T', rfl, h⟩) fun E' env' H' ha' h' => ?_
  obtain ⟨T', rfl, h'⟩ := h'
  exact hN _ _ _ ha' h'
 | seq a b iha ihb =>
  intro E env T N X Q ha h hN hX
  simp only [codeC] at h
  simp only [codeSem]
  refine iha ha h (fun E' env' T' ha' h' => ihb ha' h' hN hX) fun x E' env' T' hx ha' h' => ?_
  cases x with
  | normal => exact absurd rfl hx
  | exit i => exact hX _ _ _ _ hx ha' h'
  | ret => exact hX _ _ _ _ hx ha' h'
 | join vs ks a b iha ihb => intro E env T N X Q ha h hN hX; cases h
 | cond x a b iha ihb =>
  intro E env T N X Q ha h hN hX
  simp only [codeC, valK_eq] at h
  rw [← val_eq, sub_ev ha] at h
  exact GdB_sound h (fun h => iha ha h hN hX) fun h => ihb ha h hN hX
 | block id a ih =>
  intro E env T N X Q ha h hN hX
  simp only [codeC] at h
  simp only [codeSem]
  refine ih ha h hN fun x E' env' T' hx ha' h' => ?_
  cases x with
  | normal => exact absurd rfl hx
  | exit i =>
   simp only [blockX, nb] at h'
   dsimp only
   by_cases hi : i = id
   · rw [if_pos hi]; simp only [hi, decide_true, cond_true] at h'; exact hN _ _ _ ha' h'
   · rw [if_neg hi]; simp only [hi, decide_false, cond_false] at h'; exact hX _ _ _ _ hx ha' h'
  | ret => exact hX _ _ _ _ hx ha' h'
 | loop vs ks a ih =>
  intro E env T N X Q ha h hN hX
  simp only [codeC, keepK_eq, getsK_eq, putC_eq] at h
  simp only [codeSem]
  have main : ∀ (m : Nat) (s : List AV) (T : TH), LoopC (fun s T K => (codeC fuel n a).f B (eputs n (keepE ks E) vs s) T (fun E' T' => K (egets E' vs) T') X) m s T = true →
    LoopP (fun (s : List AV × AH) (K : List AV × AH → Prop) =>
      codeSem Φ a (puts (kills env ks) vs s.1) s.2 fun e env' H' => match e with
       | .normal => K (gets env' vs, H')
       | e => Q e env' H') (s, T.ah) := by
   intro m
   induction m with
   | zero => intro s T h; cases h
   | succ m ihm =>
    intro s T h
    refine LoopP.step ?_
    refine ih ((ha.keep ks).puts vs s) h (fun E' env' T' ha' h' => ?_) fun x E' env' T' hx ha' h' => ?_
    · dsimp only
      rw [← ha'.gets vs]
      exact ihm _ _ h'
    · cases x with
      | normal => exact absurd rfl hx
      | exit i => exact hX _ _ _ _ hx ha' h'
      | ret => exact hX _ _ _ _ hx ha' h'
  rw [← ha.gets vs]
  exact main fuel _ _ h
 | exit id => intro E env T N X Q ha h hN hX; exact hX _ _ _ _ (by intro h; cases h) ha h
 | ret => intro E env T N X Q ha h hN hX; exact hX _ _ _ _ (by intro h; cases h) ha h
 | freeze t a ih =>
  intro E env T N X Q ha h hN hX
  simp only [codeC, getK_eq, DoE_eq, freezeE_eq, setC_eq, esetd] at h
  simp only [codeSem]
  rw [ha.2 t] at h
  exact DoHB_sound (tfreeze_ah _ _) h fun v T' h' => ih (ha.set t v) h' hN hX
 | rjoin vs ks ops b ih => intro E env T N X Q ha h hN hX; cases h
def resC : List ARes → ResC
 | [] => ⟨fun _ _ K => K []⟩
 | .tmp t :: r => ⟨fun E T K => getK E t fun v => (resC r).f E T fun vs => K (v :: vs)⟩
 | .cell t n agg :: r => ⟨fun E T K => getK E t fun x => ldC agg (loadF T n agg x) fun v => (resC r).f E T fun vs => K (v :: vs)⟩
theorem resC_eq : ∀ (rs : List ARes) (E : EV) (T : TH) (K : List AV → Bool), (resC rs).f E T K = resB E T rs K := by
 intro rs
 induction rs with
 | nil => intros; rfl
 | cons r rs ih => intro E T K; cases r <;> simp only [resC, resB, ih, getK_eq, ldC_eq, loadF_eq]
def oneK (vs : List AV) (Q : PostB) (T : TH) : Bool :=
 match vs with
 | [v] => Q v T
 | vs => Q (.tup vs) T
theorem oneK_eq (vs : List AV) (Q : PostB) (T : TH) : oneK vs Q T = Q (oneRes vs) T := by
 cases vs with
 | nil => rfl
 | cons v r => cases r <;> rfl
def retX (rs : List ARes) (Q : PostB) : AExit → EV → TH → Bool
 | .exit _, _, _ => false
 | _, E, T => (resC rs).f E T fun vs => oneK vs Q T
def initK : List AV → Nat → (EV → Bool) → Bool
 | [], _, K => K []
 | a :: r, i, K => initK r (Nat.succ i) fun E => K ((i, a) :: E)
theorem initK_eq : ∀ (l : List AV) (i : Nat) (K : EV → Bool), initK l i K = K (einit l i)
 | [], _, _ => rfl
 | a :: r, i, K => by rw [initK, initK_eq r]; rfl
def fnC (fuel : Nat) (f : AFunc) : FnC :=
 ⟨fun B args T Q => and (Nat.ble args.length f.ntmps) (initK args 0 fun E => (codeC fuel f.ntmps f.body).f B E T (fun E T => (resC f.results).f E T fun vs => oneK vs Q T) (retX f.results Q))⟩
theorem fnC_sound {Φ : Calls'} {B : CallsB} (hB : SoundB Φ B) (hΦ : Mono Φ) {fuel : Nat} {f : AFunc} {args : List AV} {T : TH} {K : PostB} (h : (fnC fuel f).f B args T K = true) {Q : Post} (hK : ∀ v T', K v T' = true → Q v T'.ah) : fnSem Φ f args T.ah Q := by
 simp only [fnC, Bool.and_eq_true, initK_eq] at h
 have hle := Nat.le_of_ble_eq_true h.1
 have ha : Agree f.ntmps (einit args 0) (args ++ List.replicate (f.ntmps - args.length) .bot) := by
  refine ⟨by simp; omega, fun i => ?_⟩
  rw [einit_get]
  simp only [Nat.not_lt_zero, if_false, Nat.sub_zero]
  simp only [List.getD_eq_getElem?_getD]
  by_cases hi : i < args.length
  · rw [List.getElem?_append_left hi]
  · rw [List.getElem?_append_right (by omega), List.getElem?_eq_none (by omega), List.getElem?_replicate]
    split <;> rfl
 have fin : ∀ (E' : EV) (env' : Env) (T' : TH), Agree f.ntmps E' env' → (resC f.results).f E' T' (fun vs => oneK vs K T') = true → resSem env' T'.ah f.results fun vs => Q (oneRes vs) T'.ah := by
  intro E' env' T' ha' h'
  rw [resC_eq] at h'
  rw [← resE_eq ha']
  exact resB_sound h' fun vs h => hK _ _ (by rwa [oneK_eq] at h)
 refine codeC_sound hB hΦ fuel _ f.body ha h.2 (fun E' env' T' ha' h' => fin E' env' T' ha' h') fun x E' env' T' hx ha' h' => ?_
 cases x with
 | normal => exact absurd rfl hx
 | exit i => cases h'
 | ret => exact fin E' env' T' ha' h'
def dispI (tab : Nat → Option FnC) (B : CallsB) : CallsB := fun k args T Q => match tab k with
 | some c => c.f B args T Q
 | none => false
def tabH (C : Ctx) (fuel : Nat) : List Hint → Nat → Option FnC
 | [], _ => none
 | h :: r, k => cond (Nat.beq h.fid k) (some (fnC fuel (decF C h))) (tabH C fuel r k)
theorem tabH_mem {C : Ctx} {fuel : Nat} : ∀ {L : List Hint} {k : Nat} {c : FnC}, tabH C fuel L k = some c → ∃ h, h ∈ L ∧ h.fid = k ∧ c = fnC fuel (decF C h)
 | [], _, _, h => by cases h
 | p :: r, k, c, h => by
  unfold tabH at h
  cases hb : Nat.beq p.fid k with
  | true =>
   rw [hb] at h
   simp only [cond_true, Option.some.injEq] at h
   exact ⟨p, List.mem_cons_self, Nat.eq_of_beq_eq_true hb, h.symm⟩
  | false =>
   rw [hb] at h
   obtain ⟨f, hf, hc⟩ := tabH_mem (L := r) h
   exact ⟨f, List.mem_cons_of_mem _ hf, hc⟩
theorem dispI_ok {P : Program} {GT : Nat → Option (List AV)} {L : List Hint} (hL : chkH (idC P GT) L = true) (fuel : Nat) : DispOK (ACall (idC P GT)) (dispI (tabH (idC P GT) fuel L)) := by
 intro B hB k args T K h Q hQ
 unfold dispI at h
 split at h
 · rename_i c hc
   obtain ⟨hi, hm, hk, rfl⟩ := tabH_mem hc
   have hs : fnSem (ACall (idC P GT)) (decF (idC P GT) hi) args T.ah Q := fnC_sound hB (ACall_mono _) h hQ
   refine ⟨fnSem_nv (ACall_nv _) hs, fun f hf G w Vs hG hrel hargs => ?_⟩
   have hfk : f = k := by
    simp only [idC] at hf
    cases hg : goodFn P k with
    | true => rw [hg] at hf; simpa using hf.symm
    | false => rw [hg] at hf; cases hf
   subst hfk
   exact fn_sound (idC_fok P GT) (by rw [← hk]; exact chkH_mem hL _ hm) hs hG hrel hargs
 · cases h
end
end Rb

set_option linter.unusedVariables false
namespace Rb
open Go
noncomputable section
def forced (b : Bool) : Bool := Bool.rec (motive := fun _ => Bool) false true b
theorem forced_eq (b : Bool) : forced b = b := by cases b <;> rfl
theorem of_forced {b : Bool} (h : forced b = true) : b = true := by rwa [forced_eq] at h
def memL : List (Nat × List AV × AV) → Memo
 | [], _, _ => none
 | e :: r, k, args => cond (Nat.beq e.1 k) (cond (AV.sames e.2.1 args) (some e.2.2) (memL r k args)) (memL r k args)
def entry (B : CallsB) (e : Nat × List AV × AV) : Bool := and (AV.frozs e.2.1) (and e.2.2.froz (B e.1 e.2.1 TH.mt (fun u _ => u.same e.2.2)))
theorem memL_nil {Φ : Calls'} : MemoOK Φ (memL []) := fun _ _ _ h => by cases h
theorem memL_cons {C : Ctx} (hGT : GTok C) {B : CallsB} (hB : SoundB (ACall C) B) {e : Nat × List AV × AV} {L : List (Nat × List AV × AV)} (h : entry B e = true) (hL : MemoOK (ACall C) (memL L)) : MemoOK (ACall C) (memL (e :: L)) := by
 obtain ⟨k0, a0, v0⟩ := e
 simp only [entry, Bool.and_eq_true] at h
 obtain ⟨h1, h2, h3⟩ := h
 intro k args v hm H Q hQ
 unfold memL at hm
 dsimp only at hm
 cases hb : Nat.beq k0 k with
 | false => rw [hb] at hm; exact hL k args v hm H Q hQ
 | true =>
  rw [hb] at hm
  obtain rfl := Nat.eq_of_beq_eq_true hb
  cases hs : AV.sames a0 args with
  | false => rw [hs] at hm; exact hL k0 args v hm H Q hQ
  | true =>
   rw [hs] at hm
   simp only [cond_true, Option.some.injEq] at hm
   subst hm
   obtain rfl := AV.sames_sound _ _ hs
   exact run_any hGT hB h1 h2 h3 H Q hQ
theorem memL_app {C : Ctx} (hGT : GTok C) {B : CallsB} (hB : SoundB (ACall C) B) {L : List (Nat × List AV × AV)} (hL : MemoOK (ACall C) (memL L)) : ∀ {N : List (Nat × List AV × AV)}, N.all (entry B) = true → MemoOK (ACall C) (memL (N ++ L))
 | [], _ => hL
 | e :: N, h => by
  simp only [List.all_cons, Bool.and_eq_true] at h
  exact memL_cons hGT hB h.1 (memL_app hGT hB hL h.2)
def runI (fn : Nat → Option FnC) (L : List (Nat × List AV × AV)) : CallsB := runM (memL L) (dispI fn) 100
theorem runI_ok {C : Ctx} {fn : Nat → Option FnC} (hd : DispOK (ACall C) (dispI fn)) {L : List (Nat × List AV × AV)} (hL : MemoOK (ACall C) (memL L)) : SoundB (ACall C) (runI fn L) := runM_sound hL hd 100
theorem run_yes {C : Ctx} {B : CallsB} (hB : SoundB (ACall C) B) {k : Nat} {args : List AV} (h : B k args TH.mt (fun u _ => u.same (.bool true)) = true) : ACall C k args AH.mt (fun v _ => v = .bool true) := by
 have := hB k args TH.mt _ h (fun v _ => v = .bool true) (fun v T' h => AV.same_sound _ _ h)
 rwa [TH.ah_mt] at this
end
end Rb

set_option linter.unusedVariables false
namespace Rb
open Go
noncomputable section
def lookA : List (List AV × AV) → List AV → Option AV
 | [], _ => none
 | e :: r, a => cond (AV.sames e.1 a) (some e.2) (lookA r a)
def grp (k : Nat) : List (Nat × List AV × AV) → List (List AV × AV)
 | [] => []
 | e :: r => cond (Nat.beq e.1 k) ((e.2.1, e.2.2) :: grp k r) (grp k r)
theorem look_grp (k : Nat) (args : List AV) : ∀ L : List (Nat × List AV × AV), lookA (grp k L) args = memL L k args
 | [] => rfl
 | e :: r => by
  have ih := look_grp k args r
  unfold grp memL
  cases Nat.beq e.1 k with
  | false => exact ih
  | true =>
   simp only [cond_true, lookA]
   cases AV.sames e.2.1 args with
   | false => exact ih
   | true => rfl
def memG (L : List (Nat × List AV × AV)) : Memo := fun k args => match grp k L with
 | [] => none
 | l => lookA l (AV.weaks args)
theorem memG_ok {C : Ctx} {L : List (Nat × List AV × AV)} (h : MemoOK (ACall C) (memL L)) : MemoOK (ACall C) (memG L) := by
 intro k args v hm H Q hQ
 have : lookA (grp k L) (AV.weaks args) = some v := by
  unfold memG at hm
  split at hm
  · cases hm
  · exact hm
 rw [look_grp] at this
 exact ACall.weak_args (h k _ v this H Q hQ)
theorem run_anyW {C : Ctx} (hGT : GTok C) {B : CallsB} (hB : SoundB (ACall C) B) {k : Nat} {args : List AV} {v : AV} (ha : AV.frozs args = true) (hv : v.froz = true) (h : B k args TH.mt (fun u _ => u.weak.same v) = true) (H : AH) (Q : Post) (hQ : Q v H) : ACall C k args H Q :=
 ACall.frame2 hGT (ACall.weak (Q := fun u _ => u.same v = true) (run_closed hB (K := fun u => u.weak.same v) h)) ha H Q fun u _ hu => by rw [AV.same_sound _ _ hu]; exact ⟨hv, hQ⟩
def entryW (B : CallsB) (e : Nat × List AV × AV) : Bool := and (AV.frozs e.2.1) (and e.2.2.froz (B e.1 e.2.1 TH.mt (fun u _ => u.weak.same e.2.2)))
def allW (B : CallsB) : List (Nat × List AV × AV) → Bool
 | [] => true
 | e :: r => and (entryW B e) (allW B r)
theorem memL_consW {C : Ctx} (hGT : GTok C) {B : CallsB} (hB : SoundB (ACall C) B) {e : Nat × List AV × AV} {L : List (Nat × List AV × AV)} (h : entryW B e = true) (hL : MemoOK (ACall C) (memL L)) : MemoOK (ACall C) (memL (e :: L)) := by
 obtain ⟨k0, a0, v0⟩ := e
 simp only [entryW, Bool.and_eq_true] at h
 obtain ⟨h1, h2, h3⟩ := h
 intro k args v hm H Q hQ
 unfold memL at hm
 dsimp only at hm
 cases hb : Nat.beq k0 k with
 | false => rw [hb] at hm; exact hL k args v hm H Q hQ
 | true =>
  rw [hb] at hm
  obtain rfl := Nat.eq_of_beq_eq_true hb
  cases hs : AV.sames a0 args with
  | false => rw [hs] at hm; exact hL k0 args v hm H Q hQ
  | true =>
   rw [hs] at hm
   simp only [cond_true, Option.some.injEq] at hm
   subst hm
   obtain rfl := AV.sames_sound _ _ hs
   exact run_anyW hGT hB h1 h2 h3 H Q hQ
theorem memL_appW {C : Ctx} (hGT : GTok C) {B : CallsB} (hB : SoundB (ACall C) B) {L : List (Nat × List AV × AV)} (hL : MemoOK (ACall C) (memL L)) : ∀ {N : List (Nat × List AV × AV)}, allW B N = true → MemoOK (ACall C) (memL (N ++ L))
 | [], _ => hL
 | e :: N, h => by
  simp only [allW, Bool.and_eq_true] at h
  exact memL_consW hGT hB h.1 (memL_appW hGT hB hL h.2)
end
end Rb

namespace Rb
open Go
def tenTab : List Int := [1, 10, 100, 1000, 10000, 100000, 1000000, 10000000, 100000000, 1000000000, 10000000000, 100000000000, 1000000000000, 10000000000000, 100000000000000, 1000000000000000, 10000000000000000, 100000000000000000, 1000000000000000000, 10000000000000000000]
def pow10tab : List AV := tenTab.map (AV.int .u64)
end Rb

set_option linter.unusedVariables false
namespace Go.Proofs.YtbkkoplgicffgaaGreatDoor.rb
open Rb
noncomputable def gt (g : Nat) : Option (List AV) := if g = 0 then some asciiSpace else if g = 4 then some pow10tab else if g = 9 then some deBruijn64tab else if g = 2 then some [.iface 222 (.fptr [])] else if g = 3 then some [.iface 222 (.fptr [])] else none
noncomputable def C : Ctx := idC Tryz.prog gt
noncomputable def hs0 : List Hint := [
  ⟨3,[3,4,7,8,12,14],[],none,[],[]⟩,
  ⟨4,[5,6],[],none,[],[]⟩,
  ⟨5,[11,52],[[12],[14]],none,[],[(14,[13])]⟩,
  ⟨6,[2,3,5,6,7],[[],[]],none,[],[]⟩,
  ⟨7,[5],[],none,[],[]⟩,
  ⟨8,[6,10,11,13],[[17],[37]],none,[],[]⟩,
  ⟨9,[3],[[4,5,6]],none,[],[]⟩,
  ⟨10,[],[],none,[],[]⟩,
  ⟨11,[],[[1,5],[1,6]],none,[],[]⟩,
  ⟨12,[6,7,9],[],none,[],[]⟩,
  ⟨13,[],[],none,[],[]⟩,
  ⟨14,[],[[3,4],[3,5]],none,[],[]⟩,
  ⟨15,[2,3,5,6,7],[],none,[],[]⟩,
  ⟨16,[7,8],[[5],[6]],none,[],[]⟩,
  ⟨17,[],[[3,4]],none,[],[]⟩,
  ⟨18,[3,5,37],[],none,[],[]⟩,
  ⟨19,[],[],none,[],[]⟩,
  ⟨20,[],[],none,[],[]⟩,
  ⟨21,[4,5,7],[[]],none,[],[]⟩,
  ⟨22,[],[],none,[],[]⟩,
  ⟨23,[],[[5]],none,[],[]⟩,
  ⟨24,[2],[],none,[],[]⟩,
  ⟨25,[6,7,9],[],none,[],[]⟩,
  ⟨26,[],[[8]],none,[],[]⟩,
  ⟨27,[],[],none,[],[]⟩,
  ⟨28,[],[],none,[],[]⟩,
  ⟨30,[],[[6],[6]],none,[],[]⟩,
  ⟨31,[8,9],[[17]],none,[],[]⟩,
  ⟨32,[],[],none,[],[]⟩,
  ⟨33,[],[],none,[],[]⟩,
  ⟨34,[],[[17]],none,[],[]⟩,
  ⟨35,[],[],none,[],[]⟩,
  ⟨36,[8,9],[[17]],none,[],[]⟩,
  ⟨37,[],[],none,[],[]⟩,
  ⟨38,[5],[],none,[],[]⟩,
  ⟨39,[],[[5,6],[5,8]],none,[],[]⟩,
  ⟨40,[4],[[3],[5]],none,[],[]⟩,
  ⟨41,[],[[4]],none,[],[]⟩,
  ⟨42,[3,11],[[]],none,[],[]⟩,
  ⟨43,[],[],none,[],[]⟩]
theorem ok0 : chkH C hs0 = true := by kernel_rfl
noncomputable def hs1 : List Hint := [
  ⟨44,[],[],none,[],[]⟩,
  ⟨45,[],[],none,[],[]⟩,
  ⟨46,[],[],none,[],[]⟩,
  ⟨47,[],[],none,[],[]⟩,
  ⟨48,[],[],none,[],[]⟩,
  ⟨49,[],[],none,[],[]⟩,
  ⟨50,[2],[[11],[17]],none,[],[]⟩,
  ⟨51,[],[],none,[],[]⟩,
  ⟨52,[],[],none,[],[]⟩,
  ⟨53,[4,5],[],none,[],[]⟩,
  ⟨54,[4,5],[],none,[],[]⟩,
  ⟨55,[5],[[54]],none,[],[]⟩,
  ⟨56,[],[],none,[],[]⟩,
  ⟨59,[],[],none,[],[]⟩,
  ⟨60,[],[],none,[],[]⟩,
  ⟨61,[],[],none,[],[]⟩,
  ⟨62,[5],[[8]],none,[],[]⟩,
  ⟨63,[],[],none,[],[]⟩,
  ⟨64,[5],[[8]],none,[],[]⟩,
  ⟨65,[],[],none,[],[]⟩,
  ⟨66,[],[[4]],none,[],[]⟩,
  ⟨67,[],[],none,[],[]⟩,
  ⟨68,[8,9],[[17]],none,[],[]⟩,
  ⟨69,[8,9],[[17]],none,[],[]⟩,
  ⟨70,[],[],none,[],[]⟩,
  ⟨71,[],[],none,[],[]⟩,
  ⟨72,[8,9],[[17]],none,[],[]⟩,
  ⟨73,[],[[0]],none,[],[]⟩,
  ⟨74,[2],[[4]],none,[],[]⟩,
  ⟨75,[],[[0]],none,[],[]⟩,
  ⟨76,[],[[0]],none,[],[]⟩,
  ⟨77,[],[[5]],none,[],[]⟩,
  ⟨78,[],[[3]],none,[],[]⟩,
  ⟨79,[],[],none,[],[]⟩,
  ⟨80,[],[],none,[],[]⟩,
  ⟨81,[],[],none,[],[]⟩,
  ⟨82,[41],[[3,4,5,6],[12],[10,11,12],[12]],some 9,[],[]⟩,
  ⟨83,[],[],none,[],[]⟩,
  ⟨84,[],[],none,[],[]⟩,
  ⟨85,[],[],none,[],[]⟩]
theorem ok1 : chkH C hs1 = true := by kernel_rfl
noncomputable def hs2 : List Hint := [
  ⟨86,[4,5],[[]],none,[],[]⟩,
  ⟨87,[],[[6]],none,[],[]⟩,
  ⟨88,[4],[],none,[],[]⟩,
  ⟨89,[4,6],[],none,[],[]⟩,
  ⟨90,[],[],none,[],[]⟩,
  ⟨91,[5],[[14]],none,[],[]⟩,
  ⟨92,[],[],none,[],[]⟩,
  ⟨93,[5],[[8]],none,[],[]⟩,
  ⟨95,[],[],none,[],[]⟩,
  ⟨96,[5],[[8]],none,[],[]⟩,
  ⟨97,[8,9],[[17]],none,[],[]⟩,
  ⟨98,[],[],none,[],[]⟩,
  ⟨99,[],[],none,[],[]⟩,
  ⟨100,[],[[5]],none,[],[]⟩,
  ⟨101,[],[],none,[],[]⟩,
  ⟨102,[],[],none,[],[]⟩,
  ⟨103,[],[],none,[],[]⟩,
  ⟨104,[],[],none,[],[]⟩,
  ⟨105,[],[],none,[],[]⟩,
  ⟨106,[],[[6]],none,[],[]⟩,
  ⟨107,[],[[8]],none,[],[]⟩,
  ⟨108,[11,12,46],[[5,6],[49]],none,[],[]⟩,
  ⟨109,[],[],none,[],[]⟩,
  ⟨110,[],[[12,13,101]],none,[],[]⟩,
  ⟨111,[],[],none,[],[]⟩,
  ⟨112,[4,5,7],[],none,[],[]⟩,
  ⟨113,[8,9],[[22]],none,[],[]⟩,
  ⟨114,[5],[],none,[],[]⟩,
  ⟨116,[],[],none,[],[]⟩,
  ⟨117,[],[],none,[],[]⟩,
  ⟨118,[],[],none,[],[]⟩,
  ⟨120,[],[[5]],none,[],[]⟩,
  ⟨121,[],[],none,[],[]⟩,
  ⟨122,[],[],none,[],[]⟩,
  ⟨123,[],[],none,[],[]⟩,
  ⟨124,[],[],none,[],[]⟩,
  ⟨125,[],[],none,[],[]⟩,
  ⟨126,[],[],none,[],[]⟩,
  ⟨127,[],[[3,4]],none,[],[]⟩,
  ⟨130,[15],[],none,[],[]⟩]
theorem ok2 : chkH C hs2 = true := by kernel_rfl
noncomputable def hs3 : List Hint := [
  ⟨131,[15],[],none,[],[]⟩,
  ⟨132,[],[[6]],none,[],[]⟩,
  ⟨133,[],[],none,[],[]⟩,
  ⟨134,[],[],none,[],[]⟩,
  ⟨135,[],[[1,4]],none,[],[]⟩,
  ⟨136,[12],[[1,13],[1,13]],none,[],[]⟩,
  ⟨137,[5],[],none,[],[]⟩,
  ⟨138,[9],[],none,[],[]⟩,
  ⟨142,[],[],none,[],[]⟩,
  ⟨143,[],[],none,[],[]⟩,
  ⟨144,[],[[20],[7,8]],none,[],[]⟩,
  ⟨145,[10],[[16],[7,8]],none,[],[]⟩,
  ⟨146,[9],[],none,[],[]⟩,
  ⟨147,[5],[],none,[],[]⟩,
  ⟨148,[],[],none,[],[]⟩,
  ⟨149,[],[],none,[],[]⟩,
  ⟨150,[],[],none,[],[]⟩,
  ⟨151,[],[],none,[],[]⟩,
  ⟨152,[],[],none,[],[]⟩,
  ⟨154,[],[],none,[],[]⟩,
  ⟨155,[],[],none,[],[]⟩]
theorem ok3 : chkH C hs3 = true := by kernel_rfl
noncomputable def hs : List Hint := hs0 ++ (hs1 ++ (hs2 ++ (hs3)))
theorem okAll : chkH C hs = true := chkH_app ok0 (chkH_app ok1 (chkH_app ok2 (ok3)))
end Go.Proofs.YtbkkoplgicffgaaGreatDoor.rb

set_option linter.unusedVariables false
namespace Go.Proofs.YtbkkoplgicffgaaGreatDoor.rb
open Rb
theorem gtok : ∀ g l, gt g = some l → AV.frozs l = true := by
 intro g l h
 unfold gt at h
 split at h
 · cases h; kernel_rfl
 split at h
 · cases h; kernel_rfl
 split at h
 · cases h; kernel_rfl
 split at h
 · cases h; kernel_rfl
 split at h
 · cases h; kernel_rfl
 cases h
theorem gtC : GTok C := gtok
noncomputable def fn : Nat → Option FnC := tabH C 4096 hs
theorem dispOK : DispOK (ACall C) (dispI fn) := dispI_ok okAll 4096
end Go.Proofs.YtbkkoplgicffgaaGreatDoor.rb

set_option linter.unusedVariables false
namespace Go.Proofs.YtbkkoplgicffgaaGreatDoor.rb
open Rb Go.RowKit
set_option maxRecDepth 100000 in
theorem indexByte_calls (s : ByteArray) (c : Int) (w : World) : Calls Tryz.prog 143 #[.string s, .int .u8 c] w fun e w' => e = .returned (.int .i64 (Go.Lib.indexByte s.data.toList c.toNat.toUInt8)) ∧ w' = w := by
 go_enter Tryz.func143, Tryz.ntmps143
 go_wp2
 rw [run_callFunc_extern Tryz.func153 (by kernel_rfl) (by kernel_rfl) (by kernel_rfl) (e := Extern.BytealgIndexByte.indexByte) (by kernel_rfl), Go.Lib.run_indexByteString]
 simp only [Result.andThen]
 rw [Oper.upon_value]
 go_wp2
 go_ret
 exact ⟨rfl, rfl⟩
theorem indexByte (s : List UInt8) (c : Int) (H : AH) (Q : Post) (hQ : Q (.int .i64 (Go.Lib.indexByte s c.toNat.toUInt8)) H) : ACall C 143 [.str s, .int .u8 c] H Q := by
 refine ⟨⟨_, _, hQ⟩, fun f hf G w Vs hG hrel hargs => ?_⟩
 obtain rfl : f = 143 := by
  have : C.F 143 = some 143 := by kernel_rfl
  rw [this] at hf; exact (Option.some.inj hf).symm
 obtain ⟨hl, hv⟩ := hargs
 obtain ⟨Vl⟩ := Vs
 match Vl, hl with
 | [V0, V1], _ =>
  have h0 := (hv 0 _ V0 rfl rfl).str_inv
  have h1 := (hv 1 _ V1 rfl rfl).int_inv
  subst h0 h1
  refine (indexByte_calls ⟨s.toArray⟩ c w).mono fun e w' ⟨he, hw⟩ => ?_
  subst hw
  exact ⟨_, _, H, G, he, hQ, .int _ _, hrel, Step.refl _ _ _⟩
noncomputable def MxG (L : List (Nat × List AV × AV)) : Memo := fun k a => cond (Nat.beq k 143) (match a with | [.str s, .int .u8 c] => some (.int .i64 (Go.Lib.indexByte s c.toNat.toUInt8)) | _ => none) (memG L k a)
theorem MxG_ok {L : List (Nat × List AV × AV)} (hL : MemoOK (ACall C) (memL L)) : MemoOK (ACall C) (MxG L) := by
 intro k a v h H Q hQ
 unfold MxG at h
 cases hb : Nat.beq k 143 with
 | false => rw [hb] at h; exact memG_ok hL k a v h H Q hQ
 | true =>
  rw [hb] at h
  obtain rfl := Nat.eq_of_beq_eq_true hb
  simp only [cond_true] at h
  split at h
  · cases h; exact indexByte _ _ H Q hQ
  · cases h
noncomputable def runG (L : List (Nat × List AV × AV)) : CallsB := runM (MxG L) (dispI fn) 100
theorem runG_ok {L : List (Nat × List AV × AV)} (hL : MemoOK (ACall C) (memL L)) : SoundB (ACall C) (runG L) := runM_sound (MxG_ok hL) dispOK 100
end Go.Proofs.YtbkkoplgicffgaaGreatDoor.rb

set_option linter.unusedVariables false
set_option linter.unusedSimpArgs false
namespace Go.Proofs.YtbkkoplgicffgaaGreatDoor.rb
open Rb Go.RowKit
theorem lies79 : liesAt Tryz.prog Tryz.prog.depth 79 (2 / Tryz.prog.cellsOf 79) 0 77 1 = true := by kernel_rfl
theorem sizeB : (Tryz.prog.info? 77).map (·.size) = some 2 := by kernel_rfl
theorem infoU : (Tryz.prog.info? 5).map (fun i => (i.zero, i.size, i.bytes)) = some (some (.int .u8 0), 1, 1) := by kernel_rfl
theorem cellsU1 : Tryz.prog.cellsOf 5 = 1 := by kernel_rfl
set_option maxRecDepth 100000 in
theorem copyCheck_used (b : Nat) (w : World) (h0 : w.cell? ⟨b, 0, none⟩ = some (.pointer (some ⟨b, 0, none⟩))) :
  Calls Tryz.prog 94 #[.pointer (some ⟨b, 0, none⟩)] w fun e w' => e = .returned (.tuple #[]) ∧ w' = w := by
 obtain ⟨j, hj, _⟩ := Option.map_eq_some_iff.1 sizeB
 go_enter Tryz.func94, Tryz.ntmps94
 go_wp2
 rw [Lib.run_neq_ptr_same w _ Tryz.underlying74 hj]
 go_wp2
 go_end0
 exact ⟨rfl, rfl⟩
set_option maxRecDepth 100000 in
theorem copyCheck_fresh (b : Nat) (w : World) (h0 : w.cell? ⟨b, 0, none⟩ = some (.pointer none)) (hsh : w.shape? b = some (79, 2)) (hfz : w.frozen? ⟨b, 0, none⟩ = false) :
  Calls Tryz.prog 94 #[.pointer (some ⟨b, 0, none⟩)] w fun e w' => e = .returned (.tuple #[]) ∧ w' = w.setCell ⟨b, 0, none⟩ (.pointer (some ⟨b, 0, none⟩)) := by
 obtain ⟨j, hj, hjs⟩ := Option.map_eq_some_iff.1 sizeB
 go_enter Tryz.func94, Tryz.ntmps94
 go_wp2
 rw [Lib.run_to_unsafe w ⟨b, 0, none⟩ Tryz.underlying74 Tryz.underlying171 hj (by rw [hjs]; decide) hsh (Nat.zero_lt_succ 1)]
 simp only [Result.andThen]
 rw [Oper.upon_value]
 go_wp2
 rw [run_callFunc_extern Tryz.func115 (by kernel_rfl) (by kernel_rfl) (by kernel_rfl) (e := Extern.AbiNoEscape.same) (by kernel_rfl)]
 rw [Lib.run_noEscape]
 simp only [Result.andThen]
 rw [Oper.upon_value]
 go_wp2
 rw [Lib.run_from_unsafe w ⟨b, 0, none⟩ Tryz.underlying171 Tryz.underlying74 hj hsh lies79]
 simp only [Result.andThen]
 rw [Oper.upon_value]
 go_wp2
 go_end0
 exact ⟨rfl, rfl⟩
theorem copyCheck_calls (b : Nat) (p v : Value) (w : World) (hp : p = .pointer none ∨ p = .pointer (some ⟨b, 0, none⟩)) (hb : w.heap[b]? = some (.cells #[p, v] 79 (0, 0))) :
  Calls Tryz.prog 94 #[.pointer (some ⟨b, 0, none⟩)] w fun e w' => e = .returned (.tuple #[]) ∧ w'.heap[b]? = some (.cells #[.pointer (some ⟨b, 0, none⟩), v] 79 (0, 0)) ∧ w'.os = w.os ∧ w'.tape = w.tape ∧ w'.output = w.output ∧ w'.heap.size = w.heap.size ∧ ∀ k, k ≠ b → w'.heap[k]? = w.heap[k]? := by
 rcases hp with rfl | rfl
 · refine (copyCheck_fresh b w (by rw [Lib.cell_of_heap hb]; rfl) (by simp [World.shape?, hb]) (Lib.frozen_of_heap hb 0)).mono fun e w' ⟨he, hw⟩ => ?_
   subst hw
   refine ⟨he, by simp [World.setCell, Array.getElem?_modify, hb], rfl, rfl, rfl, by simp [World.setCell], fun k hk => Below.heap_setCell _ _ _ _ (fun e => hk e)⟩
 · refine (copyCheck_used b w (by rw [Lib.cell_of_heap hb]; rfl)).mono fun e w' ⟨he, hw⟩ => ?_
   subst hw
   exact ⟨he, hb, rfl, rfl, rfl, rfl, fun _ _ => rfl⟩
set_option maxHeartbeats 2000000 in
set_option maxRecDepth 100000 in
theorem writeString_calls (b : Nat) (p v : Value) (bs : List Value) (s : ByteArray) (w : World) (hp : p = .pointer none ∨ p = .pointer (some ⟨b, 0, none⟩)) (hb : w.heap[b]? = some (.cells #[p, v] 79 (0, 0))) (hown : w.ownsRowF 0 5 1 v bs.length bs) (hne : v.ownBlock ≠ some b)
  (h47 : s.size ≤ 140737488351232) (hn : bs.length ≤ 8796093022208 ∨ s.size ≤ 8796093022208 ∧ bs.length ≤ 149533581377536) :
  Calls Tryz.prog 58 #[.pointer (some ⟨b, 0, none⟩), .string s] w fun e w' => e = .returned (.tuple #[.int .i64 s.size, .nilIface]) ∧
   w.heap.size ≤ w'.heap.size ∧ w'.os = w.os ∧ w'.tape = w.tape ∧ w'.output = w.output ∧
   (∃ v', w'.heap[b]? = some (.cells #[.pointer (some ⟨b, 0, none⟩), v'] 79 (0, 0)) ∧ w'.ownsRowF 0 5 1 v' (bs.length + s.size) (bs ++ Lib.strCells s) ∧ (∀ g, v'.ownBlock = some g → v.ownBlock = some g ∨ w.heap.size ≤ g) ∧ (v.ownBlock = none → s.size = 0 → v'.ownBlock = none)) ∧
   ∀ k, k < w.heap.size → k ≠ b → v.ownBlock ≠ some k → w'.heap[k]? = w.heap[k]? := by
 obtain ⟨i0, hi, hz0, hz1, hz2⟩ := info_parts infoU
 go_enter Tryz.func58, Tryz.ntmps58
 go_wp2_with (refine (copyCheck_calls b p v _ hp hb).mono ?_)
 rintro e w1 ⟨rfl, hbk, ho1, ht1, hu1, hs1, hk1⟩
 have hown1 : w1.ownsRowF 0 5 1 v bs.length bs := by
  refine ⟨hown.1, ?_⟩
  rcases hown.2 with h | ⟨g, cap, cur, fz, hv, h1, h2, h3⟩
  · exact .inl h
  · refine .inr ⟨g, cap, cur, fz, hv, h1, ?_, h3⟩
    rw [hk1 g (fun e => hne (by rw [hv, e]; rfl))]; exact h2
 have c0 : w1.cell? ⟨b, 0, none⟩ = some (.pointer (some ⟨b, 0, none⟩)) := by rw [Lib.cell_of_heap hbk]; rfl
 have c1 : w1.cell? ⟨b, 1, none⟩ = some v := by rw [Lib.cell_of_heap hbk]; rfl
 go_wp2_with (at_builtin; refine Rb.wpList_append_strO _ rfl _ _ 75 9 rfl 5 i0 Tryz.underlying75 Tryz.underlying9 hi hz0 hz1 hz2 _ _ _ rfl hown1 s rfl h47 hn ?_)
 intro v' w2 hown' hgrow hfrom hnil
 have hlt : b < w1.heap.size := (Array.getElem?_eq_some_iff.1 hbk).1
 have hb2 : w2.heap[b]? = some (.cells #[.pointer (some ⟨b, 0, none⟩), v] 79 (0, 0)) := by
  rw [hgrow.block b hlt (fun e => hne e.symm)]
  exact hbk
 have d0 : w2.cell? ⟨b, 0, none⟩ = some (.pointer (some ⟨b, 0, none⟩)) := by rw [Lib.cell_of_heap hb2]; rfl
 have d1 : w2.cell? ⟨b, 1, none⟩ = some v := by rw [Lib.cell_of_heap hb2]; rfl
 have f1 : w2.frozen? ⟨b, 1, none⟩ = false := Lib.frozen_of_heap hb2 1
 have hne' : v'.ownBlock ≠ some b := by
  intro e
  rcases hfrom b e with h | h
  · exact hne h
  · omega
 obtain ⟨ao, n', cap, rfl⟩ : ∃ ao n' cap, v' = .slice ao n' cap := by
  rcases hown'.2 with ⟨hv, _⟩ | ⟨g, cap, cur, fz, hv, _⟩
  · exact ⟨_, _, _, hv⟩
  · exact ⟨_, _, _, hv⟩
 go_wp2
 go_ret2
 refine ⟨rfl, ?_, ?_, ?_, ?_, ⟨_, ?_, ?_, fun g hg => by have := hfrom g hg; first | exact this | (rw [hs1] at this; exact this), fun h1 h2 => hnil h1 (by first | exact h2 | (apply ByteArray.ext; exact Array.eq_empty_of_size_eq_zero h2))⟩, fun k hk hkb hko => ?_⟩
 · have := hgrow.size; simp only [World.setCell, Array.size_modify]; omega
 · exact hgrow.os.trans ho1
 · exact hgrow.tape.trans ht1
 · exact hgrow.output.trans hu1
 · simp [World.setCell, Array.getElem?_modify, hb2]
 · refine hown'.kept (row := some b) ⟨rfl, rfl, rfl, by simp [World.setCell], fun k _ hk => Below.heap_setCell _ _ _ _ (fun e => hk (by simp [e]))⟩ (Or.inr hne')
 · rw [Below.heap_setCell _ _ _ _ (fun e => hkb e), hgrow.block k (by omega) (fun e => hko e.symm), hk1 k hkb]
set_option maxRecDepth 100000 in
theorem len_calls (b : Nat) (p v : Value) (bs : List Value) (w : World) (hb : w.heap[b]? = some (.cells #[p, v] 79 (0, 0))) (hown : w.ownsRowF 0 5 1 v bs.length bs) :
  Calls Tryz.prog 57 #[.pointer (some ⟨b, 0, none⟩)] w fun e w' => e = .returned (.int .i64 bs.length) ∧ w' = w := by
 obtain ⟨ao, cap, rfl⟩ : ∃ ao cap, v = .slice ao bs.length cap := by
  rcases hown.2 with ⟨hv, h0⟩ | ⟨g, cap, cur, fz, hv, _⟩
  · exact ⟨none, 0, by rw [hv, h0]⟩
  · exact ⟨_, _, hv⟩
 have c1 : w.cell? ⟨b, 1, none⟩ = some (.slice ao bs.length cap) := by rw [Lib.cell_of_heap hb]; rfl
 go_enter Tryz.func57, Tryz.ntmps57
 go_wp2
 go_ret
 exact ⟨rfl, rfl⟩
set_option maxHeartbeats 2000000 in
set_option maxRecDepth 100000 in
theorem string_calls (b g cap : Nat) (p : Value) (l : List UInt8) (cur : Array Value) (fz : Nat × Nat) (w : World) (h0 : l ≠ []) (hb : w.heap[b]? = some (.cells #[p, .slice (some ⟨g, 0, none⟩) l.length cap] 79 (0, 0)))
  (hg : w.heap[g]? = some (.cells cur 5 fz)) (hnc : l.length ≤ cap) (hcm : cap ≤ maxLen) (hcs : cur.size = cap) (htake : cur.toList.take l.length = bytesV l) :
  Calls Tryz.prog 29 #[.pointer (some ⟨b, 0, none⟩)] w fun e w' => e = .returned (.string ⟨l.toArray⟩) ∧ w' = w.drew.freeze ⟨g, 0, none⟩ l.length := by
 have hl0 : l.length ≠ 0 := by simpa using h0
 have c1 : w.drew.cell? ⟨b, 1, none⟩ = some (.slice (some ⟨g, 0, none⟩) l.length cap) := by
  have : w.drew.heap[b]? = some (.cells #[p, .slice (some ⟨g, 0, none⟩) l.length cap] 79 (0, 0)) := hb
  rw [Lib.cell_of_heap this]; rfl
 have hSD : (Builtin.unsafeSliceData_ #[75] 123 #[.slice (some ⟨g, 0, none⟩) l.length cap]).run Tryz.prog w.drew = .ok (.pointer (some ⟨g, 0, none⟩)) w.drew :=
  Lib.run_unsafeSliceData_row _ _ _ _ _ _ (by omega)
 have hUS : (Builtin.unsafeString_ #[123, 3] 9 #[.pointer (some ⟨g, 0, none⟩), .int .i64 l.length]).run Tryz.prog w.drew = .ok (.string ⟨l.toArray⟩) (w.drew.freeze ⟨g, 0, none⟩ l.length) := by
  refine Lib.run_unsafeString_row w.drew 123 3 9 5 Tryz.underlying123 cellsU1 g cur.size (by have hg' : w.drew.heap[g]? = some (.cells cur 5 fz) := hg; simp [World.shape?, hg']) l h0 (by omega) (by unfold maxLen at hcm; omega) ?_
  intro j x hx
  have hadd : (⟨g, 0, none⟩ : Addr).add j = ⟨g, j, none⟩ := by unfold Addr.add; split <;> simp_all
  have hg' : w.drew.heap[g]? = some (.cells cur 5 fz) := hg
  rw [hadd, cell_of_row w.drew g j cur 5 fz hg']
  have hj : j < l.length := by
   rcases Nat.lt_or_ge j l.length with h | h
   · exact h
   · rw [List.getElem?_eq_none h] at hx; cases hx
  have h1 : (cur.toList.take l.length)[j]? = cur[j]? := by rw [List.getElem?_take, if_pos hj]; simp
  rw [← h1, htake]
  simp [bytesV, hx]
 go_enter Tryz.func29, Tryz.ntmps29
 go_wp2
 go_region
 all_goals (go_wp2; go_ret; exact ⟨rfl, rfl⟩)
set_option maxHeartbeats 2000000 in
set_option maxRecDepth 100000 in
theorem stringN_calls (b : Nat) (p : Value) (w : World) (hb : w.heap[b]? = some (.cells #[p, .slice none 0 0] 79 (0, 0))) :
  Calls Tryz.prog 29 #[.pointer (some ⟨b, 0, none⟩)] w fun e w' => e = .returned (.string ⟨#[]⟩) ∧ w' = w.drew := by
 have c1 : w.drew.cell? ⟨b, 1, none⟩ = some (.slice none 0 0) := by
  have : w.drew.heap[b]? = some (.cells #[p, .slice none 0 0] 79 (0, 0)) := hb
  rw [Lib.cell_of_heap this]; rfl
 have hSD : (Builtin.unsafeSliceData_ #[75] 123 #[.slice none 0 0]).run Tryz.prog w.drew = .ok (.pointer none) w.drew := rfl
 have hUS : (Builtin.unsafeString_ #[123, 3] 9 #[.pointer none, .int .i64 0]).run Tryz.prog w.drew = .ok (.string .empty) w.drew := Lib.run_unsafeString_none w.drew _ _ _ none
 go_enter Tryz.func29, Tryz.ntmps29
 go_wp2
 go_region
 all_goals (go_wp2; go_ret; exact ⟨rfl, rfl⟩)
end Go.Proofs.YtbkkoplgicffgaaGreatDoor.rb

set_option linter.unusedVariables false
set_option linter.unusedSimpArgs false
namespace Go.Proofs.YtbkkoplgicffgaaGreatDoor.rb
open Rb Go.RowKit
abbrev BAt (H : AH) (id : Nat) (bs : List UInt8) : Prop := BldAt 79 5 H id bs
theorem writeOKx {H : AH} {id : Nat} {bs : List UInt8} (hb : BAt H id bs) (s : List UInt8) (h47 : s.length ≤ 140737488351232) (hn : bs.length ≤ 8796093022208 ∨ s.length ≤ 8796093022208 ∧ bs.length ≤ 149533581377536) {Q : Post}
  (hQ : Q (.tup [.int .i64 s.length, .nilif]) (wroteX H id 79 5 (bs ++ s))) : ACall C 58 [.ptr id 0, .str s] H Q := by
 refine ⟨⟨_, _, hQ⟩, fun f hf G W Vs hG hrel hargs => ?_⟩
 obtain rfl : f = 58 := by
  have : C.F 58 = some 58 := by kernel_rfl
  rw [this] at hf; exact (Option.some.inj hf).symm
 obtain ⟨hl, hv⟩ := hargs
 obtain ⟨Vl⟩ := Vs
 match Vl, hl with
 | [V0, V1], _ =>
  have e0 := hv 0 _ V0 rfl rfl
  have e1 := (hv 1 _ V1 rfl rfl).str_inv
  subst e1
  generalize hz : AV.ptr id 0 = z at e0
  cases e0 <;> try (cases hz; done)
  cases hz
  obtain ⟨p, v, hp, hp2, hc, hown, hne, hbuf⟩ := hb.rel hrel
  have hsz : (⟨s.toArray⟩ : ByteArray).size = s.length := by show s.toArray.size = _; simp
  have hlen := bytesV_len bs
  refine (writeString_calls (G.loc id) p v (bytesV bs) ⟨s.toArray⟩ W hp hc (by rw [hlen]; exact hown) hne (by rw [hsz]; exact h47) (by rw [hsz, hlen]; exact hn)).mono fun e w' ⟨he, k1, k2, k3, k4, ⟨v', k5, k6, k7, k8⟩, k9⟩ => ?_
  have hw : Wrote W w' 79 5 (G.loc id) ((bufOf H id).map G.loc) (bs ++ s) := by
   refine ⟨k1, k2, k3, k4, ⟨v', k5, ?_, fun g hg => ?_, fun hnil => ?_⟩, fun k h1 h2 h3 => k9 k h1 h2 (by rw [hbuf]; exact h3)⟩
   · rw [hlen, hsz, strCells_bytes, ← bytesV_app] at k6
     rw [List.length_append]
     exact k6
   · rw [← hbuf]; exact k7 g hg
   · have hbs : bs = [] := (List.append_eq_nil_iff.1 hnil).1
     have hs : s = [] := (List.append_eq_nil_iff.1 hnil).2
     refine k8 ?_ (by rw [hsz, hs]; rfl)
     rw [hbuf]
     rcases hb.2 with ⟨u, h1, _⟩ | ⟨j, _, _, _, h4⟩
     · simp [bufOf, h1]
     · exact absurd hbs h4
  obtain ⟨G', r1, r2⟩ := wrote_relX hrel hb hw
  exact ⟨_, _, _, G', he, hQ, .tup _ _ rfl (fun j c V hc hV => by
    rcases j with _ | _ | j
    · simp at hc hV; subst hc hV; rw [hsz]; exact .int _ _
    · simp at hc hV; subst hc hV; exact .nilif
    · simp at hc), r1, r2⟩
theorem writeOK {H : AH} {id : Nat} {bs : List UInt8} (hb : BAt H id bs) (s : List UInt8) (h47 : s.length ≤ 140737488351232) (hn : bs.length ≤ 8796093022208 ∨ s.length ≤ 8796093022208 ∧ bs.length ≤ 149533581377536) {Q : Post}
  (hQ : ∀ H', BAt H' id (bs ++ s) → KeepB H id H' → Q (.tup [.int .i64 s.length, .nilif]) H') : ACall C 58 [.ptr id 0, .str s] H Q :=
 writeOKx hb s h47 hn (hQ _ (wroteX_bld hb _).1 (wroteX_bld hb _).2)
theorem lenOK {H : AH} {id : Nat} {bs : List UInt8} (hb : BAt H id bs) {Q : Post} (hQ : Q (.int .i64 bs.length) H) : ACall C 57 [.ptr id 0] H Q := by
 refine ⟨⟨_, _, hQ⟩, fun f hf G W Vs hG hrel hargs => ?_⟩
 obtain rfl : f = 57 := by
  have : C.F 57 = some 57 := by kernel_rfl
  rw [this] at hf; exact (Option.some.inj hf).symm
 obtain ⟨hl, hv⟩ := hargs
 obtain ⟨Vl⟩ := Vs
 match Vl, hl with
 | [V0], _ =>
  have e0 := hv 0 _ V0 rfl rfl
  generalize hz : AV.ptr id 0 = z at e0
  cases e0 <;> try (cases hz; done)
  cases hz
  obtain ⟨p, v, hp, hp2, hc, hown, hne, hbuf⟩ := hb.rel hrel
  have hlen := bytesV_len bs
  refine (len_calls (G.loc id) p v (bytesV bs) W hc (by rw [hlen]; exact hown)).mono fun e w' ⟨he, hw⟩ => ?_
  subst hw
  rw [hlen] at he
  exact ⟨_, _, H, G, he, hQ, .int _ _, hrel, Step.refl _ _ _⟩
theorem textOKx {H : AH} {id : Nat} {bs : List UInt8} (hb : BAt H id bs) {Q : Post} (hQ : Q (.str bs) (if bs = [] then H else wroteX H id 79 5 bs)) : ACall C 29 [.ptr id 0] H Q := by
 refine ⟨⟨_, _, hQ⟩, fun f hf G W Vs hG hrel hargs => ?_⟩
 obtain rfl : f = 29 := by
  have : C.F 29 = some 29 := by kernel_rfl
  rw [this] at hf; exact (Option.some.inj hf).symm
 obtain ⟨hl, hv⟩ := hargs
 obtain ⟨Vl⟩ := Vs
 match Vl, hl with
 | [V0], _ =>
  have e0 := hv 0 _ V0 rfl rfl
  generalize hz : AV.ptr id 0 = z at e0
  cases e0 <;> try (cases hz; done)
  cases hz
  obtain ⟨p, v, hp, hp2, hc, hown, hne, hbuf⟩ := hb.rel hrel
  by_cases h0 : bs = []
  · subst h0
    have hvn : v = .slice none 0 0 := by
     rcases hown.2 with ⟨h, _⟩ | ⟨g, cap, cur, fz, h, _⟩
     · exact h
     · rcases hb.2 with ⟨u, h1, _⟩ | ⟨j, _, _, _, h4⟩
       · rw [h] at hbuf; simp [bufOf, h1, Value.ownBlock] at hbuf
       · exact absurd rfl h4
    subst hvn
    refine (stringN_calls (G.loc id) p W hc).mono fun e w' ⟨he, hw⟩ => ?_
    subst hw
    have hbel : Below W.heap.size W W.drew := Below.drew (Below.refl _ _)
    rw [if_pos rfl] at hQ
    exact ⟨_, _, H, G, he, hQ, .str _, rel_below hbel hrel, step_below hbel hrel⟩
  · rw [if_neg h0] at hQ
    rcases hown.2 with ⟨_, hz⟩ | ⟨g, cap, cur, fz, hvv, hbg, hg, hfz, hnc, hcm, hcs, htake⟩
    · exact absurd (List.eq_nil_of_length_eq_zero hz) h0
    · subst hvv
      have hself := hp2 h0
      subst hself
      have hgb : g ≠ G.loc id := fun e => hne (by simp [Value.ownBlock, e])
      refine (string_calls (G.loc id) g cap _ bs cur fz W h0 hc hg hnc hcm (by omega) (by rw [Nat.mul_one] at htake; exact htake)).mono fun e w' ⟨he, hw⟩ => ?_
      have hA : Lib.BuilderAtF 79 5 0 (G.loc id) (.pointer (some ⟨G.loc id, 0, none⟩)) (bytesV bs) W.drew := ⟨Nat.zero_le _, _, hc, by rw [bytesV_len]; exact hown, hne⟩
      have hF := hA.froze (g := g) (cap := cap) (by
        have : W.drew.heap[G.loc id]? = some (.cells #[.pointer (some ⟨G.loc id, 0, none⟩), .slice (some ⟨g, 0, none⟩) bs.length cap] 79 (0, 0)) := hc
        rw [Lib.cell_of_heap this, bytesV_len]; rfl)
      rw [bytesV_len, ← hw] at hF
      obtain ⟨_, v2, hb2, hown2, hne2⟩ := hF
      have hkept : ∀ k, k ≠ g → w'.heap[k]? = W.heap[k]? := by
       intro k hk
       rw [hw]
       unfold World.freeze
       split
       · rfl
       · show (Array.modify _ _ _)[k]? = _
         rw [Array.getElem?_modify, if_neg (fun e => hk e.symm)]; rfl
      have hv2 : v2 = .slice (some ⟨g, 0, none⟩) bs.length cap := by
       rw [hkept _ hgb.symm, hc] at hb2
       simp at hb2
       exact hb2.symm
      have hWr : Wrote W w' 79 5 (G.loc id) ((bufOf H id).map G.loc) bs := by
       refine ⟨?_, ?_, ?_, ?_, ⟨v2, hb2, by rw [bytesV_len] at hown2; exact hown2, fun g' hg' => .inl ?_, fun h => absurd h h0⟩, fun k h1 h2 h3 => hkept k (fun e => h3 ?_)⟩
       · rw [hw]; unfold World.freeze; split
         · exact Nat.le_refl _
         · show W.heap.size ≤ (Array.modify _ _ _).size
           rw [Array.size_modify]; exact Nat.le_refl _
       · rw [hw]; unfold World.freeze; split <;> rfl
       · rw [hw]; unfold World.freeze; split <;> rfl
       · rw [hw]; unfold World.freeze; split <;> rfl
       · first | (rw [← hbuf, ← hg', hv2]; done) | (rw [← hbuf, ← hg', hv2]; rfl)
       · first | (rw [← hbuf, e]; done) | (rw [← hbuf, e]; rfl)
      obtain ⟨G', r1, r2⟩ := wrote_relX hrel hb hWr
      exact ⟨_, _, _, G', he, hQ, .str _, r1, r2⟩
theorem textOK {H : AH} {id : Nat} {bs : List UInt8} (hb : BAt H id bs) {Q : Post} (hQ : ∀ H', BAt H' id bs → KeepB H id H' → Q (.str bs) H') : ACall C 29 [.ptr id 0] H Q := by
 refine textOKx hb ?_
 split
 · exact hQ _ hb (KeepB.refl _ _)
 · exact hQ _ (wroteX_bld hb _).1 (wroteX_bld hb _).2
end Go.Proofs.YtbkkoplgicffgaaGreatDoor.rb

set_option linter.unusedVariables false
set_option linter.unusedSimpArgs false
namespace Rb
open Go Go.RowKit
theorem gle_more {w w' : World} {G : Ghost} (hb : Below w.heap.size w w') (b c : Nat) : GLe w G w' (G.more b c) :=
 ⟨Nat.le_succ _, fun i hi => if_neg (Nat.ne_of_lt hi), fun i hi => if_neg (Nat.ne_of_lt hi), fun _ _ hf => hf, (gle_below (G := G) hb).cell⟩
theorem obj_more {F : FTab} {w w' : World} {G : Ghost} (hb : Below w.heap.size w w') (b c : Nat) {i : Nat} {x : AObj} (h : ObjR F w G i x) (hi : x.live = true → i < G.n) : ObjR F w' (G.more b c) i x :=
 h.keep (gle_more hb b c) hi (fun hl => hb.block _ (h.lt hl)) fun _ _ hj => hj
theorem adopt {F : FTab} {w w' : World} {G : Ghost} {H : AH} (hb : Below w.heap.size w w') (h : Rel F w G H) {b : Nat} {C : Array Value} {e : TypeId} (hB : w.heap.size ≤ b) (hC : w'.heap[b]? = some (.cells C e (0, 0)))
  {cs : List AV} (hv : ∀ (j : Nat) (c : AV), cs[j]? = some c → ∃ V, C[j]? = some V ∧ VR F w' (G.more b C.size) c V) :
  Rel F w' (G.more b C.size) (H.push (.row cs)) ∧ Step w G H w' (G.more b C.size) (H.push (.row cs)) ∧ ∀ n cap sz, n ≤ cap → C.size = cap * sz → VR F w' (G.more b C.size) (.row H.n 0 n sz) (.slice (some ⟨b, 0, none⟩) n cap) := by
 have hn := h.n
 have hg := gle_more (G := G) hb b C.size
 have hloc : ∀ i, i ≠ H.n → (G.more b C.size).loc i = G.loc i := fun i hi => if_neg (show ¬ i = G.n by omega)
 have hlocn : (G.more b C.size).loc H.n = b := if_pos hn.symm
 have hcapn : (G.more b C.size).cap H.n = C.size := if_pos hn.symm
 have ho : ∀ i, i ≠ H.n → (H.push (.row cs)).o i = H.o i := fun i hi => if_neg hi
 have hnew : ∀ i, (H.o i).live = true → G.loc i ≠ b := fun i hl => Nat.ne_of_lt (Nat.lt_of_lt_of_le ((h.obj i).lt hl) hB)
 have hnf : ∀ j, ¬ G.fz b j := fun j hj => by
  obtain ⟨V, hV⟩ := h.fzc b j hj
  have := cell_lt hV
  omega
 refine ⟨⟨by show G.n + 1 = H.n + 1; omega, fun i hi' => ?_, fun i => ?_, fun i j hij h1 h2 => ?_, fun b' o hf => ?_⟩, ?_, fun n cap sz hle hsz => ?_⟩
 · have hlt : H.n + 1 ≤ i := hi'
   rw [ho i (by omega)]; exact h.over i (by omega)
 · by_cases hin : i = H.n
   · subst hin
     show ObjR F w' _ H.n (if H.n = H.n then .row cs else H.o H.n)
     rw [if_pos rfl]
     exact ⟨C, e, by rw [hlocn]; exact hC, hcapn.symm, by rw [hlocn]; exact hnf, hv⟩
   · rw [ho i hin]
     exact obj_more hb b C.size (h.obj i) fun hl => h.idlt hl
 · by_cases hi' : i = H.n <;> by_cases hj' : j = H.n
   · omega
   · rw [hi', hlocn, hloc j hj']; rw [ho j hj'] at h2; exact (hnew j h2).symm
   · rw [hj', hlocn, hloc i hi']; rw [ho i hi'] at h1; exact hnew i h1
   · rw [hloc i hi', hloc j hj']; rw [ho i hi'] at h1; rw [ho j hj'] at h2; exact h.dist i j hij h1 h2
 · obtain ⟨V, hV⟩ := h.fzc b' o hf
   exact ⟨V, by rw [hb.cell (p := ⟨b', o, none⟩) (cell_lt hV)]; exact hV⟩
 · refine { hg with size := hb.size, os := hb.os, tape := hb.tape, output := hb.output, old := fun k hk _ => hb.block k hk, owned := fun i hl hlt => ?_, fznew := fun _ _ hf => .inl hf }
   by_cases hin : i = H.n
   · rw [hin, hlocn] at hlt; omega
   · rw [ho i hin] at hl
     exact ⟨i, hl, (hloc i hin).symm⟩
 · have := VR.row (F := F) (w := w') (G := G.more b C.size) H.n 0 n sz cap (by show H.n < G.n + 1; omega) hle (by rw [hcapn, hsz]; omega)
   rw [hlocn] at this
   exact this
end Rb

set_option linter.unusedVariables false
set_option linter.unusedSimpArgs false
namespace Rb
open Go Go.RowKit
theorem adoptF {F : FTab} {w w' : World} {G : Ghost} {H : AH} (hb : Below w.heap.size w w') (h : Rel F w G H) {b : Nat} {C : Array Value} {e : TypeId} (hB : w.heap.size ≤ b) (hC : w'.heap[b]? = some (.cells C e (0, 0)))
  {cs : List AV} (hv : ∀ (j : Nat) (c : AV), cs[j]? = some c → ∃ V, C[j]? = some V ∧ VR F w' G c V) :
  ∃ G', Rel F w' G' H ∧ Step w G H w' G' H ∧ ∀ n cap, n ≤ cap → VR F w' G' (.lst .dead n cs) (.slice (some ⟨b, 0, none⟩) n cap) := by
 let G2 : Ghost := { G with fz := fun b' o => G.fz b' o ∨ (b' = b ∧ o < C.size) }
 have hcell : ∀ b o V, G.fz b o → w.cell? ⟨b, o, none⟩ = some V → w'.cell? ⟨b, o, none⟩ = some V := fun b o V hf hc => by
  rw [World.cell?_of_block (w := w) (hb.block b (World.block_lt_of_cell? w _ hc))]; exact hc
 have hg : GLe w G w' G2 := ⟨Nat.le_refl _, fun _ _ => rfl, fun _ _ => rfl, fun _ _ h => .inl h, hcell⟩
 have hnew : ∀ i, (H.o i).live = true → G.loc i ≠ b := fun i hl => Nat.ne_of_lt (Nat.lt_of_lt_of_le ((h.obj i).lt hl) hB)
 have cellC : ∀ o V, C[o]? = some V → w'.cell? ⟨b, o, none⟩ = some V := fun o V hV => by
  simp [World.cell?, hC, hV]
 have hgl : GLe w' G w' G2 := ⟨Nat.le_refl _, fun _ _ => rfl, fun _ _ => rfl, fun _ _ h => .inl h, fun _ _ _ _ h => h⟩
 refine ⟨G2, ⟨h.n, h.over, fun j => (h.obj j).keep hg (fun hl => h.idlt hl) (fun hl => hb.block _ ((h.obj j).lt hl)) fun hl o hj => ?_, h.dist, fun b' o hf => ?_⟩, ?_, fun n cap hle => ?_⟩
 · rcases hj with hj | ⟨hj, _⟩
   · exact hj
   · exact absurd hj (hnew j hl)
 · rcases hf with hf | ⟨rfl, hlt⟩
   · obtain ⟨V, hV⟩ := h.fzc b' o hf
     exact ⟨V, hcell b' o V hf hV⟩
   · exact ⟨C[o], cellC o _ (Array.getElem?_eq_getElem hlt)⟩
 · exact { hg with size := hb.size, os := hb.os, tape := hb.tape, output := hb.output, old := fun k hk _ => hb.block k hk, owned := fun i hl _ => ⟨i, hl, rfl⟩, fznew := fun b' o hf => Or.elim hf (fun h => .inl h) (fun e => .inr (.inl (e.1 ▸ hB))) }
 · refine .lst _ _ _ b 0 cap (fun j => (C[j]?).getD undef) trivial hle (fun j c hj => ?_) fun j c hj => ?_
   · obtain ⟨V, hV, _⟩ := hv j c hj
     rw [Nat.zero_add]
     simp only [hV, Option.getD_some]
     exact ⟨.inr ⟨rfl, (Array.getElem?_eq_some_iff.1 hV).1⟩, cellC j V hV⟩
   · obtain ⟨V, hV, hr⟩ := hv j c hj
     simp only [hV, Option.getD_some]
     exact hr.mono hgl
end Rb

set_option linter.unusedVariables false
set_option linter.unusedSimpArgs false
namespace Rb
open Go Go.RowKit
theorem err_ptr {F : FTab} {W : World} {g : Nat} {tp : TypeId} {a : Addr} {x : Value} (hc : W.cell? ⟨g, 0, none⟩ = some (.iface tp (.pointer (some a)))) (ha : W.cell? a = some x) :
  VR F W (Ghost.mt (allFz W)) (.fptr [.iface tp (.fptr [])]) (.pointer (some ⟨g, 0, none⟩)) := by
 have hsp : a.spot = none := by
  unfold World.cell? at ha
  split at ha
  · split at ha
    · cases ha
    · rename_i hn
      cases h : a.spot with
      | none => rfl
      | some _ => rw [h] at hn; simp at hn
  · cases ha
 obtain ⟨b, o, sp⟩ := a
 simp only at hsp
 subst hsp
 refine .fptr _ g 0 (fun _ => .iface tp (.pointer (some ⟨b, o, none⟩))) (fun j c hj => ?_) fun j c hj => ?_
 · cases j with
   | zero => exact ⟨⟨_, hc⟩, hc⟩
   | succ j => simp at hj
 · cases j with
   | zero =>
    simp at hj
    subst hj
    exact .iface _ _ _ (.fptr [] b o (fun _ => x) (fun j c h => by simp at h) fun j c h => by simp at h)
   | succ j => simp at hj
end Rb

set_option linter.unusedVariables false
namespace Go.Proofs.YtbkkoplgicffgaaGreatDoor.rb
open Rb Go.ChangeShapes Go.WideShapes Go.ChangeAt Go.RowKit
theorem own : ownKnob Tryz.prog.godebug = none := by kernel_rfl
theorem laidOut : laidOutB Tryz.prog = true := by kernel_rfl
theorem cellsU : Tryz.prog.cellsOf 5 = 1 := by kernel_rfl
def laidVars : List (String × DataW Unit) := Rows.printReadsRow.laid
theorem gT0 : Tryz.prog.globalNamed "strings.asciiSpace" = some 0 := by kernel_rfl
theorem gTType0 : (Tryz.prog.globals[0]?).map (·.type) = some 165 := by kernel_rfl
theorem cellsT0 : Tryz.prog.cellsOf 165 = 256 := by kernel_rfl
theorem tab_eq0 : (Rows.laid_strings_asciiSpace : DataW Unit) = Go.Lib.tabData .u8 Go.Lib.asciiSpaceTab := by kernel_rfl
theorem tab_mem0 : (("strings.asciiSpace", Go.Lib.tabData .u8 Go.Lib.asciiSpaceTab) : String × DataW Unit) ∈ laidVars := by
 rw [← tab_eq0]; exact .tail _ (.tail _ (.tail _ (.tail _ (.tail _ (.tail _ (.tail _ (.head _)))))))
set_option maxRecDepth 100000 in
theorem tab_of0 {W : World} (h : laidMet Tryz.prog laidVars W) : Go.Lib.TabIs Tryz.prog W "strings.asciiSpace" .u8 Go.Lib.asciiSpaceTab := by
 obtain ⟨g', t', cs, fuel, p, hg', ht', hvar, hd⟩ := Go.Lib.laidMet.reads h tab_mem0
 obtain rfl := Option.some.inj (gT0.symm.trans hg')
 obtain rfl := Option.some.inj (gTType0.symm.trans ht')
 unfold Go.Lib.TabIs
 rw [hvar, ← Go.Lib.cells_of_tab Tryz.underlying165 Tryz.underlying5 cellsU cellsT0 hd]
theorem gT1 : Tryz.prog.globalNamed "internal/strconv.uint64pow10" = some 4 := by kernel_rfl
theorem gTType1 : (Tryz.prog.globals[4]?).map (·.type) = some 214 := by kernel_rfl
theorem cellsT1 : Tryz.prog.cellsOf 214 = 20 := by kernel_rfl
theorem tab_eq1 : (Rows.laid_internal_strconv_uint64pow10 : DataW Unit) = Go.Lib.tabData .u64 tenTab := by kernel_rfl
theorem tab_mem1 : (("internal/strconv.uint64pow10", Go.Lib.tabData .u64 tenTab) : String × DataW Unit) ∈ laidVars := by
 rw [← tab_eq1]; exact .tail _ (.tail _ (.head _))
set_option maxRecDepth 100000 in
theorem tab_of1 {W : World} (h : laidMet Tryz.prog laidVars W) : Go.Lib.TabIs Tryz.prog W "internal/strconv.uint64pow10" .u64 tenTab := by
 obtain ⟨g', t', cs, fuel, p, hg', ht', hvar, hd⟩ := Go.Lib.laidMet.reads h tab_mem1
 obtain rfl := Option.some.inj (gT1.symm.trans hg')
 obtain rfl := Option.some.inj (gTType1.symm.trans ht')
 unfold Go.Lib.TabIs
 rw [hvar, ← Go.Lib.cells_of_tab Tryz.underlying214 Tryz.underlying12 (by kernel_rfl) cellsT1 hd]
theorem gT2 : Tryz.prog.globalNamed "math/bits.deBruijn64tab" = some 9 := by kernel_rfl
theorem gTType2 : (Tryz.prog.globals[9]?).map (·.type) = some 227 := by kernel_rfl
theorem cellsT2 : Tryz.prog.cellsOf 227 = 64 := by kernel_rfl
theorem tab_eq2 : (Rows.laid_math_bits_deBruijn64tab : DataW Unit) = Go.Lib.tabData .u8 deB64 := by kernel_rfl
theorem tab_mem2 : (("math/bits.deBruijn64tab", Go.Lib.tabData .u8 deB64) : String × DataW Unit) ∈ laidVars := by
 rw [← tab_eq2]; exact .tail _ (.head _)
set_option maxRecDepth 100000 in
theorem tab_of2 {W : World} (h : laidMet Tryz.prog laidVars W) : Go.Lib.TabIs Tryz.prog W "math/bits.deBruijn64tab" .u8 deB64 := by
 obtain ⟨g', t', cs, fuel, p, hg', ht', hvar, hd⟩ := Go.Lib.laidMet.reads h tab_mem2
 obtain rfl := Option.some.inj (gT2.symm.trans hg')
 obtain rfl := Option.some.inj (gTType2.symm.trans ht')
 unfold Go.Lib.TabIs
 rw [hvar, ← Go.Lib.cells_of_tab Tryz.underlying227 Tryz.underlying5 cellsU cellsT2 hd]
theorem cellsE : Tryz.prog.cellsOf 224 = 1 := by kernel_rfl
theorem cellsS : Tryz.prog.cellsOf 9 = 1 := by kernel_rfl
theorem rowE (nm : String) (hn : ("*" ++ "errors.errorString" : String) = nm) (u : TypeId) (h : Tryz.prog.typeName? 3 u = some nm) : u = 222 :=
 typeName_ptr_named (nm := "errors.errorString") (by kernel_rfl) (by kernel_rfl) (by decide) u (by rw [hn]; exact h)
theorem gErrSyntax : Tryz.prog.globalNamed "strconv.ErrSyntax" = some 2 := by kernel_rfl
theorem tErrSyntax : (Tryz.prog.globals[2]?).map (·.type) = some 114 := by kernel_rfl
theorem atErrSyntax {W : World} (h : laidMet Tryz.prog laidVars W) : VR C.F W (Ghost.mt (allFz W)) (.fptr [.iface 222 (.fptr [])]) (.pointer (some ⟨2, 0, none⟩)) := by
 obtain ⟨a, s, hv, hc, -, -⟩ := laid_sentinel (show laidMet Tryz.prog (("strconv.ErrSyntax", Rows.laid_strconv_ErrSyntax) :: _) W from h.tail.tail.tail.tail.tail) gErrSyntax tErrSyntax Tryz.underlying114 (rowE _ (by decide)) Tryz.underlying222 Tryz.underlying224 rfl rfl Tryz.underlying9 cellsE cellsS
 exact err_ptr (by have h0 := World.var?_cell gErrSyntax hv 0; simpa using h0) hc
theorem szErrSyntax {W : World} (h : laidMet Tryz.prog laidVars W) : ∃ cs t fr, W.heap[(2 : Nat)]? = some (.cells cs t fr) ∧ cs.size = 1 := by
 obtain ⟨a, s, hv, hc, -, -⟩ := laid_sentinel (show laidMet Tryz.prog (("strconv.ErrSyntax", Rows.laid_strconv_ErrSyntax) :: _) W from h.tail.tail.tail.tail.tail) gErrSyntax tErrSyntax Tryz.underlying114 (rowE _ (by decide)) Tryz.underlying222 Tryz.underlying224 rfl rfl Tryz.underlying9 cellsE cellsS
 obtain ⟨cs, t, fr, h1, h2⟩ := size_of_var gErrSyntax hv
 exact ⟨cs, t, fr, h1, h2⟩
theorem gErrRange : Tryz.prog.globalNamed "strconv.ErrRange" = some 3 := by kernel_rfl
theorem tErrRange : (Tryz.prog.globals[3]?).map (·.type) = some 114 := by kernel_rfl
theorem atErrRange {W : World} (h : laidMet Tryz.prog laidVars W) : VR C.F W (Ghost.mt (allFz W)) (.fptr [.iface 222 (.fptr [])]) (.pointer (some ⟨3, 0, none⟩)) := by
 obtain ⟨a, s, hv, hc, -, -⟩ := laid_sentinel (show laidMet Tryz.prog (("strconv.ErrRange", Rows.laid_strconv_ErrRange) :: _) W from h.tail.tail.tail.tail) gErrRange tErrRange Tryz.underlying114 (rowE _ (by decide)) Tryz.underlying222 Tryz.underlying224 rfl rfl Tryz.underlying9 cellsE cellsS
 exact err_ptr (by have h0 := World.var?_cell gErrRange hv 0; simpa using h0) hc
theorem szErrRange {W : World} (h : laidMet Tryz.prog laidVars W) : ∃ cs t fr, W.heap[(3 : Nat)]? = some (.cells cs t fr) ∧ cs.size = 1 := by
 obtain ⟨a, s, hv, hc, -, -⟩ := laid_sentinel (show laidMet Tryz.prog (("strconv.ErrRange", Rows.laid_strconv_ErrRange) :: _) W from h.tail.tail.tail.tail) gErrRange tErrRange Tryz.underlying114 (rowE _ (by decide)) Tryz.underlying222 Tryz.underlying224 rfl rfl Tryz.underlying9 cellsE cellsS
 obtain ⟨cs, t, fr, h1, h2⟩ := size_of_var gErrRange hv
 exact ⟨cs, t, fr, h1, h2⟩
theorem gok0 {W : World} (h : laidMet Tryz.prog laidVars W) : GOK C W (Ghost.mt (allFz W)) := by
 intro g l hg
 change gt g = some l at hg
 unfold gt at hg
 split at hg
 · rename_i e
   subst e
   cases hg
   rw [asciiSpace_eq]
   exact fptr_of_tab fun i hi => (tab_of0 h).cell gT0 i hi
 · split at hg
   · rename_i e
     subst e
     cases hg
     rw [(show pow10tab = tenTab.map (AV.int .u64) from rfl)]
     exact fptr_of_tab fun i hi => (tab_of1 h).cell gT1 i hi
   · split at hg
     · rename_i e
       subst e
       cases hg
       rw [(show deBruijn64tab = deB64.map (AV.int .u8) from rfl)]
       exact fptr_of_tab fun i hi => (tab_of2 h).cell gT2 i hi
     · split at hg
       · rename_i e
         subst e
         cases hg
         exact atErrSyntax h
       · split at hg
         · rename_i e
           subst e
           cases hg
           exact atErrRange h
         · cases hg
theorem gok {W : World} (h : laidMet Tryz.prog laidVars W) : GOX C W (Ghost.mt (allFz W)) AH.mt := by
 refine ⟨gok0 h, fun g l hg _ => ⟨?_, fun i hi => by cases hi⟩⟩
 change gt g = some l at hg
 unfold gt at hg
 split at hg
 · rename_i e
   subst e
   cases hg
   obtain ⟨cs, t, fr, h1, h2⟩ := size_of_var gT0 (tab_of0 h)
   exact ⟨cs, t, fr, h1, h2.trans (by kernel_rfl)⟩
 · split at hg
   · rename_i e
     subst e
     cases hg
     obtain ⟨cs, t, fr, h1, h2⟩ := size_of_var gT1 (tab_of1 h)
     exact ⟨cs, t, fr, h1, h2.trans (by kernel_rfl)⟩
   · split at hg
     · rename_i e
       subst e
       cases hg
       obtain ⟨cs, t, fr, h1, h2⟩ := size_of_var gT2 (tab_of2 h)
       exact ⟨cs, t, fr, h1, h2.trans (by kernel_rfl)⟩
     · split at hg
       · rename_i e
         subst e
         cases hg
         exact szErrSyntax h
       · split at hg
         · rename_i e
           subst e
           cases hg
           exact szErrRange h
         · cases hg
noncomputable def laidWorld (os : Os) : World :=
 let N := (World.settled Tryz.prog os).heap.size
 let w0 := World.holding Tryz.prog os ⟨#[.cells #[.string ⟨#[118, 97, 108, 117, 101, 32, 111, 117, 116, 32, 111, 102, 32, 114, 97, 110, 103, 101]⟩] 224, .cells #[.string ⟨#[105, 110, 118, 97, 108, 105, 100, 32, 115, 121, 110, 116, 97, 120]⟩] 224, .cells #[.int .u16 9, .int .u16 13, .int .u16 1, .int .u16 32, .int .u16 133, .int .u16 101, .int .u16 160, .int .u16 5760, .int .u16 5600, .int .u16 8192, .int .u16 8202, .int .u16 1, .int .u16 8232, .int .u16 8233, .int .u16 1, .int .u16 8239, .int .u16 8287, .int .u16 48, .int .u16 12288, .int .u16 12288, .int .u16 1] 203, .cells #[.slice (some ⟨N + 2, 0, none⟩) 7 7, .slice none 0 0, .int .i64 2] 200], #[], []⟩
 let put (h : Array Obj) (g : Nat) (cs : Array Value) : Array Obj := h.modify g fun
  | .cells _ t frozen => .cells cs t frozen
  | o => o
 { w0 with heap := put (put (put (put (put (put (put (put (put (w0.heap) 8 #[.int .u8 0, .int .u8 1, .int .u8 28, .int .u8 2, .int .u8 29, .int .u8 14, .int .u8 24, .int .u8 3, .int .u8 30, .int .u8 22, .int .u8 20, .int .u8 15, .int .u8 25, .int .u8 17, .int .u8 4, .int .u8 8, .int .u8 31, .int .u8 27, .int .u8 13, .int .u8 23, .int .u8 21, .int .u8 19, .int .u8 16, .int .u8 7, .int .u8 26, .int .u8 12, .int .u8 18, .int .u8 6, .int .u8 11, .int .u8 5, .int .u8 10, .int .u8 9]) 9 #[.int .u8 0, .int .u8 1, .int .u8 56, .int .u8 2, .int .u8 57, .int .u8 49, .int .u8 28, .int .u8 3, .int .u8 61, .int .u8 58, .int .u8 42, .int .u8 50, .int .u8 38, .int .u8 29, .int .u8 17, .int .u8 4, .int .u8 62, .int .u8 47, .int .u8 59, .int .u8 36, .int .u8 45, .int .u8 43, .int .u8 51, .int .u8 22, .int .u8 53, .int .u8 39, .int .u8 33, .int .u8 30, .int .u8 24, .int .u8 18, .int .u8 12, .int .u8 5, .int .u8 63, .int .u8 55, .int .u8 48, .int .u8 27, .int .u8 60, .int .u8 41, .int .u8 37, .int .u8 16, .int .u8 46, .int .u8 35, .int .u8 44, .int .u8 21, .int .u8 52, .int .u8 32, .int .u8 23, .int .u8 11, .int .u8 54, .int .u8 26, .int .u8 40, .int .u8 15, .int .u8 34, .int .u8 20, .int .u8 31, .int .u8 10, .int .u8 25, .int .u8 14, .int .u8 19, .int .u8 9, .int .u8 13, .int .u8 8, .int .u8 7, .int .u8 6]) 4 #[.int .u64 1, .int .u64 10, .int .u64 100, .int .u64 1000, .int .u64 10000, .int .u64 100000, .int .u64 1000000, .int .u64 10000000, .int .u64 100000000, .int .u64 1000000000, .int .u64 10000000000, .int .u64 100000000000, .int .u64 1000000000000, .int .u64 10000000000000, .int .u64 100000000000000, .int .u64 1000000000000000, .int .u64 10000000000000000, .int .u64 100000000000000000, .int .u64 1000000000000000000, .int .u64 10000000000000000000]) 6 #[.int .u8 128, .int .u8 191, .int .u8 160, .int .u8 191, .int .u8 128, .int .u8 159, .int .u8 144, .int .u8 191, .int .u8 128, .int .u8 143, .int .u8 0, .int .u8 0, .int .u8 0, .int .u8 0, .int .u8 0, .int .u8 0, .int .u8 0, .int .u8 0, .int .u8 0, .int .u8 0, .int .u8 0, .int .u8 0, .int .u8 0, .int .u8 0, .int .u8 0, .int .u8 0, .int .u8 0, .int .u8 0, .int .u8 0, .int .u8 0, .int .u8 0, .int .u8 0]) 3 #[.iface 222 (.pointer (some ⟨N + 0, 0, none⟩))]) 2 #[.iface 222 (.pointer (some ⟨N + 1, 0, none⟩))]) 1 #[.pointer (some ⟨N + 3, 0, none⟩)]) 0 #[.int .u8 0, .int .u8 0, .int .u8 0, .int .u8 0, .int .u8 0, .int .u8 0, .int .u8 0, .int .u8 0, .int .u8 0, .int .u8 1, .int .u8 1, .int .u8 1, .int .u8 1, .int .u8 1, .int .u8 0, .int .u8 0, .int .u8 0, .int .u8 0, .int .u8 0, .int .u8 0, .int .u8 0, .int .u8 0, .int .u8 0, .int .u8 0, .int .u8 0, .int .u8 0, .int .u8 0, .int .u8 0, .int .u8 0, .int .u8 0, .int .u8 0, .int .u8 0, .int .u8 1, .int .u8 0, .int .u8 0, .int .u8 0, .int .u8 0, .int .u8 0, .int .u8 0, .int .u8 0, .int .u8 0, .int .u8 0, .int .u8 0, .int .u8 0, .int .u8 0, .int .u8 0, .int .u8 0, .int .u8 0, .int .u8 0, .int .u8 0, .int .u8 0, .int .u8 0, .int .u8 0, .int .u8 0, .int .u8 0, .int .u8 0, .int .u8 0, .int .u8 0, .int .u8 0, .int .u8 0, .int .u8 0, .int .u8 0, .int .u8 0, .int .u8 0, .int .u8 0, .int .u8 0, .int .u8 0, .int .u8 0, .int .u8 0, .int .u8 0, .int .u8 0, .int .u8 0, .int .u8 0, .int .u8 0, .int .u8 0, .int .u8 0, .int .u8 0, .int .u8 0, .int .u8 0, .int .u8 0, .int .u8 0, .int .u8 0, .int .u8 0, .int .u8 0, .int .u8 0, .int .u8 0, .int .u8 0, .int .u8 0, .int .u8 0, .int .u8 0, .int .u8 0, .int .u8 0, .int .u8 0, .int .u8 0, .int .u8 0, .int .u8 0, .int .u8 0, .int .u8 0, .int .u8 0, .int .u8 0, .int .u8 0, .int .u8 0, .int .u8 0, .int .u8 0, .int .u8 0, .int .u8 0, .int .u8 0, .int .u8 0, .int .u8 0, .int .u8 0, .int .u8 0, .int .u8 0, .int .u8 0, .int .u8 0, .int .u8 0, .int .u8 0, .int .u8 0, .int .u8 0, .int .u8 0, .int .u8 0, .int .u8 0, .int .u8 0, .int .u8 0, .int .u8 0, .int .u8 0, .int .u8 0, .int .u8 0, .int .u8 0, .int .u8 0, .int .u8 0, .int .u8 0, .int .u8 0, .int .u8 0, .int .u8 0, .int .u8 0, .int .u8 0, .int .u8 0, .int .u8 0, .int .u8 0, .int .u8 0, .int .u8 0, .int .u8 0, .int .u8 0, .int .u8 0, .int .u8 0, .int .u8 0, .int .u8 0, .int .u8 0, .int .u8 0, .int .u8 0, .int .u8 0, .int .u8 0, .int .u8 0, .int .u8 0, .int .u8 0, .int .u8 0, .int .u8 0, .int .u8 0, .int .u8 0, .int .u8 0, .int .u8 0, .int .u8 0, .int .u8 0, .int .u8 0, .int .u8 0, .int .u8 0, .int .u8 0, .int .u8 0, .int .u8 0, .int .u8 0, .int .u8 0, .int .u8 0, .int .u8 0, .int .u8 0, .int .u8 0, .int .u8 0, .int .u8 0, .int .u8 0, .int .u8 0, .int .u8 0, .int .u8 0, .int .u8 0, .int .u8 0, .int .u8 0, .int .u8 0, .int .u8 0, .int .u8 0, .int .u8 0, .int .u8 0, .int .u8 0, .int .u8 0, .int .u8 0, .int .u8 0, .int .u8 0, .int .u8 0, .int .u8 0, .int .u8 0, .int .u8 0, .int .u8 0, .int .u8 0, .int .u8 0, .int .u8 0, .int .u8 0, .int .u8 0, .int .u8 0, .int .u8 0, .int .u8 0, .int .u8 0, .int .u8 0, .int .u8 0, .int .u8 0, .int .u8 0, .int .u8 0, .int .u8 0, .int .u8 0, .int .u8 0, .int .u8 0, .int .u8 0, .int .u8 0, .int .u8 0, .int .u8 0, .int .u8 0, .int .u8 0, .int .u8 0, .int .u8 0, .int .u8 0, .int .u8 0, .int .u8 0, .int .u8 0, .int .u8 0, .int .u8 0, .int .u8 0, .int .u8 0, .int .u8 0, .int .u8 0, .int .u8 0, .int .u8 0, .int .u8 0, .int .u8 0, .int .u8 0, .int .u8 0, .int .u8 0, .int .u8 0, .int .u8 0, .int .u8 0, .int .u8 0, .int .u8 0, .int .u8 0, .int .u8 0, .int .u8 0, .int .u8 0, .int .u8 0, .int .u8 0, .int .u8 0, .int .u8 0, .int .u8 0]) 5 #[.int .u8 240, .int .u8 240, .int .u8 240, .int .u8 240, .int .u8 240, .int .u8 240, .int .u8 240, .int .u8 240, .int .u8 240, .int .u8 240, .int .u8 240, .int .u8 240, .int .u8 240, .int .u8 240, .int .u8 240, .int .u8 240, .int .u8 240, .int .u8 240, .int .u8 240, .int .u8 240, .int .u8 240, .int .u8 240, .int .u8 240, .int .u8 240, .int .u8 240, .int .u8 240, .int .u8 240, .int .u8 240, .int .u8 240, .int .u8 240, .int .u8 240, .int .u8 240, .int .u8 240, .int .u8 240, .int .u8 240, .int .u8 240, .int .u8 240, .int .u8 240, .int .u8 240, .int .u8 240, .int .u8 240, .int .u8 240, .int .u8 240, .int .u8 240, .int .u8 240, .int .u8 240, .int .u8 240, .int .u8 240, .int .u8 240, .int .u8 240, .int .u8 240, .int .u8 240, .int .u8 240, .int .u8 240, .int .u8 240, .int .u8 240, .int .u8 240, .int .u8 240, .int .u8 240, .int .u8 240, .int .u8 240, .int .u8 240, .int .u8 240, .int .u8 240, .int .u8 240, .int .u8 240, .int .u8 240, .int .u8 240, .int .u8 240, .int .u8 240, .int .u8 240, .int .u8 240, .int .u8 240, .int .u8 240, .int .u8 240, .int .u8 240, .int .u8 240, .int .u8 240, .int .u8 240, .int .u8 240, .int .u8 240, .int .u8 240, .int .u8 240, .int .u8 240, .int .u8 240, .int .u8 240, .int .u8 240, .int .u8 240, .int .u8 240, .int .u8 240, .int .u8 240, .int .u8 240, .int .u8 240, .int .u8 240, .int .u8 240, .int .u8 240, .int .u8 240, .int .u8 240, .int .u8 240, .int .u8 240, .int .u8 240, .int .u8 240, .int .u8 240, .int .u8 240, .int .u8 240, .int .u8 240, .int .u8 240, .int .u8 240, .int .u8 240, .int .u8 240, .int .u8 240, .int .u8 240, .int .u8 240, .int .u8 240, .int .u8 240, .int .u8 240, .int .u8 240, .int .u8 240, .int .u8 240, .int .u8 240, .int .u8 240, .int .u8 240, .int .u8 240, .int .u8 240, .int .u8 240, .int .u8 240, .int .u8 240, .int .u8 240, .int .u8 241, .int .u8 241, .int .u8 241, .int .u8 241, .int .u8 241, .int .u8 241, .int .u8 241, .int .u8 241, .int .u8 241, .int .u8 241, .int .u8 241, .int .u8 241, .int .u8 241, .int .u8 241, .int .u8 241, .int .u8 241, .int .u8 241, .int .u8 241, .int .u8 241, .int .u8 241, .int .u8 241, .int .u8 241, .int .u8 241, .int .u8 241, .int .u8 241, .int .u8 241, .int .u8 241, .int .u8 241, .int .u8 241, .int .u8 241, .int .u8 241, .int .u8 241, .int .u8 241, .int .u8 241, .int .u8 241, .int .u8 241, .int .u8 241, .int .u8 241, .int .u8 241, .int .u8 241, .int .u8 241, .int .u8 241, .int .u8 241, .int .u8 241, .int .u8 241, .int .u8 241, .int .u8 241, .int .u8 241, .int .u8 241, .int .u8 241, .int .u8 241, .int .u8 241, .int .u8 241, .int .u8 241, .int .u8 241, .int .u8 241, .int .u8 241, .int .u8 241, .int .u8 241, .int .u8 241, .int .u8 241, .int .u8 241, .int .u8 241, .int .u8 241, .int .u8 241, .int .u8 241, .int .u8 2, .int .u8 2, .int .u8 2, .int .u8 2, .int .u8 2, .int .u8 2, .int .u8 2, .int .u8 2, .int .u8 2, .int .u8 2, .int .u8 2, .int .u8 2, .int .u8 2, .int .u8 2, .int .u8 2, .int .u8 2, .int .u8 2, .int .u8 2, .int .u8 2, .int .u8 2, .int .u8 2, .int .u8 2, .int .u8 2, .int .u8 2, .int .u8 2, .int .u8 2, .int .u8 2, .int .u8 2, .int .u8 2, .int .u8 2, .int .u8 19, .int .u8 3, .int .u8 3, .int .u8 3, .int .u8 3, .int .u8 3, .int .u8 3, .int .u8 3, .int .u8 3, .int .u8 3, .int .u8 3, .int .u8 3, .int .u8 3, .int .u8 35, .int .u8 3, .int .u8 3, .int .u8 52, .int .u8 4, .int .u8 4, .int .u8 4, .int .u8 68, .int .u8 241, .int .u8 241, .int .u8 241, .int .u8 241, .int .u8 241, .int .u8 241, .int .u8 241, .int .u8 241, .int .u8 241, .int .u8 241, .int .u8 241] }
theorem laid_met (os : Os) (args : Array Value) : laidMet Tryz.prog laidVars ((laidWorld os).forCall (fun _ _ => 0) ⟨#[], args, []⟩).memory :=
 laidMet_of_run3 10 (by kernel_rfl) (by kernel_rfl) (by kernel_rfl)
theorem laid_shaped (os : Os) (args : Array Value) : ((laidWorld os).forCall (fun _ _ => 0) ⟨#[], args, []⟩).Shaped Tryz.prog := World.shaped_of_RefB (by kernel_rfl) (by kernel_rfl)
end Go.Proofs.YtbkkoplgicffgaaGreatDoor.rb

set_option linter.unusedVariables false
set_option linter.unusedSimpArgs false
namespace Go.Proofs.YtbkkoplgicffgaaGreatDoor.rb
open Rb Go.Shelf Go.RowKit
def laysM171_ren : Go.Shelf.Ren := ⟨fun | 171 => 95 | 243 => 116 | 246 => 137 | 283 => 133 | 284 => 134 | 285 => 135 | 286 => 136 | 129 => 149 | 317 => 148 | 318 => 150 | 319 => 151 | 320 => 152 | 337 => 154 | 338 => 155 | n => n, fun | 3 => 3 | 9 => 9 | 2 => 2 | 4 => 4 | 171 => 189 | 0 => 0 | 53 => 70 | 37 => 75 | 5 => 5 | 173 => 192 | 212 => 214 | 51 => 180 | 20 => 20 | 213 => 215 | 46 => 185 | 232 => 226 | 233 => 227 | n => n, fun | 17 => 4 | 18 => 8 | 19 => 9 | n => n⟩
theorem laysM171 : Go.Proofs.LaysM.n171 Tryz.prog laysM171_ren := {
  mixed := by kernel_rfl
  f129 := Tryz.func149.trans (congrArg some (by kernel_rfl))
  f171 := Tryz.func95.trans (congrArg some (by kernel_rfl))
  f243 := Tryz.func116.trans (congrArg some (by kernel_rfl))
  f246 := Tryz.func137.trans (congrArg some (by kernel_rfl))
  f283 := Tryz.func133.trans (congrArg some (by kernel_rfl))
  f284 := Tryz.func134.trans (congrArg some (by kernel_rfl))
  f285 := Tryz.func135.trans (congrArg some (by kernel_rfl))
  f286 := Tryz.func136.trans (congrArg some (by kernel_rfl))
  f317 := Tryz.func148.trans (congrArg some (by kernel_rfl))
  f318 := Tryz.func150.trans (congrArg some (by kernel_rfl))
  f319 := Tryz.func151.trans (congrArg some (by kernel_rfl))
  f320 := Tryz.func152.trans (congrArg some (by kernel_rfl))
  f337 := Tryz.func154.trans (congrArg some (by kernel_rfl))
  f338 := Tryz.func155.trans (congrArg some (by kernel_rfl))
  t0 := Tryz.underlying0
  a0 := Tryz.isAgg0
  z0 := Tryz.sizeOf0
  v0 := Tryz.zeroValue0
  t2 := Tryz.underlying2
  a2 := Tryz.isAgg2
  z2 := Tryz.sizeOf2
  v2 := Tryz.zeroValue2
  t3 := Tryz.underlying3
  a3 := Tryz.isAgg3
  z3 := Tryz.sizeOf3
  v3 := Tryz.zeroValue3
  t4 := Tryz.underlying4
  a4 := Tryz.isAgg4
  z4 := Tryz.sizeOf4
  v4 := Tryz.zeroValue4
  t5 := Tryz.underlying5
  a5 := Tryz.isAgg5
  z5 := Tryz.sizeOf5
  v5 := Tryz.zeroValue5
  t9 := Tryz.underlying9
  a9 := Tryz.isAgg9
  z9 := Tryz.sizeOf9
  v9 := Tryz.zeroValue9
  t20 := Tryz.underlying20
  a20 := Tryz.isAgg20
  z20 := Tryz.sizeOf20
  v20 := Tryz.zeroValue20
  t37 := Tryz.underlying75
  a37 := Tryz.isAgg75
  z37 := Tryz.sizeOf75
  v37 := Tryz.zeroValue75
  t46 := Tryz.underlying185
  a46 := Tryz.isAgg185
  z46 := Tryz.sizeOf185
  v46 := Tryz.zeroValue185
  t51 := Tryz.underlying180
  a51 := Tryz.isAgg180
  z51 := Tryz.sizeOf180
  v51 := Tryz.zeroValue180
  t53 := Tryz.underlying70
  a53 := Tryz.isAgg70
  z53 := Tryz.sizeOf70
  v53 := Tryz.zeroValue70
  t171 := Tryz.underlying189
  a171 := Tryz.isAgg189
  z171 := Tryz.sizeOf189
  v171 := Tryz.zeroValue189
  t173 := Tryz.underlying192
  a173 := Tryz.isAgg192
  z173 := Tryz.sizeOf192
  v173 := Tryz.zeroValue192
  t212 := Tryz.underlying214
  a212 := Tryz.isAgg214
  z212 := Tryz.sizeOf214
  v212 := Tryz.zeroValue214
  t213 := Tryz.underlying215
  a213 := Tryz.isAgg215
  z213 := Tryz.sizeOf215
  t232 := Tryz.underlying226
  a232 := Tryz.isAgg226
  z232 := Tryz.sizeOf226
  v232 := Tryz.zeroValue226
  t233 := Tryz.underlying227
  a233 := Tryz.isAgg227
  z233 := Tryz.sizeOf227
  v233 := Tryz.zeroValue227
  g17 := by kernel_rfl
  g18 := by kernel_rfl
  g19 := by kernel_rfl
  i0 := by kernel_rfl
  i2 := by kernel_rfl
  i3 := by kernel_rfl
  i4 := by kernel_rfl
  i5 := by kernel_rfl
  i9 := by kernel_rfl
  i20 := by kernel_rfl
  i37 := by kernel_rfl
  i46 := by kernel_rfl
  i51 := by kernel_rfl
  i53 := by kernel_rfl
  i171 := by kernel_rfl
  i173 := by kernel_rfl
  i212 := by kernel_rfl
  i232 := by kernel_rfl
  i233 := by kernel_rfl
  m17 := by kernel_rfl
  m18 := by kernel_rfl
  m19 := by kernel_rfl }
theorem ten_eq : tenTab = Go.Lib.pow10Tab := by kernel_rfl
theorem tab10 {W : World} {G : Ghost} {H : AH} (hG : GOX C W G H) : Go.Lib.TabIs Tryz.prog W "internal/strconv.uint64pow10" .u64 Go.Lib.pow10Tab := by
 obtain ⟨⟨cs, t, fr, h1, h2⟩, -⟩ := hG.2 4 pow10tab rfl (by unfold pow10tab tenTab; simp)
 have hv := hG.1 4 pow10tab rfl
 have key : ∀ j, j < tenTab.length → cs[j]? = some (.int .u64 (tenTab[j]?.getD 0)) := by
  intro j hj
  generalize hX : (Value.pointer (some ⟨4, 0, none⟩)) = X at hv
  generalize hY : AV.fptr pow10tab = Y at hv
  cases hv with
  | fptr cells b o Vs hc hv =>
   cases hX
   cases hY
   have hcj : pow10tab[j]? = some (.int .u64 (tenTab[j]?.getD 0)) := by
    unfold pow10tab
    rw [List.getElem?_map, List.getElem?_eq_getElem hj]
    rfl
   have e1 := (hc j _ hcj).2
   have e2 := hv j _ hcj
   rw [Nat.zero_add] at e1
   generalize Vs j = U at e1 e2
   cases e2
   simpa [World.cell?, h1] using e1
  | bot => cases hY
  | _ => cases hY
 unfold Go.Lib.TabIs World.var?
 rw [gT1]
 simp only [Option.bind_some, h1, Option.some.injEq]
 rw [← ten_eq]
 have hl : pow10tab.length = tenTab.length := by simp [pow10tab]
 apply Array.ext
 · simp [h2, hl]
 · intro i i1 i2
   have hi : i < tenTab.length := by simpa using i2
   have := key i hi
   rw [Array.getElem?_eq_getElem i1] at this
   rw [Option.some.inj this]
   simp [List.getElem?_eq_getElem hi]
theorem below_grow (w : World) (k : Nat) (os : Array Obj) : Below w.heap.size w (Go.Sort.grow (w.drewN k) os) :=
 ⟨rfl, rfl, rfl, by simp [Go.Sort.grow], fun i hi => by
   show (w.heap ++ os)[i]? = w.heap[i]?
   rw [Array.getElem?_append_left hi]⟩
theorem itoaOK (n : Int) (h0 : -9223372036854775808 ≤ n) (h1 : n ≤ 9223372036854775807) (H : AH) (Q : Post) (hQ : Q (.str (Go.Lib.itoa n)) H) : ACall C 95 [.int .i64 n] H Q := by
 refine ⟨⟨_, _, hQ⟩, fun f hf G W Vs hG hrel hargs => ?_⟩
 obtain rfl : f = 95 := by
  have : C.F 95 = some 95 := by kernel_rfl
  rw [this] at hf; exact (Option.some.inj hf).symm
 obtain ⟨hl, hv⟩ := hargs
 obtain ⟨Vl⟩ := Vs
 match Vl, hl with
 | [V0], _ =>
  have e0 := (hv 0 _ V0 rfl rfl).int_inv
  subst e0
  refine (Any.strconv_Itoa laysM171 n h0 h1 W (tab10 hG)).mono fun e w' ⟨he, k, os, hw⟩ => ?_
  subst hw
  have hbel := below_grow W k os
  exact ⟨_, _, H, G, he, hQ, .str _, rel_below hbel hrel, step_below hbel hrel⟩
open Go.Lib in
theorem holds_zero0 (w : World) (T : TypeId) (nd : Nat) (hs : nd ≤ 24) : Go.Sort.Holds (fun (b : UInt8) => Value.int .u8 (b.toNat : Int)) (w.alloc (.cells zeros24 T)) w.heap.size 0 (Array.replicate nd (0 : UInt8)) := fun j hj => by
 have hj' : j < nd := by simpa using hj
 refine ⟨?_, World.frozen?_alloc_new _ _ _ _⟩
 rw [World.cell?_alloc_new, zeros24_at _ (by omega), getElem!_pos _ j hj]
 simp
theorem fin_pos0 (w : World) (o : Obj) (dk : Array UInt8) (k : Nat) : ∃ os, (Go.Sort.putRow (fun (b : UInt8) => Value.int .u8 (b.toNat : Int)) (w.alloc o) w.heap.size 0 dk).drewN k = Go.Sort.grow (w.drewN k) os := by
 rw [Go.Sort.alloc_eq_grow]
 obtain ⟨os', _, e⟩ := Go.Sort.putRow_grow_new (fun (b : UInt8) => Value.int .u8 (b.toNat : Int)) w #[o] w.heap.size 0 dk (Nat.le_refl _)
 exact ⟨os', by rw [e]; rfl⟩
set_option maxHeartbeats 2000000 in
set_option maxRecDepth 100000 in
theorem formatUint_calls (u : Nat) (hu64 : u < 18446744073709551616) (w : World) (htab : Lib.TabIs Tryz.prog w "internal/strconv.uint64pow10" .u64 Lib.pow10Tab) :
  Calls Tryz.prog 114 #[.int .u64 u, .int .i64 10] w fun e w' => e = .returned (.string ⟨(Lib.decDigits u).toArray⟩) ∧ ∃ k os, w' = Go.Sort.grow (w.drewN k) os := by
 by_cases hs : u < 100
 · go_enter Tryz.func114, Tryz.ntmps114
   go_wp2_with (refine (Any.internal_strconv_small { laysM171 with } u hs _).mono ?_; rintro e w' ⟨rfl, rfl⟩)
   go_ret
   exact ⟨rfl, 0, #[], by simp [World.drewN_zero]⟩
 · have hu1 : 1 ≤ u := by omega
   have hnd20 : Lib.nDigits u ≤ 20 := by have := Lib.numDigits_eq u hu1 hu64; split at this <;> omega
   have hb3 : Lib.nDigits u ≤ 24 := by omega
   have hal : Tryz.prog.arrayLen 189 = 24 := by simp [Program.arrayLen, Tryz.underlying189]
   have hsl1 : ∀ W, (Instr.sliceAt 189 (.pointer (some ⟨w.heap.size, 0, none⟩)) none (some (.int .i64 (Lib.nDigits u : Int))) none).run Tryz.prog W = .ok (.slice (some ⟨w.heap.size, 0, none⟩) (Lib.nDigits u) 24) W := fun W => by
    rw [run_sliceAt_array_h W 189 ⟨w.heap.size, 0, none⟩ (by simp [Program.arrayLen, Program.elem, Tryz.underlying189]) .i64 (Lib.nDigits u : Int) (by omega) (by rw [hal]; omega)]
    all_goals (try (go_simp; done))
    all_goals (try (go_simp; omega))
   have hH0 := holds_zero0 w 189 (Lib.nDigits u) (by omega)
   have hfmt := Any.internal_strconv_formatBase10 { laysM171 with } w.heap.size 0 24 u (Array.replicate (Lib.nDigits u) 0) (w.alloc (.cells Lib.zeros24 189)) hH0 (by rw [Array.size_replicate]; exact Lib.lt_pow_nDigits u) hu64 (by rw [Array.size_replicate]; omega)
   rw [Array.size_replicate] at hfmt
   have HH0 := Lib.hid hH0
   clear hH0 hal
   go_enter Tryz.func114, Tryz.ntmps114
   go_wp2_with (refine (Any.internal_strconv_numDigits { laysM171 with } u hu1 hu64 _ (Lib.tabIs_alloc htab _)).mono ?_; rintro e w' ⟨rfl, rfl⟩)
   refine hfmt.mono ?_
   rintro e w' ⟨rfl, k, v', dk, rfl, hF⟩
   have hcv : (convert 75 9 (.slice (some ⟨w.heap.size, 0, none⟩) (Lib.nDigits u) 24)).run Tryz.prog ((Go.Sort.putRow (fun (b : UInt8) => Value.int .u8 (b.toNat : Int)) (w.alloc (.cells Lib.zeros24 189)) w.heap.size 0 dk).drewN k) = .ok (.string ⟨(Lib.decDigits u).toArray⟩) ((Go.Sort.putRow (fun (b : UInt8) => Value.int .u8 (b.toNat : Int)) (w.alloc (.cells Lib.zeros24 189)) w.heap.size 0 dk).drewN k) := by
    have h := run_convert_bytes_back (P := Tryz.prog) ((Go.Sort.putRow (fun (b : UInt8) => Value.int .u8 (b.toNat : Int)) (w.alloc (.cells Lib.zeros24 189)) w.heap.size 0 dk).drewN k) 75 9 5 ⟨w.heap.size, 0, none⟩ 24 (Lib.decDigits u) Tryz.underlying75 Tryz.underlying5 Tryz.underlying9 (fun j hj => by
      rw [Lib.row_is_numeral hF j hj, Lib.add_plain, World.cell?_drewN]
      exact Go.Sort.cell?_putRow (fun (b : UInt8) => Value.int .u8 (b.toNat : Int)) _ w.heap.size 0 _ dk HH0.out (by rw [hF.size, Array.size_replicate]) j (by rw [hF.size]; rw [Lib.decDigits_length] at hj; exact hj))
    rw [Lib.decDigits_length] at h
    exact h
   go_wp2
   go_ret
   obtain ⟨os, eo⟩ := fin_pos0 w (.cells Lib.zeros24 189) dk k
   exact ⟨rfl, k, os, eo⟩
theorem fmtOK (u : Nat) (hu64 : u < 18446744073709551616) (H : AH) (Q : Post) (hQ : Q (.str (Go.Lib.decDigits u)) H) : ACall C 114 [.int .u64 u, .int .i64 10] H Q := by
 refine ⟨⟨_, _, hQ⟩, fun f hf G W Vs hG hrel hargs => ?_⟩
 obtain rfl : f = 114 := by
  have : C.F 114 = some 114 := by kernel_rfl
  rw [this] at hf; exact (Option.some.inj hf).symm
 obtain ⟨hl, hv⟩ := hargs
 obtain ⟨Vl⟩ := Vs
 match Vl, hl with
 | [V0, V1], _ =>
  have e0 := (hv 0 _ V0 rfl rfl).int_inv
  have e1 := (hv 1 _ V1 rfl rfl).int_inv
  subst e0 e1
  refine (formatUint_calls u hu64 W (tab10 hG)).mono fun e w' ⟨he, k, os, hw⟩ => ?_
  subst hw
  have hbel := below_grow W k os
  exact ⟨_, _, H, G, he, hQ, .str _, rel_below hbel hrel, step_below hbel hrel⟩
end Go.Proofs.YtbkkoplgicffgaaGreatDoor.rb

set_option linter.unusedVariables false
set_option linter.unusedSimpArgs false
namespace Go.Proofs.YtbkkoplgicffgaaGreatDoor.rb
open Rb
noncomputable def goneK (T : TH) (old : Option Nat) (K : TH → Bool) : Bool := match old with
 | none => K T
 | some j => THset T j .gone K
noncomputable def wrK (T : TH) (id : Nat) (old : Option Nat) (bs : List UInt8) (K : TH → Bool) : Bool := match bs with
 | [] => goneK T old fun T => THset T id (.bld 79 true none) K
 | b :: r => goneK T old fun T1 => natV T.n fun n => natV (b :: r).length fun l => THset T1 id (.bld 79 true (some (n, l))) fun T2 => spineK (b :: r) fun bs => THpush T2 (.buf 5 bs) K
theorem wrK_ok {T : TH} {id : Nat} {old : Option Nat} {bs : List UInt8} {K : TH → Bool} (ho : bufOf T.ah id = old) (h : wrK T id old bs K = true) : ∃ T', K T' = true ∧ T'.ah = wroteX T.ah id 79 5 bs := by
 have hg : ∀ K : TH → Bool, goneK T old K = true → ∃ T1, K T1 = true ∧ T1.ah = T.ah.setO old := by
  intro K hK
  unfold goneK at hK
  cases old with
  | none => exact ⟨T, hK, rfl⟩
  | some j => simp only [THset_eq] at hK; exact ⟨_, hK, by rw [TH.ah_set]; rfl⟩
 cases bs with
 | nil =>
  unfold wrK at h
  dsimp only at h
  obtain ⟨T1, h1, h2⟩ := hg _ h
  simp only [THset_eq] at h1
  refine ⟨_, h1, ?_⟩
  rw [TH.ah_set, h2, ← ho]
  rfl
 | cons b r =>
  unfold wrK at h
  dsimp only at h
  obtain ⟨T1, h1, h2⟩ := hg _ h
  simp only [THset_eq, THpush_eq, natV_eq, spineK_eq] at h1
  refine ⟨_, h1, ?_⟩
  rw [TH.ah_push, TH.ah_set, h2, ← ho]
  rw [show wroteX T.ah id 79 5 (b :: r) = wroteH T.ah id 79 5 (b :: r) from if_neg (by simp)]
  rfl
noncomputable def bldB (T : TH) (id : Nat) : Option (List UInt8 × Option Nat) := match T.t.get id with
 | .bld t u none => cond (Nat.beq t 79) (cond (Nat.blt id T.n) (some ([], none)) none) none
 | .bld t u (some (j, l)) => match T.t.get j with
  | .buf v bs => cond (and (and (and (Nat.beq t 79) u) (and (Nat.beq v 5) (Nat.blt id T.n))) (and (Nat.blt j T.n) (and (Nat.beq l bs.length) (Nat.blt 0 bs.length)))) (some (bs, some j)) none
  | _ => none
 | _ => none
theorem bldB_ok {T : TH} {id : Nat} {bs : List UInt8} {o : Option Nat} (h : bldB T id = some (bs, o)) : BAt T.ah id bs ∧ bufOf T.ah id = o := by
 have ht : ∀ i, T.ah.o i = T.t.get i := fun _ => rfl
 unfold bldB at h
 split at h
 · rename_i t u hb
   cases hc : Nat.beq t 79 with
   | false => rw [hc] at h; cases h
   | true =>
    rw [hc] at h
    cases hd : Nat.blt id T.n with
    | false => rw [hd] at h; cases h
    | true =>
     rw [hd] at h
     cases h
     obtain rfl := Nat.eq_of_beq_eq_true hc
     have hlt : id < T.n := Nat.le_of_ble_eq_true hd
     refine ⟨⟨hlt, .inl ⟨u, ?_, rfl⟩⟩, ?_⟩
     · rw [ht]; exact hb
     · unfold bufOf; rw [ht, hb]
 · rename_i t u j l hb
   split at h
   · rename_i v bs' hv
     cases hc : (and (and (and (Nat.beq t 79) u) (and (Nat.beq v 5) (Nat.blt id T.n))) (and (Nat.blt j T.n) (and (Nat.beq l bs'.length) (Nat.blt 0 bs'.length)))) with
     | false => rw [hc] at h; cases h
     | true =>
      rw [hc] at h
      cases h
      simp only [Bool.and_eq_true] at hc
      obtain ⟨⟨⟨h1, h2⟩, h3, h4⟩, h5, h6, h7⟩ := hc
      obtain rfl := Nat.eq_of_beq_eq_true h1
      obtain rfl := Nat.eq_of_beq_eq_true h3
      obtain rfl := Nat.eq_of_beq_eq_true h6
      subst h2
      have hid : id < T.n := Nat.le_of_ble_eq_true h4
      have hj : j < T.n := Nat.le_of_ble_eq_true h5
      have h0 : 0 < bs.length := Nat.le_of_ble_eq_true h7
      refine ⟨⟨hid, .inr ⟨j, ?_, ?_, hj, ?_⟩⟩, ?_⟩
      · rw [ht]; exact hb
      · rw [ht]; exact hv
      · intro e; rw [e] at h0; simp at h0
      · unfold bufOf; rw [ht, hb]
   · cases h
 · cases h
def decF : Nat → Nat → List UInt8 → List UInt8
 | 0, _, l => l
 | n + 1, u, l => cond (Nat.blt u 10) (UInt8.ofNat (48 + u) :: l) (decF n (u / 10) (UInt8.ofNat (48 + u % 10) :: l))
theorem decF_eq : ∀ (n u : Nat) (l : List UInt8), u < 10 ^ n → 1 ≤ n → decF n u l = Go.Lib.decDigits u ++ l
 | 0, u, l, _, h => absurd h (by omega)
 | n + 1, u, l, hu, _ => by
  unfold decF
  by_cases h : u < 10
  · rw [show Nat.blt u 10 = true from Nat.ble_eq_true_of_le h, Go.Lib.decDigits, dif_pos h]
    rfl
  · have hb : Nat.blt u 10 = false := by
      cases hc : Nat.blt u 10 with
      | false => rfl
      | true => exact absurd (Nat.le_of_ble_eq_true hc) h
    have hn : 1 ≤ n := by
     rcases n with _ | n
     · simp at hu; omega
     · omega
    rw [hb, Go.Lib.decDigits, dif_neg h]
    have hu' : u / 10 < 10 ^ n := by rw [Nat.pow_succ] at hu; omega
    simp only [cond_false]
    rw [decF_eq n (u / 10) _ hu' hn, List.append_assoc]
    rfl
noncomputable def wsK (args : List AV) (T : TH) (Q : PostB) : Bool := match args with
 | [.ptr id 0, .str s] => (match bldB T id with
   | some (bs, o) => and (Nat.ble s.length 1000000) (and (Nat.ble bs.length 1000000) (wrK T id o (bs ++ s) fun T' => Q (.tup [.int .i64 s.length, .nilif]) T'))
   | none => false)
 | _ => false
noncomputable def lnK (args : List AV) (T : TH) (Q : PostB) : Bool := match args with
 | [.ptr id 0] => (match bldB T id with
   | some (bs, _) => Q (.int .i64 bs.length) T
   | none => false)
 | _ => false
noncomputable def txK (args : List AV) (T : TH) (Q : PostB) : Bool := match args with
 | [.ptr id 0] => (match bldB T id with
   | some ([], _) => Q (.str []) T
   | some (b :: r, o) => wrK T id o (b :: r) fun T' => Q (.str (b :: r)) T'
   | none => false)
 | _ => false
noncomputable def itK (args : List AV) (T : TH) (Q : PostB) : Bool := match args with
 | [.int .i64 (.ofNat n)] => and (Nat.ble n 1000000) (Q (.str (decF 8 n [])) T)
 | _ => false
noncomputable def fuK (args : List AV) (T : TH) (Q : PostB) : Bool := match args with
 | [.int .u64 (.ofNat n), .int .i64 (.ofNat m)] => and (Nat.beq m 10) (and (Nat.ble n 1000000) (Q (.str (decF 8 n [])) T))
 | _ => false
noncomputable def libK (k : Nat) (args : List AV) (T : TH) (Q : PostB) : Bool :=
 cond (Nat.beq k 58) (wsK args T Q) (cond (Nat.beq k 57) (lnK args T Q) (cond (Nat.beq k 29) (txK args T Q) (cond (Nat.beq k 95) (itK args T Q) (fuK args T Q))))
theorem libK_ok {k : Nat} {args : List AV} {T : TH} {K : PostB} (hk : (k = 58 ∨ k = 57) ∨ k = 29 ∨ k = 95 ∨ k = 114) (h : libK k args T K = true) {Q : Post} (hQ : ∀ v T', K v T' = true → Q v T'.ah) : ACall C k args T.ah Q := by
 have dec8 : ∀ n : Nat, n ≤ 1000000 → decF 8 n [] = Go.Lib.decDigits n := fun n hn => by rw [decF_eq 8 n [] (by omega) (by decide), List.append_nil]
 rcases hk with (rfl | rfl) | rfl | rfl | rfl
 · have g : wsK args T K = true := h
   clear h
   unfold wsK at g
   split at g
   · split at g
     · rename_i hb
       simp only [Bool.and_eq_true] at g
       obtain ⟨h1, h2, h3⟩ := g
       obtain ⟨b1, b2⟩ := bldB_ok hb
       have h1 := Nat.le_of_ble_eq_true h1
       have h2 := Nat.le_of_ble_eq_true h2
       obtain ⟨T', h4, h5⟩ := wrK_ok b2 h3
       refine writeOKx b1 _ (by omega) (by omega) ?_
       rw [← h5]
       exact hQ _ _ h4
     · cases g
   · cases g
 · have g : lnK args T K = true := h
   clear h
   unfold lnK at g
   split at g
   · split at g
     · rename_i hb
       exact lenOK (bldB_ok hb).1 (hQ _ _ g)
     · cases g
   · cases g
 · have g : txK args T K = true := h
   clear h
   unfold txK at g
   split at g
   · split at g
     · rename_i hb
       refine textOKx (bldB_ok hb).1 ?_
       rw [if_pos rfl]
       exact hQ _ _ g
     · rename_i hb
       obtain ⟨b1, b2⟩ := bldB_ok hb
       obtain ⟨T', h4, h5⟩ := wrK_ok b2 g
       refine textOKx b1 ?_
       rw [if_neg (by simp), ← h5]
       exact hQ _ _ h4
     · cases g
   · cases g
 · have g : itK args T K = true := h
   clear h
   unfold itK at g
   split at g
   · rename_i n
     simp only [Bool.and_eq_true] at g
     have h1 := Nat.le_of_ble_eq_true g.1
     refine itoaOK _ (by show (-9223372036854775808 : Int) ≤ (n : Int); omega) (by show (n : Int) ≤ 9223372036854775807; omega) _ _ ?_
     have e : Go.Lib.itoa (Int.ofNat n) = decF 8 n [] := by rw [dec8 n h1]; unfold Go.Lib.itoa; rw [if_neg (by simp)]; rfl
     rw [e]
     exact hQ _ _ g.2
   · cases g
 · have g : fuK args T K = true := h
   clear h
   unfold fuK at g
   split at g
   · rename_i n m
     simp only [Bool.and_eq_true] at g
     obtain ⟨h0, h1, h2⟩ := g
     obtain rfl := Nat.eq_of_beq_eq_true h0
     have h1 := Nat.le_of_ble_eq_true h1
     refine fmtOK n (by omega) _ _ ?_
     rw [← dec8 n h1]
     exact hQ _ _ h2
   · cases g
noncomputable def isLib (k : Nat) : Bool := or (or (Nat.beq k 58) (Nat.beq k 57)) (or (Nat.beq k 29) (or (Nat.beq k 95) (Nat.beq k 114)))
noncomputable def dispL (B : CallsB) : CallsB := fun k args T Q => cond (isLib k) (libK k args T Q) (dispI fn B k args T Q)
theorem dispL_ok : DispOK (ACall C) dispL := by
 intro B hB k args T K h Q hQ
 unfold dispL at h
 cases hb : isLib k with
 | true =>
  rw [hb] at h
  unfold isLib at hb
  simp only [Bool.or_eq_true] at hb
  exact libK_ok (hb.imp (fun e => e.imp Nat.eq_of_beq_eq_true Nat.eq_of_beq_eq_true) fun e => e.imp Nat.eq_of_beq_eq_true fun e => e.imp Nat.eq_of_beq_eq_true Nat.eq_of_beq_eq_true) h hQ
 | false =>
  rw [hb] at h
  exact dispOK B hB k args T K h Q hQ
noncomputable def runL (L : List (Nat × List AV × AV)) : CallsB := runM (MxG L) dispL 100
theorem runL_ok {L : List (Nat × List AV × AV)} (hL : MemoOK (ACall C) (memL L)) : SoundB (ACall C) (runL L) := runM_sound (MxG_ok hL) dispL_ok 100
end Go.Proofs.YtbkkoplgicffgaaGreatDoor.rb

set_option linter.unusedVariables false
namespace Go.Proofs.YtbkkoplgicffgaaGreatDoor.rb
open Rb
noncomputable section
def RbM100 : List (Nat × List AV × AV) := [
  (82, [.str [118,97,114,32,116,104,114,101,97,100,32,115,116,114,117,99,116,32,117,110,105,111,110,32,112,97,99,107,101,100,32,117,56,32,117,49,54,32,117,51,50,32,117,54,52,32,97,56,32,97,49,54,32,97,51,50,32,97,54,52,32,97,49,50,56,32,108,101,116,32,115,101,116,32,119,114,105,116,101,32,115,116,111,114,101,32,108,111,97,100,50,32,115,116,111,114,101,50,32,102,101,110,99,101,32,105,102,32,101,108,115,101,32,119,104,105,108,101,32,112,114,105,110,116,32,114,101,97,100,32,108,111,97,100,32,97,100,100,32,115,119,97,112,32,99,97,115,32,114,108,120,32,97,99,113,32,114,101,108,32,115,99]], .lst .dead 34 [.str [118,97,114],.str [116,104,114,101,97,100],.str [115,116,114,117,99,116],.str [117,110,105,111,110],.str [112,97,99,107,101,100],.str [117,56],.str [117,49,54],.str [117,51,50],.str [117,54,52],.str [97,56],.str [97,49,54],.str [97,51,50],.str [97,54,52],.str [97,49,50,56],.str [108,101,116],.str [115,101,116],.str [119,114,105,116,101],.str [115,116,111,114,101],.str [108,111,97,100,50],.str [115,116,111,114,101,50],.str [102,101,110,99,101],.str [105,102],.str [101,108,115,101],.str [119,104,105,108,101],.str [112,114,105,110,116],.str [114,101,97,100],.str [108,111,97,100],.str [97,100,100],.str [115,119,97,112],.str [99,97,115],.str [114,108,120],.str [97,99,113],.str [114,101,108],.str [115,99]])]
def RbM101 : List (Nat × List AV × AV) := [
  (7, [], .bool true)]
theorem RbM100_run : forced (allW (runL []) RbM100) = true := by kernel_rfl
theorem RbM100_ok : MemoOK (ACall C) (memL (RbM100 ++ [])) := memL_appW gtC (runL_ok memL_nil) memL_nil (of_forced RbM100_run)
theorem RbM101_run : forced (allW (runL (RbM100 ++ [])) RbM101) = true := by kernel_rfl
theorem RbM101_ok : MemoOK (ACall C) (memL (RbM101 ++ (RbM100 ++ []))) := memL_appW gtC (runL_ok RbM100_ok) RbM100_ok (of_forced RbM101_run)
theorem RbM10_root0 : forced (allW (runL (RbM101 ++ (RbM100 ++ []))) [(7, [], .bool true)]) = true := by kernel_rfl
theorem RbM10_rootok0 : MemoOK (ACall C) (memL [(7, [], .bool true)]) := memL_appW gtC (runL_ok RbM101_ok) memL_nil (N := [(7, [], .bool true)]) (of_forced RbM10_root0)
end
end Go.Proofs.YtbkkoplgicffgaaGreatDoor.rb

namespace Rb.K
abbrev rabbetlaw10_PrintLines : Nat := 5
abbrev parse_Prog : Nat := 6
abbrev rabbetlaw10_awake : Nat := 7
abbrev print_Prog : Nat := 8
abbrev print_Same : Nat := 10
abbrev rabbetlaw10_small : Nat := 17
abbrev parse_begin : Nat := 18
abbrev parse_parser_is : Nat := 19
abbrev parse_parser_name : Nat := 20
abbrev parse_parser_typ : Nat := 21
abbrev parse_parser_want : Nat := 22
abbrev parse_parser_block : Nat := 23
abbrev parse_parser_end : Nat := 24
abbrev print_writer_words : Nat := 26
abbrev print_writer_typ : Nat := 27
abbrev print_writer_block : Nat := 28
abbrev strings_Builder_String : Nat := 29
abbrev slices_EqualFunc___api_Var___api_Var_api_Var_api_Var_ : Nat := 31
abbrev print_Same_c1 : Nat := 32
abbrev print_sameType : Nat := 33
abbrev slices_EqualFunc_____api_Stmt_____api_Stmt___api_Stmt___api_Stmt_ : Nat := 34
abbrev print_Same_c2 : Nat := 35
abbrev slices_EqualFunc___api_Stmt___api_Stmt_api_Stmt_api_Stmt_ : Nat := 36
abbrev print_sameStmt : Nat := 37
abbrev lex_Tokens : Nat := 42
abbrev parse_parser_bad : Nat := 43
abbrev parse_parser_peek : Nat := 44
abbrev parse_parser_next : Nat := 45
abbrev parse_letters : Nat := 46
abbrev lex_Keyword : Nat := 47
abbrev parse_parser_fail : Nat := 48
abbrev parse_parser_deep : Nat := 49
abbrev parse_scalar : Nat := 50
abbrev parse_kind : Nat := 51
abbrev parse_parser_number : Nat := 52
abbrev parse_parser_field : Nat := 53
abbrev parse_parser_stmt : Nat := 54
abbrev print_writer_expr : Nat := 55
abbrev print_sameExpr : Nat := 56
abbrev strings_Builder_Len : Nat := 57
abbrev strings_Builder_WriteString : Nat := 58
abbrev print_writer_full : Nat := 59
abbrev print_number : Nat := 60
abbrev print_of : Nat := 61
abbrev print_each_api_Field_ : Nat := 62
abbrev print_writer_field : Nat := 63
abbrev print_each_api_Stmt_ : Nat := 64
abbrev print_writer_stmt : Nat := 65
abbrev slices_EqualFunc___api_Type___api_Type_api_Type_api_Type_ : Nat := 68
abbrev slices_EqualFunc___api_Field___api_Field_api_Field_api_Field_ : Nat := 69
abbrev print_sameType_c1 : Nat := 70
abbrev print_samePlace : Nat := 71
abbrev slices_EqualFunc___api_Expr___api_Expr_api_Expr_api_Expr_ : Nat := 72
abbrev lex_scanner_next : Nat := 80
abbrev slices_Contains___string_string_ : Nat := 81
abbrev strings_Fields : Nat := 82
abbrev parse_digits : Nat := 83
abbrev strconv_ParseUint : Nat := 84
abbrev parse_parser_value : Nat := 85
abbrev parse_parser_place : Nat := 86
abbrev parse_parser_order : Nat := 87
abbrev parse_parser_expr : Nat := 88
abbrev parse_parser_control : Nat := 89
abbrev strconv_FormatUint : Nat := 90
abbrev print_writer_place : Nat := 91
abbrev print_writer_order : Nat := 92
abbrev print_each_api_Expr_ : Nat := 93
abbrev strconv_Itoa : Nat := 95
abbrev print_writer_exprs : Nat := 96
abbrev slices_EqualFunc___api_Part___api_Part_api_Part_api_Part_ : Nat := 97
abbrev print_samePlace_c1 : Nat := 98
abbrev lex_letter : Nat := 102
abbrev lex_scanner_word : Nat := 103
abbrev lex_digit : Nat := 104
abbrev lex_scanner_number : Nat := 105
abbrev lex_scanner_sign : Nat := 106
abbrev slices_Index___string_string_ : Nat := 107
abbrev parse_parser_binary : Nat := 112
abbrev parse_parser_access : Nat := 113
abbrev internal_strconv_FormatUint : Nat := 114
abbrev internal_strconv_Itoa : Nat := 116
abbrev lex_scanner_run : Nat := 120
abbrev lex_part : Nat := 121
abbrev lex_scanner_take : Nat := 122
abbrev strings_HasPrefix : Nat := 123
abbrev strings_IndexByte : Nat := 124
abbrev parse_operator : Nat := 132
abbrev internal_stringslite_HasPrefix : Nat := 142
abbrev internal_stringslite_IndexByte : Nat := 143
end Rb.K
