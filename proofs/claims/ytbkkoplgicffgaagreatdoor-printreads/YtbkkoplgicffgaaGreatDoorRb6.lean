/- What any text comes to can be written, and is the same again (PrintReads), for every text. -/
import Derived.Test.YtbkkoplgicffgaaGreatDoorRb4
import Derived.Test.YtbkkoplgicffgaaGreatDoorRb5
import Derived.Test.YtbkkoplgicffgaaGreatDoorRb3
import Derived.Test.YtbkkoplgicffgaaGreatDoorRb2
set_option linter.unusedVariables false
set_option linter.unusedSimpArgs false
set_option linter.unusedSectionVars false
namespace Rb
open Go
abbrev TG (t : GType) : Prop := t.pok ∧ t.fin
abbrev EG (t : GExpr) : Prop := t.pok ∧ t.fin
abbrev SG (t : GStmt) : Prop := t.pok ∧ t.fin
theorem x64_ok (z : Int) : i64ok (x64 z) := i64w_ok z
theorem tyZ_g : TG tyZ := by
 refine ⟨?_, ?_⟩
 · unfold tyZ; rw [GType.pok]; exact ⟨by unfold i64ok; omega, Nat.zero_le _, trivial, trivial⟩
 · unfold tyZ; rw [GType.fin]; exact ⟨⟨Nat.zero_le _, Nat.zero_le _⟩, trivial, trivial⟩
theorem ty_g {kind size count : Int} {packed : Bool} {fields : List GField} {elem : List GType} (hc : i64ok count) (hfl : fields.length ≤ maxLen) (hel : elem.length ≤ maxLen) (hf : ∀ f ∈ fields, f.pok ∧ f.fin) (he : ∀ e ∈ elem, TG e) : TG ⟨kind, size, packed, fields, count, elem⟩ := by
 refine ⟨?_, ?_⟩
 · rw [GType.pok]; exact ⟨hc, hfl, GField.poks_iff.2 fun f h => (hf f h).1, GType.poks_iff.2 fun e h => (he e h).1⟩
 · rw [GType.fin]
   refine ⟨⟨hel, hfl⟩, ?_, ?_⟩
   · clear hfl hc
     induction fields with
     | nil => trivial
     | cons x r ih => exact ⟨(hf x (by simp)).2, ih fun f h => hf f (by simp [h])⟩
   · clear hel hc
     induction elem with
     | nil => trivial
     | cons x r ih => exact ⟨(he x (by simp)).2, ih fun f h => he f (by simp [h])⟩
theorem nil_len {α : Type} : ([] : List α).length ≤ maxLen := Nat.zero_le _
theorem one_len {α : Type} (a : α) : [a].length ≤ maxLen := by unfold maxLen; simp
section
variable (kw : List UInt8 → Bool) (val : List UInt8 → Int)
theorem nameT_len {s : PSt} (h : Wf s) : (s.nameT kw).length ≤ 140737488351232 := by
 have := h.hd
 unfold PSt.nameT
 split
 · omega
 · simp
theorem flds_len : ∀ (n : Nat) (d : Int) (s : PSt), (fldsM kw val n d s).1.length ≤ n
 | 0, d, s => by rw [fldsM]; exact Nat.le_refl _
 | n + 1, d, s => by
  rw [fldsM]
  split
  · exact Nat.zero_le _
  · split
    · exact Nat.zero_le _
    · have := flds_len n d (fieldM kw val (fun d s => typM kw val n d s) d s).2
      simp only [List.length_cons]; omega
theorem field_g {ty : Int → PSt → GType × PSt} (hS : ∀ d s, Sub s (ty d s).2) (h : ∀ d s, Wf s → TG (ty d s).1) (d : Int) (s : PSt) (w : Wf s) : (fieldM kw val ty d s).1.pok ∧ (fieldM kw val ty d s).1.fin := by
 have w1 : Wf (s.isA [95]) := (Sub.isA s [95]).1 w
 have hn : ∀ b : Bool, (if b = true then ([] : List UInt8) else (s.isA [95]).nameT kw).length ≤ 140737488351232 := by
  intro b; cases b
  · exact nameT_len kw w1
  · simp
 have ws : ∀ b : Bool, Wf (if b = true then s.isA [95] else (s.isA [95]).nameS kw) := by
  intro b; cases b
  · exact (Sub.nameS kw _).1 w1
  · exact w1
 have ht := h (x64 (d + 1)) _ (ws (s.isW [95]))
 obtain ⟨nm, t, b, wd, e, e1, e2, e3⟩ : ∃ nm t b wd, (fieldM kw val ty d s).1 = ⟨nm, t, b, wd⟩ ∧ nm.length ≤ 140737488351232 ∧ TG t ∧ i64ok wd := by
  unfold fieldM
  dsimp only
  have z0 : i64ok 0 := by unfold i64ok; omega
  have hno := hn (s.isW [95])
  generalize s.isW [95] = o at *
  cases o
  · simp only [Bool.false_eq_true, if_false, false_or] at hno ht ⊢
    split
    · exact ⟨_, _, _, _, rfl, hno, ht, x64_ok _⟩
    · exact ⟨_, _, _, _, rfl, hno, ht, z0⟩
  · simp only [if_true, true_or] at hno ht ⊢
    exact ⟨_, _, _, _, rfl, hno, ht, x64_ok _⟩
 rw [e]
 refine ⟨?_, ?_⟩
 · rw [GField.pok]; exact ⟨e1, e2.1, e3⟩
 · rw [GField.fin]; exact e2.2
theorem typs_g : ∀ n : Nat, n ≤ maxLen → (∀ d s, Wf s → TG (typM kw val n d s).1) ∧ ∀ d s, Wf s → ∀ f ∈ (fldsM kw val n d s).1, f.pok ∧ f.fin
 | 0, _ => ⟨fun d s _ => by rw [typM]; exact tyZ_g, fun d s _ => by rw [fldsM]; intro f h; cases h⟩
 | n + 1, hn => by
  obtain ⟨h1, h2⟩ := typs_g n (by omega)
  refine ⟨fun d s w => ?_, fun d s w => ?_⟩
  · have w1 : Wf (s.deep d) := (Sub.deep s d).1 w
    rw [typM]
    dsimp only
    split
    · exact tyZ_g
    · split
      · exact ty_g (by unfold i64ok; omega) nil_len nil_len (by simp) (by simp)
      · split
        · exact tyZ_g
        · split
          · refine ty_g (x64_ok _) nil_len (one_len _) (by simp) fun e he => ?_
            rw [List.mem_singleton.1 he]
            exact h1 _ _ ((Sub.want _ _).1 ((Sub.num val _ _).1 w1.adv))
          · refine ty_g (by unfold i64ok; omega) (Nat.le_trans (flds_len kw val n _ _) (by omega)) nil_len (h2 _ _ ?_) (by simp)
            exact (Sub.want _ _).1 ((Sub.isA _ _).1 w1.adv)
  · rw [fldsM]
    split
    · intro f h; cases h
    · split
      · intro f h; cases h
      · dsimp only
        intro f hf
        rcases List.mem_cons.1 hf with rfl | hf
        · exact field_g kw val (Sub.typ kw val n) h1 d s w
        · exact h2 _ _ ((Sub.field kw val (Sub.typ kw val n) d s).1 w) f hf
theorem plZ_g : plZ.pok ∧ plZ.fin := by
 refine ⟨?_, ?_⟩
 · unfold plZ; rw [GPlace.pok]; exact ⟨by simp, nil_len, trivial⟩
 · unfold plZ; rw [GPlace.fin]; exact ⟨nil_len, trivial⟩
theorem ex_g {kind n op order : Int} {name : List UInt8} {place : GPlace} {kids : List GExpr} (hn : u64ok n) (hname : name.length ≤ 140737488351232) (hp : place.pok ∧ place.fin) (hkl : kids.length ≤ maxLen) (hk : ∀ k ∈ kids, EG k) : EG ⟨kind, n, name, op, order, place, kids⟩ := by
 refine ⟨?_, ?_⟩
 · rw [GExpr.pok]; exact ⟨hn, hname, hp.1, hkl, GExpr.poks_iff.2 fun k h => (hk k h).1⟩
 · rw [GExpr.fin]
   refine ⟨hkl, hp.2, ?_⟩
   clear hkl hn hname hp
   induction kids with
   | nil => trivial
   | cons x r ih => exact ⟨(hk x (by simp)).2, ih fun f h => hk f (by simp [h])⟩
theorem u0 : u64ok 0 := by unfold u64ok; omega
theorem exZ_g : EG exZ := ex_g u0 (by simp) plZ_g nil_len (by simp)
theorem nil48 : ([] : List UInt8).length ≤ 140737488351232 := Nat.zero_le _
theorem st_g {kind line order : Int} {name name2 : List UInt8} {place : GPlace} {exprs : List GExpr} {thn els : List GStmt} (hname : name.length ≤ 140737488351232) (hname2 : name2.length ≤ 140737488351232) (hp : place.pok ∧ place.fin)
  (hel : exprs.length ≤ maxLen) (he : ∀ e ∈ exprs, EG e) (htl : thn.length ≤ maxLen) (ht : ∀ e ∈ thn, SG e) (hsl : els.length ≤ maxLen) (hs : ∀ e ∈ els, SG e) : SG ⟨kind, line, name, name2, order, place, exprs, thn, els⟩ := by
 have fe : GExpr.fins exprs := by
  clear hel
  induction exprs with
  | nil => trivial
  | cons x r ih => exact ⟨(he x (by simp)).2, ih fun f h => he f (by simp [h])⟩
 refine ⟨?_, ?_⟩
 · rw [GStmt.pok]
   exact ⟨hname, hname2, hp.1, hel, GExpr.poks_iff.2 fun k h => (he k h).1, htl, GStmt.poks_iff.2 fun k h => (ht k h).1, hsl, GStmt.poks_iff.2 fun k h => (hs k h).1⟩
 · rw [GStmt.fin]
   exact ⟨hp.2, ⟨hel, fe⟩, ⟨htl, GStmt.fins_iff.2 fun k h => (ht k h).2⟩, ⟨hsl, GStmt.fins_iff.2 fun k h => (hs k h).2⟩⟩
theorem nilG : ∀ e ∈ ([] : List GStmt), SG e := fun e h => by cases h
theorem nilE : ∀ e ∈ ([] : List GExpr), EG e := fun e h => by cases h
theorem oneEG {e : GExpr} (h : EG e) : ∀ x ∈ [e], EG x := fun x hx => by rw [List.mem_singleton.1 hx]; exact h
theorem twoEG {a b : GExpr} (h : EG a) (k : EG b) : ∀ x ∈ [a, b], EG x := fun x hx => by
 rcases List.mem_cons.1 hx with e | e
 · rw [e]; exact h
 · rw [List.mem_singleton.1 e]; exact k
theorem stZ_g (l : Int) : SG (stZ l) := st_g nil48 nil48 plZ_g nil_len nilE nil_len nilG nil_len nilG
theorem parts_len : ∀ (n : Nat) (d : Int) (s : PSt), (partsM kw val n d s).1.length ≤ n
 | 0, d, s => by rw [partsM]; exact Nat.le_refl _
 | n + 1, d, s => by
  rw [partsM]
  split
  · exact Nat.zero_le _
  · split
    · have := parts_len n d (s.adv.nameS kw)
      simp only [List.length_cons]; omega
    · split
      · have := parts_len n d ((exprM kw val n (x64 (d + 1)) s.adv).2.want [93])
        simp only [List.length_cons]; omega
      · exact Nat.zero_le _
variable (hval : ∀ w, 0 ≤ val w)
include hval
theorem num_u64 (s : PSt) : u64ok (s.num val 18446744073709551615).1 := by
 have := hval s.hd.1
 unfold PSt.num
 split
 · exact u0
 · split
   · exact u0
   · unfold u64ok; dsimp only; omega
theorem exprs_g : ∀ n : Nat, n ≤ maxLen → (∀ d s, Wf s → EG (exprM kw val n d s).1) ∧ ∀ d s, Wf s → ∀ p ∈ (partsM kw val n d s).1, p.pok ∧ p.fin
 | 0, _ => ⟨fun d s _ => by rw [exprM]; exact exZ_g, fun d s _ => by rw [partsM]; intro f h; cases h⟩
 | n + 1, hn => by
  obtain ⟨h1, h2⟩ := exprs_g n (by omega)
  have hSe := Sub.expr kw val n
  have hSp := Sub.parts kw val n
  have hpl : ∀ d s, Wf s → (placeM' kw (fun d s => partsM kw val n d s) d s).1.pok ∧ (placeM' kw (fun d s => partsM kw val n d s) d s).1.fin := by
   intro d s w
   have hl := parts_len kw val n d (s.nameS kw)
   have hp := h2 d (s.nameS kw) ((Sub.nameS kw s).1 w)
   unfold placeM'
   dsimp only
   refine ⟨?_, ?_⟩
   · rw [GPlace.pok]; exact ⟨nameT_len kw w, by omega, GPart.poks_iff.2 fun p h => (hp p h).1⟩
   · rw [GPlace.fin]
     refine ⟨by omega, ?_⟩
     generalize (partsM kw val n d (s.nameS kw)).1 = l at *
     clear hl
     induction l with
     | nil => trivial
     | cons x r ih => exact ⟨(hp x (by simp)).2, ih fun f h => hp f (by simp [h])⟩
  have hkids : ∀ d k s, Wf s → ∀ e ∈ (kidsM (fun d s => exprM kw val n d s) d k s).1, EG e := by
   intro d k
   induction k with
   | zero => intro s w e he; cases he
   | succ k ih =>
    intro s w e he
    rw [kidsM] at he
    dsimp only at he
    rcases List.mem_cons.1 he with rfl | he
    · exact h1 _ _ w
    · exact ih _ ((hSe _ _).1 w) e he
  have hkl : ∀ d k s, (kidsM (fun d s => exprM kw val n d s) d k s).1.length = k := by
   intro d k
   induction k with
   | zero => intro s; rfl
   | succ k ih => intro s; rw [kidsM]; dsimp only; rw [List.length_cons, ih]
  have hacc : ∀ kind k d s, k ≤ 2 → Wf s → EG (accM kw (fun d s => exprM kw val n d s) (fun d s => partsM kw val n d s) kind k d s).1 := by
   intro kind k d s hk w
   have w1 : Wf (if kind = 4 then ((0 : Int), s) else orderM s).2 := by
    split
    · exact w
    · exact (Sub.order s).1 w
   unfold accM
   dsimp only
   refine ex_g u0 (by simp) (hpl _ _ w1) (by rw [hkl]; unfold maxLen; omega) (hkids _ _ _ ?_)
   exact (Sub.place kw hSp d _).1 w1
  have hbin : ∀ d s, Wf s → EG (binM (fun d s => exprM kw val n d s) d s).1 := by
   intro d s w
   unfold binM
   dsimp only
   refine ex_g u0 (by simp) plZ_g (by unfold maxLen; simp) fun k hk => ?_
   have wa := (hSe (x64 (d + 1)) s).1 w
   rcases List.mem_cons.1 hk with rfl | hk
   · exact h1 _ _ w
   · rw [List.mem_singleton.1 hk]
     refine h1 _ _ ?_
     have hw : ∀ a : PSt, Wf a → Wf (if a.fk = 0 then a.adv else a) := fun a wa => by
      split
      · exact wa.adv
      · exact wa
     refine hw _ ?_
     split
     · exact wa.fail 4
     · exact wa
  refine ⟨fun d s w => ?_, fun d s w => ?_⟩
  · have w1 : Wf (s.deep d) := (Sub.deep s d).1 w
    rw [exprM]
    dsimp only
    split
    · exact exZ_g
    · split
      · exact ex_g (num_u64 val hval _) (by simp) plZ_g nil_len (by simp)
      · split
        · exact ex_g u0 (by have := w1.hd; omega) plZ_g nil_len (by simp)
        · split
          · exact hbin _ _ w1.adv
          · split
            · exact hacc _ _ _ _ (by omega) w1.adv
            · split
              · exact hacc _ _ _ _ (by omega) w1.adv
              · split
                · exact hacc _ _ _ _ (by omega) w1.adv
                · split
                  · exact hacc _ _ _ _ (by omega) w1.adv
                  · split
                    · exact hacc _ _ _ _ (by omega) w1.adv
                    · exact exZ_g
  · rw [partsM]
    split
    · intro f h; cases h
    · split
      · dsimp only
        intro f hf
        rcases List.mem_cons.1 hf with rfl | hf
        · refine ⟨?_, ?_⟩
          · rw [GPart.pok]; exact ⟨nameT_len kw w.adv, trivial⟩
          · rw [GPart.fin]; exact ⟨nil_len, trivial⟩
        · exact h2 _ _ ((Sub.nameS kw _).1 w.adv) f hf
      · split
        · dsimp only
          intro f hf
          have he := h1 (x64 (d + 1)) _ w.adv
          rcases List.mem_cons.1 hf with rfl | hf
          · refine ⟨?_, ?_⟩
            · rw [GPart.pok]; exact ⟨by simp, he.1, trivial⟩
            · rw [GPart.fin]; exact ⟨one_len _, he.2, trivial⟩
          · exact h2 _ _ ((Sub.want _ _).1 ((hSe _ _).1 w.adv)) f hf
        · intro f h; cases h
theorem place_g {n : Nat} (hn : n ≤ maxLen) (d : Int) (s : PSt) (w : Wf s) : (placeM' kw (partsM kw val n) d s).1.pok ∧ (placeM' kw (partsM kw val n) d s).1.fin := by
 have hl := parts_len kw val n d (s.nameS kw)
 have hp := (exprs_g kw val hval n hn).2 d (s.nameS kw) ((Sub.nameS kw s).1 w)
 unfold placeM'
 dsimp only
 refine ⟨?_, ?_⟩
 · rw [GPlace.pok]; exact ⟨nameT_len kw w, by omega, GPart.poks_iff.2 fun p h => (hp p h).1⟩
 · rw [GPlace.fin]
   refine ⟨by omega, ?_⟩
   generalize (partsM kw val n d (s.nameS kw)).1 = l at *
   clear hl
   induction l with
   | nil => trivial
   | cons x r ih => exact ⟨(hp x (by simp)).2, ih fun f h => hp f (by simp [h])⟩
theorem stmts_g : ∀ n : Nat, n ≤ maxLen → ∀ d s, Wf s → ∀ x ∈ (stmtsM kw val n d s).1, SG x
 | 0, _, d, s, _ => by rw [stmtsM]; exact nilG
 | n + 1, hn, d, s, w => by
  have ih := stmts_g n (by omega)
  have hE := (exprs_g kw val hval n (by omega)).1
  have hP := place_g kw val hval (n := n) (by omega)
  have hSe := Sub.expr kw val n
  have hSp := Sub.parts kw val n
  have hSs := Sub.stmts kw val n
  have hblk : ∀ d s, Wf s → (blockF (fun d s => stmtsM kw val n d s) d s).1.length ≤ maxLen ∧ ∀ x ∈ (blockF (fun d s => stmtsM kw val n d s) d s).1, SG x := by
   intro d s w
   unfold blockF
   dsimp only
   split
   · exact ⟨nil_len, nilG⟩
   · exact ⟨Nat.le_trans (stmts_size (kw := kw) (val := val) n _ _) (by omega), ih _ _ ((Sub.want _ _).1 ((Sub.deep s d).1 w))⟩
  have hval' : ∀ d s, Wf s → EG (valueF (exprM kw val n) d s).1 := fun d s w => hE _ _ ((Sub.want _ _).1 w)
  have hctl : ∀ l d s, Wf s → SG (controlF (exprM kw val n) (fun d s => stmtsM kw val n d s) (stZ l) d s).1 := by
   intro l d s w
   unfold controlF
   dsimp only
   have we := (hSe (x64 (d + 1)) s.adv).1 w.adv
   have hb := hblk (x64 (d + 1)) _ we
   split
   · split
     · have hb2 := hblk (x64 (d + 1)) _ ((Sub.block hSs (x64 (d + 1)) _).1 we).adv
       exact st_g nil48 nil48 plZ_g (one_len _) (oneEG (hE _ _ w.adv)) hb.1 hb.2 hb2.1 hb2.2
     · exact st_g nil48 nil48 plZ_g (one_len _) (oneEG (hE _ _ w.adv)) hb.1 hb.2 nil_len nilG
   · split
     · exact st_g nil48 nil48 plZ_g (one_len _) (oneEG (hE _ _ w.adv)) hb.1 hb.2 nil_len nilG
     · exact stZ_g _
  have hst : ∀ d s, Wf s → SG (stmtF kw (exprM kw val n) (partsM kw val n) (fun d s => stmtsM kw val n d s) d s).1 := by
   intro d s w
   have wo : Wf (orderM s.adv).2 := (Sub.order s.adv).1 w.adv
   unfold stmtF
   dsimp only
   split
   · exact st_g (nameT_len kw w.adv) nil48 plZ_g (one_len _) (oneEG (hval' _ _ ((Sub.nameS kw _).1 w.adv))) nil_len nilG nil_len nilG
   · split
     · exact st_g (nameT_len kw w.adv) nil48 plZ_g (one_len _) (oneEG (hval' _ _ ((Sub.nameS kw _).1 w.adv))) nil_len nilG nil_len nilG
     · split
       · exact st_g nil48 nil48 (hP _ _ w.adv) (one_len _) (oneEG (hval' _ _ ((Sub.place kw hSp d _).1 w.adv))) nil_len nilG nil_len nilG
       · split
         · exact st_g nil48 nil48 (hP _ _ wo) (one_len _) (oneEG (hval' _ _ ((Sub.place kw hSp d _).1 wo))) nil_len nilG nil_len nilG
         · split
           · have wp := (Sub.place kw hSp d _).1 wo
             exact st_g (nameT_len kw wp) (nameT_len kw ((Sub.nameS kw _).1 wp)) (hP _ _ wo) nil_len nilE nil_len nilG nil_len nilG
           · split
             · have wp := (Sub.place kw hSp d _).1 wo
               have wv := (Sub.value hSe d _).1 wp
               exact st_g nil48 nil48 (hP _ _ wo) (by unfold maxLen; simp) (twoEG (hval' _ _ wp) (hE _ _ ((Sub.want _ _).1 wv))) nil_len nilG nil_len nilG
             · split
               · exact st_g nil48 nil48 plZ_g nil_len nilE nil_len nilG nil_len nilG
               · split
                 · exact st_g nil48 nil48 plZ_g (one_len _) (oneEG (hE _ _ w.adv)) nil_len nilG nil_len nilG
                 · exact hctl _ _ _ w
  rw [stmtsM]
  split
  · exact nilG
  · split
    · exact nilG
    · dsimp only
      intro x hx
      rcases List.mem_cons.1 hx with rfl | hx
      · exact hst d s w
      · exact ih _ _ ((Sub.stmt kw hSe hSp hSs d s).1 w) x hx
theorem vars_g : ∀ n : Nat, n ≤ maxLen → ∀ s, Wf s → (varsM kw val n s).1.length ≤ n ∧ ∀ v ∈ (varsM kw val n s).1, v.pok ∧ v.type.fin
 | 0, _, s, _ => by rw [varsM]; exact ⟨Nat.le_refl _, fun v h => by cases h⟩
 | n + 1, hn, s, w => by
  rw [varsM]
  split
  · dsimp only
    have w1 := (Sub.nameS kw _).1 w.adv
    have ht := (typs_g kw val n (by omega)).1 1 _ w1
    obtain ⟨h1, h2⟩ := vars_g n (by omega) _ ((Sub.want _ [59]).1 ((Sub.typ kw val n 1 _).1 w1))
    refine ⟨by rw [List.length_cons]; omega, fun v hv => ?_⟩
    rcases List.mem_cons.1 hv with rfl | hv
    · exact ⟨⟨nameT_len kw w.adv, ht.1⟩, ht.2⟩
    · exact h2 v hv
  · exact ⟨Nat.zero_le _, fun v h => by cases h⟩
theorem thrs_g : ∀ n : Nat, n ≤ maxLen → ∀ s, Wf s → ∀ t ∈ (thrsM kw val n s).1, ∀ x ∈ t, SG x
 | 0, _, s, _ => by rw [thrsM]; intro t h; cases h
 | n + 1, hn, s, w => by
  rw [thrsM]
  split
  · dsimp only
    intro t ht
    rcases List.mem_cons.1 ht with rfl | ht
    · unfold blockF
      dsimp only
      split
      · exact nilG
      · exact stmts_g kw val hval n (by omega) _ _ ((Sub.want _ _).1 ((Sub.deep _ _).1 w.adv))
    · exact thrs_g n (by omega) _ ((Sub.block (Sub.stmts kw val n) 1 _).1 w.adv) t ht
  · intro t h; cases h
theorem parse_g {num : List UInt8 → Bool} (s : List UInt8) : (parseP num kw val s).1.pok ∧ (parseP num kw val s).1.fin := by
 have nil : (⟨[], []⟩ : GProg).pok ∧ (⟨[], []⟩ : GProg).fin := ⟨⟨⟨nil_len, fun v h => by cases h⟩, nil_len, fun v h => by cases h⟩, ⟨nil_len, fun v h => by cases h⟩, nil_len, fun v h => by cases h⟩
 have hsz := size_law (num := num) (kw := kw) (val := val) s
 unfold parseP at hsz ⊢
 cases h : lexM num s with
 | error e => exact nil
 | ok ws =>
  rw [h] at hsz
  obtain ⟨wf, hl⟩ := begin_wf h
  have hlen : (beginM ws).toks.length = ws.length + 1 := by show (ws ++ _).length = _; simp
  simp only at hsz ⊢
  unfold parseM at hsz ⊢
  dsimp only at hsz ⊢
  have hm : (beginM ws).toks.length ≤ maxLen := by unfold maxLen; omega
  obtain ⟨v1, v2⟩ := vars_g kw val hval _ hm (beginM ws) wf
  have t1 := thrs_g kw val hval _ hm _ ((Sub.vars kw val (beginM ws).toks.length (beginM ws)).1 wf)
  split
  · exact nil
  · rename_i hne
    rw [if_neg hne] at hsz
    obtain ⟨s1, s2⟩ := hsz
    have l : (2000000 : Nat) ≤ maxLen := by unfold maxLen; omega
    exact ⟨⟨⟨Nat.le_trans v1 hm, fun v hv => (v2 v hv).1⟩, Nat.le_trans s1 l, fun t ht => ⟨Nat.le_trans (s2 t ht) l, fun x hx => (t1 t ht x hx).1⟩⟩,
      ⟨Nat.le_trans v1 hm, fun v hv => (v2 v hv).2⟩, Nat.le_trans s1 l, fun t ht => ⟨Nat.le_trans (s2 t ht) l, fun x hx => (t1 t ht x hx).2⟩⟩
end
end Rb

namespace Rb
open Go
section
variable {Φ : Calls'} {H : AH} {Q : Post}
theorem exr {a b : AV} : aextract 0 (.tup [a, b]) = some a ∧ aextract 1 (.tup [a, b]) = some b := ⟨rfl, rfl⟩
theorem PrintReads_spec (hT : Cl Φ S.tab_Lex) {kw : List UInt8 → Bool} {val : List UInt8 → Int} (hval : ∀ w v, Go.Lib.parseUintB 64 w = .ok v → val w = (v : Int)) (h0 : ∀ w, 0 ≤ val w) (hpa : ∀ s, Val Φ K.f6 [.str s] (progV (parseP numX kw val s)))
  (hP : ∀ p : GProg, p.pok → p.fin → Val Φ K.f8 [.agg p.cells] (printV (printM (parseP numX kw val) p)))
  (hA : Val Φ K.f7 [] (.bool true)) (hw : ∀ s, Val Φ K.f9 [.str s] (lexV (lexM numX s))) (s : List UInt8) (hQ : ∀ H', Q (.bool true) H') : S.f3 Φ (.str s) H Q := by
 unfold S.f3
 refine hpa s _ _ ?_
 obtain ⟨⟨p, fl, fk⟩, hp⟩ : ∃ r, parseP numX kw val s = r := ⟨_, rfl⟩
 have hgood := parse_g kw val h0 (num := numX) s
 rw [hp] at hgood ⊢
 obtain ⟨pp, pf⟩ := hgood
 simp only [progV, exr.1, exr.2, Do_of]
 refine two_rows (P := p.cells) (F := [.int .i64 fl, .int .i64 fk]) (z1 := [.lst .nil 0 [], .lst .nil 0 []]) (z2 := [.int .i64 0, .int .i64 0]) rfl rfl (by simp [GProg.cells, lstA, AV.scalar]) rfl rfl rfl (K := fun x5 x7 H10 => _) fun H1 i j _ _ hi hj => ?_
 refine hA _ _ ?_
 simp only [aun_not, Do_of, Gd3_false, Bool.not_true, if_true, Ac.addrp, Nat.zero_add]
 rw [Ac.rowl hj.2, show takeCells [.int .i64 fl, .int .i64 fk] 1 1 false = some (.int .i64 fk) from rfl]
 simp only [Do_of, abin_neq, JoinP_def, S.f3_k8, sl_zero, Gd3_false]
 have stop : JoinP (S.f3_k7 Φ (.str s) (.ptr i 0) Q) [.bool true] H1 := by
  simp only [JoinP_def, S.f3_k7, sl_zero, Gd_true, if_true]
  exact hA _ _ (hQ _)
 refine bool_itef8 (fun h1 => ?_) (fun _ => stop)
 have hk0 : fk = 0 := by simpa using h1
 subst hk0
 rw [show alen true (.str s) = some (.int .i64 s.length) from rfl]
 simp only [Do_of, abin_gtr, S.f3_k7, sl_zero, Gd_true]
 refine bool_ite8 (fun h2 => hA _ _ (hQ _)) (fun h2 => ?_)
 have hlen : s.length ≤ 100000 := by simp only [decide_eq_false_iff_not] at h2; omega
 obtain ⟨l1, l2, ws, ms, w1, w2, w3⟩ := reads_law (kw := kw) (val := val) hval hlen (by rw [hp])
 rw [hp] at l1 l2 w2
 obtain ⟨⟨q, ql, qk⟩, hq⟩ : ∃ r, parseP numX kw val p.text = r := ⟨_, rfl⟩
 rw [hq] at l1 l2
 simp only at l1 l2
 subst l1
 have hqg := parse_g kw val h0 (num := numX) p.text
 rw [hq] at hqg
 obtain ⟨qp, qf⟩ := hqg
 have hM : printM (parseP numX kw val) p = (p.text, 0) := by
  unfold printM
  rw [hq, if_neg (by simp [l2])]
 have hM2 : printM (parseP numX kw val) q = (p.text, 0) := by rw [printM_er _ l2, hM]
 simp only [JoinP_def, S.f3_k6]
 rw [Ac.rowl hi.2, show takeCells p.cells 0 2 true = some (.agg p.cells) from rfl]
 simp only [Do_of]
 refine hP p pp pf _ _ ?_
 rw [hM]
 simp only [printV, exr.1, exr.2, Do_of]
 refine hpa p.text _ _ ?_
 rw [hq]
 simp only [progV, exr.1, exr.2, Do_of]
 refine two_rows (P := q.cells) (F := [.int .i64 ql, .int .i64 0]) (z1 := [.lst .nil 0 [], .lst .nil 0 []]) (z2 := [.int .i64 0, .int .i64 0]) rfl rfl (by simp [GProg.cells, lstA, AV.scalar]) rfl rfl rfl (K := fun x5 x7 H10 => _) fun H2 a b hE hab ha hb => ?_
 have hi2 := hi.ext hE
 rw [Ac.rowl ha.2, show takeCells q.cells 0 2 true = some (.agg q.cells) from rfl]
 simp only [Do_of]
 refine hP q qp qf _ _ ?_
 rw [hM2]
 simp only [printV, exr.1, exr.2, Do_of]
 refine hw s _ _ ?_
 rw [w1]
 simp only [lexV, exr.1, exr.2, Do_of, DoH_some, abox, if_true]
 rw [store_new H2 _ [.int .i64 0, .int .i64 0] 2 rfl rfl rfl]
 simp only [Do_of]
 refine hw p.text _ _ ?_
 rw [w2]
 simp only [lexV, exr.1, exr.2, Do_of, DoH_some, abox, if_true]
 rw [store_new _ _ [.int .i64 0, .int .i64 0] 2 rfl rfl rfl]
 have hb2 : At ((H2.push (.row [.int .i64 0, .int .i64 0])).push (.row [.int .i64 0, .int .i64 0])) b (.row [.int .i64 ql, .int .i64 0]) := (hb.push _).push _
 have ha2 : At ((H2.push (.row [.int .i64 0, .int .i64 0])).push (.row [.int .i64 0, .int .i64 0])) a (.row q.cells) := (ha.push _).push _
 have hi3 : At ((H2.push (.row [.int .i64 0, .int .i64 0])).push (.row [.int .i64 0, .int .i64 0])) i (.row p.cells) := (hi2.push _).push _
 generalize (H2.push (.row [.int .i64 0, .int .i64 0])).push (.row [.int .i64 0, .int .i64 0]) = H3 at *
 simp only [Do_of, abin_eql, BEq.rfl, Gd3_true, if_true, Ac.addrp, Nat.zero_add]
 rw [Ac.rowl hb2.2, show takeCells [.int .i64 ql, .int .i64 0] 1 1 false = some (.int .i64 0) from rfl]
 simp only [Do_of, abin_eql, BEq.rfl, JoinP_def, S.f3_k5, S.f3_k4, sl_zero, Gd3_true, if_true, seql]
 simp only [S.f3_k3, sl_zero, Gd3_true, if_true]
 rw [Ac.rowl hi3.2, Ac.rowl ha2.2, show takeCells p.cells 0 2 true = some (.agg p.cells) from rfl, show takeCells q.cells 0 2 true = some (.agg q.cells) from rfl]
 simp only [Do_of]
 refine Same_says hT pf q _ _ fun c H4 hc => ?_
 have hct : c = true := hc.2 l2.symm
 subst hct
 have hwl : ws.length ≤ 1048576 := (begin_wf w1).2
 have hms : ms.length ≤ ws.length := w3
 simp only [S.f3_k2, sl_zero, Gd3_true, if_true, lstA_len', Do_of, abin_leq, JoinP_def, S.f3_k1, abin_mul, abin_add, abin_geq]
 have e1 : IntKind.wrap .i64 (4 * (ws.length : Int)) = 4 * (ws.length : Int) := wrap_i64 (by omega) (by omega)
 have e2 : IntKind.wrap .i64 ((ms.length : Int) + 4 * (ws.length : Int)) = (ms.length : Int) + 4 * (ws.length : Int) := wrap_i64 (by omega) (by omega)
 rw [show decide ((ms.length : Int) ≤ (ws.length : Int)) = true from by simp only [decide_eq_true_eq]; omega, if_pos rfl, e1, e2, show decide ((ms.length : Int) + 4 * (ws.length : Int) ≥ (ws.length : Int)) = true from by simp only [decide_eq_true_eq]; omega]
 exact hQ _
end
end Rb

namespace Go.Proofs.YtbkkoplgicffgaaGreatDoor.rb
open Rb
theorem valX_val (w : List UInt8) (v : Nat) (h : Go.Lib.parseUintB 64 w = .ok v) : valX w = (v : Int) := by unfold valX; rw [h]
theorem valX_0 (w : List UInt8) : 0 ≤ valX w := by
 unfold valX
 split <;> omega
theorem wordsOK (s : List UInt8) : Val (ACall C) K.f9 [.str s] (lexV (lexM numX s)) :=
 Val.of gtC (by rfl) (by
   cases lexM numX s with
   | error e => rfl
   | ok ws =>
    have h : (lstA tokC ws).froz = true := lstA_froz (fun x => rfl) ws
    simp only [lexV, AV.froz, AV.frozs, h, Bool.and_self]) fun Q hQ => ACall.weak (r_Words cl_Lex numG s fun v H' hv => by rw [hv]; exact hQ H')
theorem printReads.any (s : List UInt8) : ACall C K.f3 [.str s] AH.mt (fun v _ => v = .bool true) :=
 S.cl_f3 cl_Lex (PrintReads_spec cl_Lex valX_val valX_0 progOK printOK awake10 wordsOK s fun _ => rfl)
end Go.Proofs.YtbkkoplgicffgaaGreatDoor.rb

namespace Go.Proofs.YtbkkoplgicffgaaGreatDoor.rb.printReads
open Rb Go.ChangeShapes Go.WideShapes Go.ChangeAt Go.RowKit
set_option maxRecDepth 100000 in
theorem lifted (os : Os) (started : os.Started) (H : Type) (enc : TypeId × Value → H) :
  ReturnsInHanded {} Tryz.checked os 3 .any (fun w args => (Rows.printReadsSpec.pre enc Tryz.prog Tryz.f3 [] false w args ∧ laidMet Tryz.prog laidVars w) ∧ sizedMet enc Tryz.prog Tryz.f3 (OpenSpec.ofChange Rows.printReadsSpec) false w args)
   (Rows.printReadsSpec.post enc Tryz.prog Tryz.f3 false true false false) := by
 refine returnsInHanded_of_change_and (C := Tryz.checked) (X := fun w _ => laidMet Tryz.prog laidVars w) (fun _ _ _ hh h => h.of_heap hh) own started (by kernel_rfl) Tryz.func3
  (ChangeSpec.witness_shaped (enc := enc) (C := Tryz.checked) (os := os) (X := fun w _ => laidMet Tryz.prog laidVars w) false (laidWorld os) #[.string ⟨#[]⟩] 8 rfl (laid_shaped os _) (by kernel_rfl) (by kernel_rfl) (by kernel_rfl) (laid_met os _)) ?_
 intro W base args ds gs before hval0 hW _ hsz hL _
 have hval : ∀ (j : Nat) t v, Tryz.f3.params[j]? = some t → args[j]? = some v → Value.okWide Tryz.prog W .any base t v := hval0
 have hW' := hW
 obtain ⟨p, q, hA0, hV0, rfl, hfz, hnd⟩ := hW
 have hA : DataW.TrodAll enc Tryz.prog W 0 (fun _ => true) true Tryz.f3.params.toList args.toList ds p := hA0
 have hV : DataW.TrodVars enc Tryz.prog W (fun _ => true) [] gs q := hV0
 rw [Tryz.params3] at hA hval
 obtain ⟨v0, d0, rfl, rfl, h0⟩ := trodAll_one hA
 obtain ⟨rfl, rfl⟩ : gs = [] ∧ q = [] := by
  cases gs with
  | nil => exact ⟨rfl, hV⟩
  | cons g r => exact absurd hV (by intro h; cases h)
 obtain ⟨a0, rfl, rfl, rfl, w0⟩ := Go.ChangeMaps.open_string Tryz.underlying9 (hval 0 9 v0 rfl rfl) h0
 refine (law_calls (C := C) (f := 3) (by kernel_rfl) (any a0.data.toList) (gok hL) (VRs.one (VR_string _))).mono fun e W' ⟨he, hbel⟩ => ?_
 subst he
 exact ⟨_, rfl, post_true (bt := 4) hW' laidOut (by kernel_rfl) (by kernel_rfl) (by kernel_rfl) Tryz.underlying4 rfl hbel⟩
theorem facts : joinedFacts Tryz.checked.prog 3 Tryz.f3 Rows.printReadsSpec Rows.printReadsRow = true := of_forced (by kernel_rfl)
theorem row : Rows.PrintReadsSaid :=
 OpenClaim.holds_of_wide 3 Tryz.f3 rfl rfl rfl rfl rfl rfl rfl ⟨rfl, rfl, rfl, rfl, rfl⟩ rfl rfl rfl rfl rfl (by kernel_rfl) Tryz.func3 facts
  (of_decide_eq_true (by kernel_rfl)) (by unfold Func.isWrapper; first | (rw [if_pos (by decide +kernel)]; kernel_rfl) | (rw [if_neg (by decide +kernel)]; exact ⟨rfl, rfl⟩))
  (fun os started H enc _ => lifted os started H enc)
end Go.Proofs.YtbkkoplgicffgaaGreatDoor.rb.printReads
namespace Go.Proofs.YtbkkoplgicffgaaGreatDoor
open Go
theorem printReads_holds : Rows.PrintReadsCardSaid :=
 Claim7.holds_tied_plain_at .later [] [.data, .data, .data, .data, .sentinel, .sentinel, .listed, .data, .pinned] true (true, "c34840ecdf9fee5f453c02bc03bd124823be46025f6145b69380127cff5b870b") true
  rb.printReads.row (fun _ h => by cases h) (by kernel_rfl) (fun _ h => by cases h) printReads_row_tie rfl ⟨rfl, rfl⟩ (by kernel_rfl) rfl
  (fun f fn hf hfn => by
    obtain rfl : f = 3 := Option.some.inj ((show Tryz.prog.funcNamed Rows.printReadsRow.func = some 3 by kernel_rfl).symm.trans hf) |>.symm
    obtain rfl : fn = Tryz.f3 := (Option.some.inj (Tryz.func3.symm.trans hfn)).symm
    exact ⟨by kernel_rfl, fun j t ht => by
      rw [Tryz.params3] at ht
      rcases j with _ | j
      · obtain rfl : t = 9 := by simpa using ht.symm
        exact (show Tryz.prog.wantsStandIn 9 = false by kernel_rfl)
      · simp at ht⟩)
  (by kernel_rfl)
#print axioms printReads_holds
end Go.Proofs.YtbkkoplgicffgaaGreatDoor
