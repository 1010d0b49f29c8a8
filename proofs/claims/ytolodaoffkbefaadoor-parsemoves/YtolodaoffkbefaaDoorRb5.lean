/- A part of the proof (part 5): see the last text. -/
import Derived.Test.YtolodaoffkbefaaDoorRb4
import Derived.Below
import Derived.Test.YtolodaoffkbefaaDoorRb3
import Derived.Shelf.Pu.ParseUintPublic10
import Derived.Lib.AtoiErrMem
/- Lists that grow in a function that calls others; results told weakly. -/
set_option linter.unusedVariables false
set_option linter.unusedSimpArgs false
set_option linter.unusedSectionVars false
namespace Rb
open Go

/-- Results may be told more weakly. -/
def Wk (Φ : Calls') : Prop := ∀ k args H (Q : Post), Φ k args H (fun v H' => Q v.weak H') → Φ k args H Q
theorem ACall.wk (C : Ctx) : Wk (ACall C) := fun _ _ _ _ h => ACall.weak h

theorem weaks_app (a b : List AV) : AV.weaks (a ++ b) = AV.weaks a ++ AV.weaks b := by rw [weaks_map, weaks_map, weaks_map, List.map_append]
mutual
theorem GType.weaks : ∀ x : GType, AV.weaks x.cells = x.cells
  | .mk kind size packed fields count elem => by simp only [GType.cells, AV.weaks, AV.weak, GField.weaksA fields, GType.weaksA elem]
theorem GType.weaksA : ∀ xs : List GType, AV.weaks (GType.all xs) = GType.all xs
  | [] => rfl
  | x :: r => by rw [GType.all, weaks_app, GType.weaks x, GType.weaksA r]
theorem GField.weaks : ∀ x : GField, AV.weaks x.cells = x.cells
  | .mk name type bits width => by simp only [GField.cells, AV.weaks, AV.weak, weaks_app, GType.weaks type]
theorem GField.weaksA : ∀ xs : List GField, AV.weaks (GField.all xs) = GField.all xs
  | [] => rfl
  | x :: r => by rw [GField.all, weaks_app, GField.weaks x, GField.weaksA r]
end
mutual
theorem GExpr.weaks : ∀ x : GExpr, AV.weaks x.cells = x.cells
  | .mk kind n name op order place kids => by simp only [GExpr.cells, AV.weaks, AV.weak, weaks_app, GPlace.weaks place, GExpr.weaksA kids]
theorem GExpr.weaksA : ∀ xs : List GExpr, AV.weaks (GExpr.all xs) = GExpr.all xs
  | [] => rfl
  | x :: r => by rw [GExpr.all, weaks_app, GExpr.weaks x, GExpr.weaksA r]
theorem GPlace.weaks : ∀ x : GPlace, AV.weaks x.cells = x.cells
  | .mk var parts => by simp only [GPlace.cells, AV.weaks, AV.weak, GPart.weaksA parts]
theorem GPart.weaks : ∀ x : GPart, AV.weaks x.cells = x.cells
  | .mk field index => by simp only [GPart.cells, AV.weaks, AV.weak, GExpr.weaksA index]
theorem GPart.weaksA : ∀ xs : List GPart, AV.weaks (GPart.all xs) = GPart.all xs
  | [] => rfl
  | x :: r => by rw [GPart.all, weaks_app, GPart.weaks x, GPart.weaksA r]
end
theorem lstA_weak {α : Type} {cells : α → List AV} (h : ∀ x, AV.weaks (cells x) = cells x) (xs : List α) : (lstA cells xs).weak = lstA cells xs := by
  have : AV.weaks (xs.flatMap cells) = xs.flatMap cells := by
    induction xs with
    | nil => rfl
    | cons x r ih => rw [List.flatMap_cons, weaks_app, h, ih]
  simp only [lstA, AV.weak, this]
mutual
theorem GStmt.weaks : ∀ x : GStmt, AV.weaks x.cells = x.cells
  | .mk kind line name name2 order place exprs thn els => by
    simp only [GStmt.cells, AV.weaks, AV.weak, weaks_app, GPlace.weaks place, GStmt.weaksA thn, GStmt.weaksA els, lstA_weak GExpr.weaks exprs]
theorem GStmt.weaksA : ∀ xs : List GStmt, AV.weaks (GStmt.all xs) = GStmt.all xs
  | [] => rfl
  | x :: r => by rw [GStmt.all, weaks_app, GStmt.weaks x, GStmt.weaksA r]
end
theorem GVar.weaks (x : GVar) : AV.weaks x.cells = x.cells := by simp only [GVar.cells, AV.weaks, AV.weak, GType.weaks]

/-- A list of a function's own, that grows at its end; n0 objects were there ahead of the function. -/
def OwnT (n0 : Nat) (H : AH) (sz : Nat) (x : AV) (len : Nat) (cells : List AV) : Prop :=
  ∃ tk, x = .lst tk len cells ∧ cells.length = len * sz ∧ ((tk = .nil ∧ len = 0) ∨ tk = .full ∨ ∃ t, tk = .own t ∧ n0 ≤ t ∧ At H t (.tok (len * sz) sz))
theorem OwnT.nil (n0 : Nat) (H : AH) (sz : Nat) : OwnT n0 H sz (.lst .nil 0 []) 0 [] := ⟨.nil, rfl, by simp, .inl ⟨rfl, rfl⟩⟩
theorem OwnT.weak {n0 : Nat} {H : AH} {sz len : Nat} {x : AV} {cells : List AV} (h : OwnT n0 H sz x len cells) (hw : AV.weaks cells = cells) : x.weak = .lst .dead len cells := by
  obtain ⟨tk, rfl, _, _⟩ := h
  simp only [AV.weak, hw]
/-- Other calls leave it as it is. -/
theorem OwnT.keep {n0 : Nat} {H H' : AH} {sz len id : Nat} {x : AV} {cells : List AV} (h : OwnT n0 H sz x len cells) (hi : id < n0) (k : KeepP id H H') : OwnT n0 H' sz x len cells := by
  obtain ⟨tk, hx, hc, ht⟩ := h
  refine ⟨tk, hx, hc, ?_⟩
  rcases ht with ht | ht | ⟨t, h1, h2, h3⟩
  · exact .inl ht
  · exact .inr (.inl ht)
  · exact .inr (.inr ⟨t, h1, h2, k.2 t _ (by omega) h3⟩)
theorem OwnT.frame {n0 : Nat} {H H' : AH} {sz len : Nat} {x : AV} {cells : List AV} (h : OwnT n0 H sz x len cells) (k : ∀ t a b, At H t (.tok a b) → At H' t (.tok a b)) : OwnT n0 H' sz x len cells := by
  obtain ⟨tk, hx, hc, ht⟩ := h
  refine ⟨tk, hx, hc, ?_⟩
  rcases ht with ht | ht | ⟨t, h1, h2, h3⟩
  · exact .inl ht
  · exact .inr (.inl ht)
  · exact .inr (.inr ⟨t, h1, h2, k t _ _ h3⟩)
/-- What an append leaves. -/
def Left (n0 : Nat) (H H' : AH) : Prop := H.n ≤ H'.n ∧ ∀ i o, At H i o → (i < n0 ∨ ∀ a b, o ≠ .tok a b) → At H' i o
theorem OwnT.app {n0 sz bytes len m : Nat} {H : AH} {x y : AV} {cells news : List AV} {K : Post} (h : OwnT n0 H sz x len cells) (hn0 : n0 ≤ H.n) (hy : acells H sz y = some (m, news)) (hn : news.length = m * sz) (hs : news.all AV.scalar = true) (hm : m ≠ 0)
    (hb : (len + m) * bytes ≤ 140737488355328) (hl : len + m ≤ 9223372036854775807) (hK : ∀ x' H', OwnT n0 H' sz x' (len + m) (cells ++ news) → Left n0 H H' → K x' H') : DoH (aappend H false sz bytes x y) K := by
  obtain ⟨tk, rfl, hc, htk⟩ := h
  have hlen : (cells ++ news).length = (len + m) * sz := by simp [hc, hn, Nat.add_mul]
  have grow : ∀ tk : Tok, tk = .full ∨ (tk = .nil ∧ len = 0) → aappend H false sz bytes (.lst tk len cells) y = some (.lst (.own H.n) (len + m) (cells ++ news), H.push (.tok ((len + m) * sz) sz)) := by
    intro tk ht
    simp only [aappend, hy, hs, not_true_eq_false, if_false, if_neg hm]
    rw [if_neg (by simp only [Decidable.not_not]; exact ⟨hc, hb, hl⟩)]
    rcases ht with rfl | ⟨rfl, _⟩ <;> rfl
  have fresh : K (.lst (.own H.n) (len + m) (cells ++ news)) (H.push (.tok ((len + m) * sz) sz)) :=
    hK _ _ ⟨_, rfl, hlen, .inr (.inr ⟨H.n, rfl, hn0, At.new H _⟩)⟩ ⟨Nat.le_succ _, fun i o h _ => h.push _⟩
  rcases htk with ht | ht | ⟨t, rfl, h1, h2⟩
  · exact ⟨_, _, grow tk (.inr ht), fresh⟩
  · exact ⟨_, _, grow tk (.inl ht), fresh⟩
  · refine ⟨.lst (.own H.n) (len + m) (cells ++ news), (H.set t .gone).push (.tok ((len + m) * sz) sz), ?_, hK _ _ ⟨_, rfl, hlen, .inr (.inr ⟨H.n, rfl, hn0, At.new (H.set t .gone) _⟩)⟩ ⟨Nat.le_succ _, fun i o hi ho => (hi.set_ne (fun e => ?_) _).push _⟩⟩
    · simp only [aappend, hy, hs, not_true_eq_false, if_false, if_neg hm]
      rw [if_neg (by simp only [Decidable.not_not]; exact ⟨hc, hb, hl⟩)]
      simp [h2.2]
    · subst e
      rcases ho with ho | ho
      · omega
      · exact ho _ _ (hi.2.symm.trans h2.2)

/-! What a function does to its own new objects. -/
theorem KeepP.pushL {id : Nat} {H0 H : AH} (h : KeepP id H0 H) (x : AObj) : KeepP id H0 (H.push x) := h.trans (KeepP.push id H x)
theorem KeepP.setL {id i : Nat} {H0 H : AH} (h : KeepP id H0 H) (hi : H0.n ≤ i) (x : AObj) : KeepP id H0 (H.set i x) := ⟨h.1, fun j o hj ho => (h.2 j o hj ho).set_ne (by have := ho.1; omega) x⟩
theorem KeepP.left {id : Nat} {H0 H H' : AH} (h : KeepP id H0 H) (k : Left H0.n H H') : KeepP id H0 H' := ⟨Nat.le_trans h.1 k.1, fun j o hj ho => k.2 j o (h.2 j o hj ho) (.inl ho.1)⟩
theorem PS.pushL {H : AH} {id : Nat} {s : PSt} (h : PS H id s) (x : AObj) : PS (H.push x) id s := ⟨h.1, h.2.1, h.2.2.imp fun _ h => h.push x⟩
theorem PS.setL {H : AH} {id i : Nat} {s : PSt} (h : PS H id s) (hi : id ≠ i) (x : AObj) : PS (H.set i x) id s := ⟨h.1, h.2.1, h.2.2.imp fun _ h => h.set_ne hi x⟩
theorem PS.left {n0 : Nat} {H H' : AH} {id : Nat} {s : PSt} (h : PS H id s) (k : Left n0 H H') : PS H' id s := ⟨h.1, h.2.1, h.2.2.imp fun _ h => k.2 _ _ h (.inr fun _ _ e => by cases e)⟩
theorem Left.row {n0 : Nat} {H H' : AH} {i : Nat} {cs : List AV} (k : Left n0 H H') (h : At H i (.row cs)) : At H' i (.row cs) := k.2 _ _ h (.inr fun _ _ e => by cases e)
end Rb

/- Package parse: numbers, scalar types, kinds, operators, orders. -/
set_option linter.unusedVariables false
set_option linter.unusedSimpArgs false
set_option linter.unusedSectionVars false
namespace Rb
open Go

/-- What strconv.ParseUint gives, as far as the parser asks. -/
def NumV (Φ : Calls') (val : List UInt8 → Int) : Prop :=
  ∀ (w : List UInt8) (H : AH) (Q : Post), w.length ≤ 1048576 → digitsM w = true → (∀ v, Q (.tup [.int .u64 (val w), v]) H) → Φ K.strconv_ParseUint [.str w, .int .i64 10, .int .i64 64] H Q

section
variable {Φ : Calls'} {H : AH} {Q : Post} {id : Nat} {s : PSt}
theorem p_num (hT : Cl Φ S.tab_Lex) {val : List UInt8 → Int} (hv : NumV Φ val) {most : Int} (h : PS H id s) (hw : Wf s) (hQ : ∀ H', KeepP id H H' → PS H' id (s.num val most).2 → Q (.int .u64 (s.num val most).1) H') : Φ K.parse_parser_number [.ptr id 0, .int .u64 most] H Q := by
  refine S.cl_parse_parser_number hT ?_
  unfold S.parse_parser_number
  refine p_bad hT h ?_
  have k2 : ∀ b : Bool, b = (s.fk != 0 || !digitsM s.hd.1) → JoinP (S.parse_parser_number_k2 Φ (.ptr id 0) (.int .u64 most) Q) [.bool b] H := by
    intro b hb
    simp only [JoinP_def, S.parse_parser_number_k2, sl_zero, Gd_true]
    refine ite_both (fun hx => ?_) (fun hx => ?_)
    · have hc : s.fk ≠ 0 ∨ digitsM s.hd.1 = false := by
        rw [hx] at hb
        have := hb.symm
        simpa [bne_iff_ne] using this
      have e : s.num val most = (0, s.fail 4) := by unfold PSt.num; rw [if_pos hc]
      refine p_fail hT h fun H' k p => ?_
      have := hQ H' k (by rw [e]; exact p)
      rw [e] at this; exact this
    · have hc : ¬ (s.fk ≠ 0 ∨ digitsM s.hd.1 = false) := by
        intro hc
        refine hx ?_
        rw [hb]
        rcases hc with hc | hc
        · simp [hc]
        · simp [hc]
      have hd : digitsM s.hd.1 = true := by
        cases hy : digitsM s.hd.1 with
        | true => rfl
        | false => exact absurd (.inr hy) hc
      simp only [S.parse_parser_number_k1]
      refine p_peek hT h ?_
      refine hv _ _ _ hw.hd hd fun v => ?_
      simp only [aextract, List.getElem?_cons_zero, List.getElem?_cons_succ, Do_of, abin_gtr]
      refine ite_both (fun hg => ?_) (fun hg => ?_)
      · have hg' : val s.hd.1 > most := by simpa using hg
        have e : s.num val most = (0, s.fail 9) := by unfold PSt.num; rw [if_neg hc, if_pos hg']
        refine p_fail hT h fun H' k p => ?_
        have := hQ H' k (by rw [e]; exact p)
        rw [e] at this; exact this
      · have hg' : ¬ val s.hd.1 > most := by simpa using hg
        have e : s.num val most = (val s.hd.1, s.adv) := by unfold PSt.num; rw [if_neg hc, if_neg hg']
        refine p_next hT h fun H' k p => ?_
        have := hQ H' k (by rw [e]; exact p)
        rw [e] at this; exact this
  simp only [Gd3_false]
  refine ite_both (fun hx => ?_) (fun hx => ?_)
  · have h0 : s.fk = 0 := by simpa using hx
    refine p_peek hT h ?_
    refine p_digits hT ?_
    simp only [aun_not, Do_of]
    exact k2 _ (by simp [h0])
  · have h0 : s.fk ≠ 0 := by simpa using hx
    exact k2 _ (by simp [h0])
theorem p_kind (hT : Cl Φ S.tab_Lex) {w : List UInt8} (hQ : Q (.int .i64 (kindM w)) H) : Φ K.parse_kind [.str w] H Q := by
  refine S.cl_parse_kind hT ?_
  unfold S.parse_kind
  unfold kindM at hQ
  simp only [str_eql, Do_of, Gd_true, beq_iff_eq]
  refine ite_both (fun h1 => ?_) (fun h1 => ?_)
  · rw [if_pos h1] at hQ; exact hQ
  · rw [if_neg h1] at hQ
    refine ite_both (fun h2 => ?_) (fun h2 => ?_)
    · rw [if_pos h2] at hQ; exact hQ
    · rw [if_neg h2] at hQ
      refine ite_both (fun h3 => ?_) (fun h3 => ?_)
      · rw [if_pos h3] at hQ; exact hQ
      · rw [if_neg h3] at hQ; exact hQ
end
end Rb

/- A call that leaves all that was there: the relation to the world stands. -/
set_option linter.unusedVariables false
set_option linter.unusedSimpArgs false
namespace Rb
open Go Go.RowKit

theorem cell_lt {w : World} {b o : Nat} {V : Value} (h : w.cell? ⟨b, o, none⟩ = some V) : b < w.heap.size := by
  unfold World.cell? at h
  split at h
  · rename_i hb
    exact (Array.getElem?_eq_some_iff.1 hb).1
  · cases h
theorem gle_below {w w' : World} {G : Ghost} (hb : Below w.heap.size w w') : GLe w G w' G :=
  ⟨Nat.le_refl _, fun _ _ => rfl, fun _ _ => rfl, fun _ _ h => h, fun b o V _ hc => by rw [hb.cell (p := ⟨b, o, none⟩) (cell_lt hc)]; exact hc⟩
theorem obj_below {F : FTab} {w w' : World} {G : Ghost} (hb : Below w.heap.size w w') {i : Nat} {x : AObj} (h : ObjR F w G i x) : ObjR F w' G i x := by
  have hg := gle_below (G := G) hb
  cases x with
  | row cs =>
    obtain ⟨c, e, h1, h2, h3, h4⟩ := h
    refine ⟨c, e, by rw [hb.block _ (Array.getElem?_eq_some_iff.1 h1).1]; exact h1, h2, h3, fun j c hj => ?_⟩
    obtain ⟨V, h5, h6⟩ := h4 j c hj
    exact ⟨V, h5, h6.mono hg⟩
  | tok k sz =>
    obtain ⟨c, e, h1, h2, h3, h4⟩ := h
    exact ⟨c, e, by rw [hb.block _ (Array.getElem?_eq_some_iff.1 h1).1]; exact h1, h2, h3, h4⟩
  | map es =>
    obtain ⟨c, e, h1, h2, h3, h4⟩ := h
    refine ⟨c, e, by rw [hb.block _ (Array.getElem?_eq_some_iff.1 h1).1]; exact h1, h2, h3, fun j k v hj => ?_⟩
    obtain ⟨m, h5, h6, h7⟩ := h4 j k v hj
    exact ⟨m, h5, h6.mono hg, h7.mono hg⟩
  | siter s pos =>
    obtain ⟨h1, h2⟩ := h
    exact ⟨by rw [hb.block _ (Array.getElem?_eq_some_iff.1 h1).1]; exact h1, h2⟩
  | gone => trivial
theorem obj_lt {F : FTab} {w : World} {G : Ghost} {i : Nat} {x : AObj} (h : ObjR F w G i x) (hl : x.live = true) : G.loc i < w.heap.size := by
  cases x with
  | row cs => obtain ⟨c, e, h1, _⟩ := h; exact (Array.getElem?_eq_some_iff.1 h1).1
  | tok k sz => obtain ⟨c, e, h1, _⟩ := h; exact (Array.getElem?_eq_some_iff.1 h1).1
  | map es => obtain ⟨c, e, h1, _⟩ := h; exact (Array.getElem?_eq_some_iff.1 h1).1
  | siter s pos => exact (Array.getElem?_eq_some_iff.1 h.1).1
  | gone => cases hl
theorem rel_below {F : FTab} {w w' : World} {G : Ghost} {H : AH} (hb : Below w.heap.size w w') (h : Rel F w G H) : Rel F w' G H :=
  ⟨h.n, h.over, fun i => obj_below hb (h.obj i), h.dist, fun b o hf => by
    obtain ⟨V, hV⟩ := h.fzc b o hf
    exact ⟨V, by rw [hb.cell (p := ⟨b, o, none⟩) (cell_lt hV)]; exact hV⟩⟩
theorem step_below {F : FTab} {w w' : World} {G : Ghost} {H : AH} (hb : Below w.heap.size w w') (h : Rel F w G H) : Step w G H w' G H :=
  { gle_below hb with
    size := hb.size
    os := hb.os
    tape := hb.tape
    output := hb.output
    old := fun k hk _ => hb.block k hk
    owned := fun i hl _ => ⟨i, hl, rfl⟩
    fznew := fun _ _ hf => .inl hf }
end Rb

/- The scanner's calls into the library: numbers, bytes. -/
set_option linter.unusedVariables false
set_option linter.unusedSimpArgs false
namespace Go.Proofs.YtolodaoffkbefaaDoor.rb
open Rb Go.Shelf Go.RowKit

def laysPu14_ren : Go.Shelf.Ren := ⟨fun | 14 => 36 | 16 => 50 | 17 => 51 | 19 => 60 | 20 => 61 | 21 => 62 | 22 => 63 | 23 => 64 | 24 => 65 | 25 => 71 | 27 => 73 | 26 => 72 | 28 => 75 | 29 => 76 | 30 => 77 | 31 => 78 | 32 => 79 | 33 => 80 | 35 => 82 | 34 => 81 | 36 => 83 | 37 => 84 | 38 => 85 | 39 => 86 | 40 => 87 | n => n, fun | 9 => 9 | 3 => 3 | 22 => 55 | 24 => 91 | 25 => 92 | 4 => 4 | 34 => 119 | 5 => 5 | 36 => 121 | 37 => 122 | 0 => 0 | 39 => 123 | 21 => 21 | 44 => 139 | 47 => 145 | 50 => 148 | 48 => 146 | 2 => 2 | 52 => 150 | 55 => 153 | 59 => 157 | 60 => 116 | 20 => 20 | 61 => 158 | 65 => 161 | 66 => 162 | 67 => 61 | n => n, fun | 0 => 2 | 1 => 3 | 2 => 5 | 3 => 6 | 4 => 7 | n => n⟩
theorem laysPu14 : Go.Proofs.LaysPu.n14 Tryd.prog laysPu14_ren := {
  mixed := by kernel_rfl
  f14 := Tryd.func36.trans (congrArg some (by kernel_rfl))
  f16 := Tryd.func50.trans (congrArg some (by kernel_rfl))
  f17 := Tryd.func51.trans (congrArg some (by kernel_rfl))
  f19 := Tryd.func60.trans (congrArg some (by kernel_rfl))
  f20 := Tryd.func61.trans (congrArg some (by kernel_rfl))
  f21 := Tryd.func62.trans (congrArg some (by kernel_rfl))
  f22 := Tryd.func63.trans (congrArg some (by kernel_rfl))
  f23 := Tryd.func64.trans (congrArg some (by kernel_rfl))
  f24 := Tryd.func65.trans (congrArg some (by kernel_rfl))
  f25 := Tryd.func71.trans (congrArg some (by kernel_rfl))
  f26 := Tryd.func72.trans (congrArg some (by kernel_rfl))
  f27 := Tryd.func73.trans (congrArg some (by kernel_rfl))
  f28 := Tryd.func75.trans (congrArg some (by kernel_rfl))
  f29 := Tryd.func76.trans (congrArg some (by kernel_rfl))
  f30 := Tryd.func77.trans (congrArg some (by kernel_rfl))
  f31 := Tryd.func78.trans (congrArg some (by kernel_rfl))
  f32 := Tryd.func79.trans (congrArg some (by kernel_rfl))
  f33 := Tryd.func80.trans (congrArg some (by kernel_rfl))
  f34 := Tryd.func81.trans (congrArg some (by kernel_rfl))
  f35 := Tryd.func82.trans (congrArg some (by kernel_rfl))
  f36 := Tryd.func83.trans (congrArg some (by kernel_rfl))
  f37 := Tryd.func84.trans (congrArg some (by kernel_rfl))
  f38 := Tryd.func85.trans (congrArg some (by kernel_rfl))
  f39 := Tryd.func86.trans (congrArg some (by kernel_rfl))
  f40 := Tryd.func87.trans (congrArg some (by kernel_rfl))
  t0 := Tryd.underlying0
  a0 := Tryd.isAgg0
  z0 := Tryd.sizeOf0
  v0 := Tryd.zeroValue0
  i0 := by kernel_rfl
  t2 := Tryd.underlying2
  a2 := Tryd.isAgg2
  z2 := Tryd.sizeOf2
  v2 := Tryd.zeroValue2
  i2 := by kernel_rfl
  t3 := Tryd.underlying3
  a3 := Tryd.isAgg3
  z3 := Tryd.sizeOf3
  v3 := Tryd.zeroValue3
  i3 := by kernel_rfl
  t4 := Tryd.underlying4
  a4 := Tryd.isAgg4
  z4 := Tryd.sizeOf4
  v4 := Tryd.zeroValue4
  i4 := by kernel_rfl
  t5 := Tryd.underlying5
  a5 := Tryd.isAgg5
  z5 := Tryd.sizeOf5
  v5 := Tryd.zeroValue5
  i5 := by kernel_rfl
  t9 := Tryd.underlying9
  a9 := Tryd.isAgg9
  z9 := Tryd.sizeOf9
  v9 := Tryd.zeroValue9
  i9 := by kernel_rfl
  t20 := Tryd.underlying20
  a20 := Tryd.isAgg20
  z20 := Tryd.sizeOf20
  v20 := Tryd.zeroValue20
  i20 := by kernel_rfl
  t21 := Tryd.underlying21
  a21 := Tryd.isAgg21
  z21 := Tryd.sizeOf21
  v21 := Tryd.zeroValue21
  i21 := by kernel_rfl
  t22 := Tryd.underlying55
  a22 := Tryd.isAgg55
  z22 := Tryd.sizeOf55
  v22 := Tryd.zeroValue55
  i22 := by kernel_rfl
  t24 := Tryd.underlying91
  a24 := Tryd.isAgg91
  z24 := Tryd.sizeOf91
  v24 := Tryd.zeroValue91
  i24 := by kernel_rfl
  t25 := Tryd.underlying92
  a25 := Tryd.isAgg92
  z25 := Tryd.sizeOf92
  v25 := Tryd.zeroValue92
  i25 := by kernel_rfl
  t34 := Tryd.underlying119
  a34 := Tryd.isAgg119
  z34 := Tryd.sizeOf119
  v34 := Tryd.zeroValue119
  i34 := by kernel_rfl
  c34 := by kernel_rfl
  t36 := Tryd.underlying121
  a36 := Tryd.isAgg121
  z36 := Tryd.sizeOf121
  v36 := Tryd.zeroValue121
  i36 := by kernel_rfl
  t37 := Tryd.underlying122
  a37 := Tryd.isAgg122
  z37 := Tryd.sizeOf122
  v37 := Tryd.zeroValue122
  i37 := by kernel_rfl
  t39 := Tryd.underlying123
  a39 := Tryd.isAgg123
  z39 := Tryd.sizeOf123
  v39 := Tryd.zeroValue123
  i39 := by kernel_rfl
  t44 := Tryd.underlying139
  a44 := Tryd.isAgg139
  z44 := Tryd.sizeOf139
  v44 := Tryd.zeroValue139
  i44 := by kernel_rfl
  t47 := Tryd.underlying145
  a47 := Tryd.isAgg145
  z47 := Tryd.sizeOf145
  v47 := Tryd.zeroValue145
  i47 := by kernel_rfl
  t48 := Tryd.underlying146
  a48 := Tryd.isAgg146
  z48 := Tryd.sizeOf146
  v48 := Tryd.zeroValue146
  i48 := by kernel_rfl
  t50 := Tryd.underlying148
  a50 := Tryd.isAgg148
  z50 := Tryd.sizeOf148
  v50 := Tryd.zeroValue148
  i50 := by kernel_rfl
  t52 := Tryd.underlying150
  a52 := Tryd.isAgg150
  z52 := Tryd.sizeOf150
  v52 := Tryd.zeroValue150
  i52 := by kernel_rfl
  t55 := Tryd.underlying153
  a55 := Tryd.isAgg153
  z55 := Tryd.sizeOf153
  v55 := Tryd.zeroValue153
  i55 := by kernel_rfl
  t59 := Tryd.underlying157
  a59 := Tryd.isAgg157
  z59 := Tryd.sizeOf157
  v59 := Tryd.zeroValue157
  i59 := by kernel_rfl
  t60 := Tryd.underlying116
  a60 := Tryd.isAgg116
  z60 := Tryd.sizeOf116
  v60 := Tryd.zeroValue116
  i60 := by kernel_rfl
  t61 := Tryd.underlying158
  a61 := Tryd.isAgg158
  z61 := Tryd.sizeOf158
  t65 := Tryd.underlying161
  a65 := Tryd.isAgg161
  z65 := Tryd.sizeOf161
  v65 := Tryd.zeroValue161
  i65 := by kernel_rfl
  t66 := Tryd.underlying162
  a66 := Tryd.isAgg162
  z66 := Tryd.sizeOf162
  v66 := Tryd.zeroValue162
  i66 := by kernel_rfl
  t67 := Tryd.underlying61
  a67 := Tryd.isAgg61
  z67 := Tryd.sizeOf61
  v67 := Tryd.zeroValue61
  i67 := by kernel_rfl
  g0 := by kernel_rfl
  m0 := by kernel_rfl
  g1 := by kernel_rfl
  m1 := by kernel_rfl
  g2 := by kernel_rfl
  m2 := by kernel_rfl
  g3 := by kernel_rfl
  m3 := by kernel_rfl
  g4 := by kernel_rfl
  m4 := by kernel_rfl }



theorem errCell {W : World} {G : Ghost} (hG : GOK C W G) {g : Nat} (hg : gt g = some [.iface 146 (.fptr [])]) : ∃ V, W.cell? ⟨g, 0, none⟩ = some (.iface 146 V) := by
  have h := hG g _ hg
  cases h with
  | fptr cells b o Vs h hv =>
    have h1 := (h 0 _ rfl).2
    have h2 := hv 0 _ rfl
    rw [Nat.add_zero] at h1
    generalize Vs 0 = V at *
    cases h2
    exact ⟨_, h1⟩
theorem tup2 {F : FTab} {w : World} {G : Ghost} {a b : AV} {A B : Value} (h1 : VR F w G a A) (h2 : VR F w G b B) : VR F w G (.tup [a, b]) (.tuple #[A, B]) := by
  refine .tup _ _ rfl fun j c V hc hV => ?_
  rcases j with _ | _ | j
  · simp at hc hV; subst hc hV; exact h1
  · simp at hc hV; subst hc hV; exact h2
  · simp at hc
/-- The number of a text. -/
def valX (w : List UInt8) : Int := match Go.Lib.parseUintB 64 w with
  | .ok u => u
  | .range => 18446744073709551615
  | _ => 0
/-- What strconv.ParseUint gives. -/
theorem num2OK (w : List UInt8) (H : AH) (Q : Post) (hw : w.length ≤ 1048576) (h1 : numX w = true → Q (.tup [.int .u64 (valX w), .nilif]) H) (h2 : numX w = false → ∀ T, Q (.tup [.int .u64 (valX w), .iface T .bot]) H) : ACall C K.strconv_ParseUint [.str w, .int .i64 10, .int .i64 64] H Q := by
  intro f hf G W Vs hG hrel hargs
  obtain rfl : f = 36 := by
    have : C.F K.strconv_ParseUint = some 36 := by kernel_rfl
    rw [this] at hf; exact (Option.some.inj hf).symm
  obtain ⟨hl, hv⟩ := hargs
  obtain ⟨Vl⟩ := Vs
  match Vl, hl with
  | [V0, V1, V2], _ =>
    have e0 := (hv 0 _ V0 rfl rfl).str_inv
    have e1 := (hv 1 _ V1 rfl rfl).int_inv
    have e2 := (hv 2 _ V2 rfl rfl).int_inv
    subst e0 e1 e2
    have hs : (⟨w.toArray⟩ : ByteArray).size ≤ 1048576 := by show w.toArray.size ≤ _; simpa using hw
    have hd : (⟨w.toArray⟩ : ByteArray).data.toList = w := by simp
    obtain ⟨VS, hS⟩ := errCell hG (g := 2) rfl
    obtain ⟨VT, hR⟩ := errCell hG (g := 3) rfl
    unfold valX numX at h1 h2
    cases hp : Go.Lib.parseUintB 64 w
    · rename_i u
      rw [hp] at h1
      refine (Any.strconv_ParseUint_10_at64_ok laysPu14 ⟨w.toArray⟩ (by omega) u (by rw [hd]; exact hp) W).mono fun e w' ⟨he, hw'⟩ => ?_
      have hbel : Below W.heap.size W w' := by
        rcases hw' with rfl | rfl
        · exact Below.refl _ _
        · exact Lib.bytesWorld_below _ _ _
      exact ⟨_, _, H, G, he, h1 rfl, tup2 (.int _ _) .nilif, rel_below hbel hrel, step_below hbel hrel⟩
    · rw [hp] at h2
      refine (Any.strconv_ParseUint_10_at64_syntax laysPu14 ⟨w.toArray⟩ (by omega) (by rw [hd]; exact hp) _ W hS (.inr ⟨_, _, rfl⟩)).mono fun e w' ⟨N, he, _, _, hbel⟩ => ?_
      exact ⟨_, _, H, G, he, h2 rfl _, tup2 (.int _ _) (.iface _ _ _ (.bot _)), rel_below hbel hrel, step_below hbel hrel⟩
    · rw [hp] at h2
      refine (Any.strconv_ParseUint_10_at64_range laysPu14 ⟨w.toArray⟩ (by omega) (by rw [hd]; exact hp) _ W hR (.inr ⟨_, _, rfl⟩)).mono fun e w' ⟨N, he, _, _, hbel⟩ => ?_
      exact ⟨_, _, H, G, he, h2 rfl _, tup2 (.int _ _) (.iface _ _ _ (.bot _)), rel_below hbel hrel, step_below hbel hrel⟩
theorem numOK : NumS (ACall C) numX := fun w H Q hw h1 h2 => num2OK w H Q hw (fun h => h1 h _) (fun h T => h2 h _ T)
theorem valOK : NumV (ACall C) valX := fun w H Q hw _ h => num2OK w H Q hw (fun _ => h _) (fun _ T => h _)
theorem idxOK : IdxS (ACall C) := by
  intro c H Q hQ
  refine indexByte sgn1 c.toNat H Q ?_
  have : ((c.toNat : Int)).toNat.toUInt8 = c := by
    rw [Int.toNat_natCast]
    apply UInt8.toNat_inj.1
    simp
  rw [this]
  exact hQ _ (indexByte_neg sgn1 c).2
end Go.Proofs.YtolodaoffkbefaaDoor.rb

/- Package parse: operators, orders, scalar types. -/
set_option linter.unusedVariables false
set_option linter.unusedSimpArgs false
set_option linter.unusedSectionVars false
namespace Rb
open Go

section
variable {Φ : Calls'} {H : AH} {Q : Post} {id : Nat} {s : PSt}
theorem aidx_strs {l : List (List UInt8)} {i : Nat} {w : List UInt8} (h : l[i]? = some w) : aidx l.length 1 false (.agg (l.map .str)) (.int .i64 i) = some (.str w) := by
  have hlt := (List.getElem?_eq_some_iff.1 h).1
  simp only [aidx]
  rw [if_pos (by omega)]
  unfold takeCells
  rw [if_pos (by rw [List.length_map]; omega)]
  simp [List.getElem?_map, h]
theorem p_operator (hT : Cl Φ S.tab_Lex) {w : List UInt8} (hQ : Q (.int .i64 (operM w)) H) : Φ K.parse_operator [.str w] H Q := by
  refine S.cl_parse_operator hT ?_
  unfold S.parse_operator
  rw [show abuild _ _ = some (.agg (operL.map .str)) from rfl]
  simp only [Do_of]
  have main : ∀ (ys : List (List UInt8)) (i : Nat), operL.drop i = ys → Q (.int .i64 (match ys.findIdx? (· == w) with | some j => (j : Int) + i + 1 | none => 0)) H → LoopP (S.parse_operator_l1 Φ (.str w) (.agg (operL.map .str)) Q) ([.int .i64 i], H) := by
    intro ys
    induction ys with
    | nil =>
      intro i hi hq
      have hle : operL.length ≤ i := drop_nil_le hi
      refine LoopP.step ?_
      simp only [S.parse_operator_l1, sl_zero, abin_lss, Do_of, Gd_true]
      rw [if_neg (by simp only [decide_eq_true_eq]; have : operL.length = 11 := rfl; omega)]
      simpa using hq
    | cons y ys ih =>
      intro i hi hq
      obtain ⟨hlt, hy, hd⟩ := drop_cons_lt hi
      have h11 : operL.length = 11 := rfl
      refine LoopP.step ?_
      simp only [S.parse_operator_l1, sl_zero, abin_lss, Do_of, Gd_true]
      rw [if_pos (by simp only [decide_eq_true_eq]; omega)]
      have hx : aidx 11 1 false (.agg (operL.map .str)) (.int .i64 i) = some (.str y) := aidx_strs hy
      rw [hx]
      simp only [Do_of, str_eql, abin_add]
      rw [wrap_i64 (by omega) (by omega)]
      rw [List.findIdx?_cons] at hq
      refine ite_both (fun h => ?_) (fun h => ?_)
      · rw [if_pos h] at hq
        simpa using hq
      · rw [if_neg h] at hq
        rw [show ((i : Int) + 1) = ((i + 1 : Nat) : Int) by simp]
        refine ih (i + 1) hd ?_
        cases hf : List.findIdx? (· == w) ys with
        | none => rw [hf] at hq; exact hq
        | some j =>
          rw [hf] at hq
          simp only [Option.map_some] at hq ⊢
          rw [show ((j : Int) + ((i + 1 : Nat) : Int) + 1) = (((j + 1 : Nat) : Int) + i + 1) by omega]
          exact hq
  refine main operL 0 rfl ?_
  unfold operM at hQ
  cases hf : List.findIdx? (· == w) operL with
  | none => rw [hf] at hQ; exact hQ
  | some j => rw [hf] at hQ; simpa using hQ

def ordL : List (List UInt8) := [[114, 108, 120], [97, 99, 113], [114, 101, 108], [115, 99]]
theorem ord_step (hT : Cl Φ S.tab_Lex) {i : Nat} {w : List UInt8} (hi : ordL[i]? = some w) (h : PS H id s) (yes : s.isW w = true → ∀ H', KeepP id H H' → PS H' id s.adv → Q (.int .i64 ((i : Int) + 1)) H')
    (no : s.isW w = false → ∀ H', KeepP id H H' → PS H' id s → LoopP (S.parse_parser_order_l2 Φ (.ptr id 0) (.agg (ordL.map .str)) Q) ([.int .i64 ((i + 1 : Nat) : Int)], H')) :
    LoopP (S.parse_parser_order_l2 Φ (.ptr id 0) (.agg (ordL.map .str)) Q) ([.int .i64 i], H) := by
  have hlt : i < 4 := (List.getElem?_eq_some_iff.1 hi).1
  refine LoopP.step ?_
  simp only [S.parse_parser_order_l2, sl_zero, abin_lss, Do_of, Gd_true]
  rw [if_pos (by simp only [decide_eq_true_eq]; omega)]
  have hx : aidx 4 1 false (.agg (ordL.map .str)) (.int .i64 i) = some (.str w) := aidx_strs hi
  rw [hx]
  simp only [Do_of]
  refine p_is hT h fun H1 k p => ?_
  simp only [Gd_true, abin_add, Do_of]
  rw [wrap_i64 (by omega) (by omega)]
  refine ite_both (fun hy => ?_) (fun hy => ?_)
  · have e : s.isA w = s.adv := by unfold PSt.isA; rw [if_pos hy]
    rw [e] at p
    exact yes hy H1 k p
  · have e : s.isA w = s := by unfold PSt.isA; rw [if_neg hy]
    rw [e] at p
    have := no (by simpa using hy) H1 k p
    rw [show ((i : Int) + 1) = ((i + 1 : Nat) : Int) by simp]
    exact this
theorem p_order (hT : Cl Φ S.tab_Lex) (h : PS H id s) (hQ : ∀ H', KeepP id H H' → PS H' id (orderM s).2 → Q (.int .i64 (orderM s).1) H') : Φ K.parse_parser_order [.ptr id 0] H Q := by
  refine S.cl_parse_parser_order hT ?_
  unfold S.parse_parser_order
  rw [show abuild _ _ = some (.agg (ordL.map .str)) from rfl]
  simp only [Do_of]
  refine ord_step hT (i := 0) rfl h (fun hy H1 k1 p1 => ?_) fun n1 H1 k1 p1 => ?_
  · have e : orderM s = (1, s.adv) := by unfold orderM; rw [if_pos hy]
    rw [e] at hQ; exact hQ H1 k1 p1
  refine ord_step hT (i := 1) rfl p1 (fun hy H2 k2 p2 => ?_) fun n2 H2 k2 p2 => ?_
  · have e : orderM s = (2, s.adv) := by unfold orderM; rw [n1, if_neg (by decide), if_pos hy]
    rw [e] at hQ; exact hQ H2 (k1.trans k2) p2
  refine ord_step hT (i := 2) rfl p2 (fun hy H3 k3 p3 => ?_) fun n3 H3 k3 p3 => ?_
  · have e : orderM s = (3, s.adv) := by unfold orderM; rw [n1, n2, if_neg (by decide), if_neg (by decide), if_pos hy]
    rw [e] at hQ; exact hQ H3 ((k1.trans k2).trans k3) p3
  refine ord_step hT (i := 3) rfl p3 (fun hy H4 k4 p4 => ?_) fun n4 H4 k4 p4 => ?_
  · have e : orderM s = (4, s.adv) := by unfold orderM; rw [n1, n2, n3, if_neg (by decide), if_neg (by decide), if_neg (by decide), if_pos hy]
    rw [e] at hQ; exact hQ H4 (((k1.trans k2).trans k3).trans k4) p4
  have e : orderM s = (0, s.fail 4) := by unfold orderM; rw [n1, n2, n3, n4, if_neg (by decide), if_neg (by decide), if_neg (by decide), if_neg (by decide)]
  rw [e] at hQ
  refine LoopP.step ?_
  simp only [S.parse_parser_order_l2, sl_zero, abin_lss, Do_of, Gd_true]
  rw [if_neg (by decide)]
  simp only [JoinP_def, S.parse_parser_order_k1]
  exact p_fail hT p4 fun H5 k5 p5 => hQ H5 ((((k1.trans k2).trans k3).trans k4).trans k5) p5
end
end Rb

/- Package parse: scalar types. -/
set_option linter.unusedVariables false
set_option linter.unusedSimpArgs false
set_option linter.unusedSectionVars false
namespace Rb
open Go

/-- The memory only grew. -/
def Grow (H H' : AH) : Prop := H.n ≤ H'.n ∧ ∀ i o, At H i o → At H' i o
theorem Grow.push (H : AH) (x : AObj) : Grow H (H.push x) := ⟨Nat.le_succ _, fun i o h => h.push x⟩
theorem Grow.keep {H H' : AH} (h : Grow H H') (id : Nat) : KeepP id H H' := ⟨h.1, fun i o _ ho => h.2 i o ho⟩
theorem Grow.ps {H H' : AH} (h : Grow H H') {id : Nat} {s : PSt} (p : PS H id s) : PS H' id s := ⟨p.1, p.2.1, p.2.2.imp fun _ a => h.2 _ _ a⟩
def scalarT (w : List UInt8) : GType := match scalarM w with
  | some p => ⟨p.1, p.2, false, [], 0, []⟩
  | none => tyZ

section
variable {Φ : Calls'} {H : AH} {Q : Post} {id : Nat} {s : PSt}
theorem strs_addr {l : List (List UInt8)} {tk : Tok} {i : Nat} (hi : i < l.length) : aiaddr none 1 (.lst tk l.length (l.map .str)) (.int .i64 i) = some (.fptr ((l.map AV.str).drop i)) := by
  simp only [aiaddr]
  rw [if_pos ⟨by omega, by omega⟩]
  simp
theorem strs_load {l : List (List UInt8)} {i : Nat} {w : List UInt8} (h : l[i]? = some w) (H : AH) : aload H 1 false (.fptr ((l.map AV.str).drop i)) = some (.str w) := by
  have hlt := (List.getElem?_eq_some_iff.1 h).1
  show takeCells ((l.map AV.str).drop i) 0 1 false = _
  unfold takeCells
  rw [if_pos (by rw [List.length_drop, List.length_map]; omega)]
  simp [List.getElem?_drop, List.getElem?_map, h]
theorem p_scalar (hT : Cl Φ S.tab_Lex) (hW : Wk Φ) {w : List UInt8} (hQ : ∀ H', Grow H H' → Q (.tup [.agg (scalarT w).cells, .bool (scalarM w).isSome]) H') : Φ K.parse_scalar [.str w] H Q := by
  refine hW _ _ _ _ (S.cl_parse_scalar hT ?_)
  unfold S.parse_scalar
  simp only [abox, if_true, DoH_some]
  rw [show abslice (H.push (.row [.int .i64 0, .int .i64 0, .bool false, .lst .nil 0 [], .int .i64 0, .lst .nil 0 []])) false 1 4 [.str []] _ = some (.lst .full scL0.length (scL0.map .str), _) from rfl]
  simp only [DoH_some]
  rw [show abslice (H.push (.row [.int .i64 0, .int .i64 0, .bool false, .lst .nil 0 [], .int .i64 0, .lst .nil 0 []])) false 1 5 [.str []] _ = some (.lst .full scL1.length (scL1.map .str), _) from rfl]
  simp only [DoH_some]
  rw [show abuild [.lst .nil 0 [], .lst .nil 0 []] _ = some (.agg [.lst .full scL0.length (scL0.map .str), .lst .full scL1.length (scL1.map .str)]) from rfl]
  simp only [Do_of]
  have yes : ∀ (k m : Nat), m < 5 → k < 2 → scalarM w = some ((k : Int) + 1, 2 ^ m) → Q (.tup [.agg (AV.weaks [.int .i64 ((k : Int) + 1), .int .i64 (2 ^ m), .bool false, .lst .nil 0 [], .int .i64 0, .lst .nil 0 []]), .bool true]) (H.push (.row [.int .i64 ((k : Int) + 1), .int .i64 (2 ^ m), .bool false, .lst .nil 0 [], .int .i64 0, .lst .nil 0 []])) := by
    intro k m hm hk he
    have := hQ _ (Grow.push H (.row [.int .i64 ((k : Int) + 1), .int .i64 (2 ^ m), .bool false, .lst .nil 0 [], .int .i64 0, .lst .nil 0 []]))
    unfold scalarT at this
    rw [he] at this
    exact this
  have no : scalarM w = none → JoinP (S.parse_scalar_k3 Φ (.ptr H.n 0) fun v H' => Q v.weak H') [] (H.push (.row [.int .i64 0, .int .i64 0, .bool false, .lst .nil 0 [], .int .i64 0, .lst .nil 0 []])) := by
    intro he
    simp only [JoinP_def, S.parse_scalar_k3]
    rw [show abuild _ [] = some (.agg [.int .i64 0, .int .i64 0, .bool false, .lst .nil 0 [], .int .i64 0, .lst .nil 0 []]) from rfl]
    simp only [Do_of]
    rw [store_new H _ _ 6 rfl rfl rfl]
    simp only [Do_of, load_push]
    rw [takeCells_whole (n := 6) rfl]
    simp only [Do_of]
    have := hQ _ (Grow.push H (.row [.int .i64 0, .int .i64 0, .bool false, .lst .nil 0 [], .int .i64 0, .lst .nil 0 []]))
    unfold scalarT at this
    rw [he] at this
    exact this
  have inner : ∀ (L : List (List UInt8)) (k : Nat) (s10 : List AV × AH) (L11 : List AV × AH → Prop), L.length ≤ 5 → k < 2 → sl s10.1 0 = .int .i64 k →
      (∀ m, m < 5 → L.findIdx? (· == w) = some m → scalarM w = some ((k : Int) + 1, 2 ^ m)) →
      (L.findIdx? (· == w) = none → L11 ([.int .i64 ((k + 1 : Nat) : Int)], H.push (.row [.int .i64 0, .int .i64 0, .bool false, .lst .nil 0 [], .int .i64 0, .lst .nil 0 []]))) →
      LoopP (S.parse_scalar_l2 Φ (.str w) (.ptr H.n 0) (.lst .full L.length (L.map .str)) (.int .i64 L.length) s10 L11 fun v H' => Q v.weak H') ([.int .i64 0], H.push (.row [.int .i64 0, .int .i64 0, .bool false, .lst .nil 0 [], .int .i64 0, .lst .nil 0 []])) := by
    intro L k s10 L11 hL hk hs hyes hno
    have main : ∀ (ys : List (List UInt8)) (j : Nat), L.drop j = ys → (∀ m, ys.findIdx? (· == w) = some m → L.findIdx? (· == w) = some (m + j)) → (ys.findIdx? (· == w) = none → L.findIdx? (· == w) = none) →
        LoopP (S.parse_scalar_l2 Φ (.str w) (.ptr H.n 0) (.lst .full L.length (L.map .str)) (.int .i64 L.length) s10 L11 fun v H' => Q v.weak H') ([.int .i64 j], H.push (.row [.int .i64 0, .int .i64 0, .bool false, .lst .nil 0 [], .int .i64 0, .lst .nil 0 []])) := by
      intro ys
      induction ys with
      | nil =>
        intro j hj h1 h2
        have hle := drop_nil_le hj
        refine LoopP.step ?_
        simp only [S.parse_scalar_l2, sl_zero, abin_lss, Do_of, Gd_true]
        rw [if_neg (by simp only [decide_eq_true_eq]; omega)]
        simp only [JoinP_def, S.parse_scalar_k1, hs, abin_add, Do_of]
        rw [wrap_i64 (by omega) (by omega), show ((k : Int) + 1) = ((k + 1 : Nat) : Int) by simp]
        exact hno (h2 rfl)
      | cons y ys ih =>
        intro j hj h1 h2
        obtain ⟨hlt, hy, hd⟩ := drop_cons_lt hj
        refine LoopP.step ?_
        simp only [S.parse_scalar_l2, sl_zero, abin_lss, Do_of, Gd_true]
        rw [if_pos (by simp only [decide_eq_true_eq]; omega), strs_addr hlt]
        simp only [Do_of]
        rw [strs_load hy]
        simp only [Do_of, str_eql, hs, abin_add]
        rw [wrap_i64 (by omega) (by omega), wrap_i64 (by omega) (by omega)]
        rw [List.findIdx?_cons] at h1 h2
        refine ite_both (fun h => ?_) (fun h => ?_)
        · have hm := h1 0 (by rw [if_pos h])
          rw [Nat.zero_add] at hm
          rw [abin_shl _ _ _ _ (by omega)]
          have e2 : IntKind.wrap .i64 (1 * 2 ^ min ((j : Int)).toNat (IntKind.bits .i64)) = 2 ^ j := by
            have h5 : j = 0 ∨ j = 1 ∨ j = 2 ∨ j = 3 ∨ j = 4 := by omega
            rcases h5 with rfl | rfl | rfl | rfl | rfl <;> rfl
          rw [e2]
          simp only [Do_of]
          rw [show abuild _ _ = some (.agg [.int .i64 ((k : Int) + 1), .int .i64 (2 ^ j), .bool false, .lst .nil 0 [], .int .i64 0, .lst .nil 0 []]) from rfl]
          simp only [Do_of]
          rw [store_new H _ _ 6 rfl rfl rfl]
          simp only [Do_of, load_push]
          rw [takeCells_whole (n := 6) rfl]
          simp only [Do_of]
          exact yes k j (by omega) hk (hyes j (by omega) hm)
        · rw [if_neg h] at h1 h2
          rw [show ((j : Int) + 1) = ((j + 1 : Nat) : Int) by simp]
          refine ih (j + 1) hd (fun m hm => ?_) fun hn => h2 (by rw [hn]; rfl)
          have := h1 (m + 1) (by rw [hm]; rfl)
          rw [this]; congr 1; omega
    exact main L 0 rfl (fun m h => h) fun h => h
  refine LoopP.step ?_
  simp only [S.parse_scalar_l4, sl_zero, abin_lss, Do_of, Gd_true]
  rw [if_pos (by decide)]
  rw [show aidx 2 1 false (.agg [.lst .full scL0.length (scL0.map .str), .lst .full scL1.length (scL1.map .str)]) (.int .i64 0) = some (.lst .full scL0.length (scL0.map .str)) from rfl]
  simp only [Do_of, alen_lst]
  refine inner scL0 0 _ _ (by decide) (by decide) rfl (fun m hm h => ?_) fun h0 => ?_
  · unfold scalarM; rw [h]; rfl
  refine LoopP.step ?_
  simp only [S.parse_scalar_l4, sl_zero, abin_lss, Do_of, Gd_true]
  rw [if_pos (by decide)]
  rw [show aidx 2 1 false (.agg [.lst .full scL0.length (scL0.map .str), .lst .full scL1.length (scL1.map .str)]) (.int .i64 ((0 + 1 : Nat) : Int)) = some (.lst .full scL1.length (scL1.map .str)) from rfl]
  simp only [Do_of, alen_lst]
  refine inner scL1 1 _ _ (by decide) (by decide) rfl (fun m hm h => ?_) fun h1 => ?_
  · unfold scalarM; rw [h0, h]; rfl
  refine LoopP.step ?_
  simp only [S.parse_scalar_l4, sl_zero, abin_lss, Do_of, Gd_true]
  rw [if_neg (by decide)]
  exact no (by unfold scalarM; rw [h0, h1])
end
end Rb

/- Package parse: what is read gets fewer words, and a fault stays. -/
set_option linter.unusedVariables false
set_option linter.unusedSimpArgs false
set_option linter.unusedSectionVars false
namespace Rb
open Go

def Sub (s s' : PSt) : Prop := (Wf s → Wf s') ∧ s'.toks.length ≤ s.toks.length ∧ (s.fk ≠ 0 → s'.fk ≠ 0)
theorem Sub.rfl (s : PSt) : Sub s s := ⟨id, Nat.le_refl _, id⟩
theorem Sub.trans {a b c : PSt} (h : Sub a b) (k : Sub b c) : Sub a c := ⟨fun w => k.1 (h.1 w), Nat.le_trans k.2.1 h.2.1, fun x => k.2.2 (h.2.2 x)⟩
theorem Sub.few {a b : PSt} (h : Sub a b) {n : Nat} (f : Few n a) : Few n b := f.imp h.2.2 fun l => Nat.le_trans h.2.1 l
theorem Sub.adv (s : PSt) : Sub s s.adv := ⟨Wf.adv, PSt.adv_len s, fun h => by rw [PSt.adv_fk]; exact h⟩
theorem Sub.fail (s : PSt) (e : Int) : Sub s (s.fail e) := ⟨fun h => h.fail e, by rw [PSt.fail_toks]; exact Nat.le_refl _, fun h => by unfold PSt.fail; rw [if_neg h]; exact h⟩
theorem Sub.isA (s : PSt) (w : List UInt8) : Sub s (s.isA w) := by
  unfold PSt.isA; split
  · exact Sub.adv s
  · exact Sub.rfl s
theorem Sub.want (s : PSt) (w : List UInt8) : Sub s (s.want w) := by
  unfold PSt.want; split
  · exact Sub.rfl s
  · split
    · exact Sub.adv s
    · exact Sub.fail s 4
theorem Sub.deep (s : PSt) (d : Int) : Sub s (s.deep d) := by
  unfold PSt.deep; split
  · exact Sub.fail s 5
  · exact Sub.rfl s
theorem Sub.order (s : PSt) : Sub s (orderM s).2 := by
  unfold orderM
  repeat' split
  all_goals first | exact Sub.adv s | exact Sub.fail s 4
section
variable (kw : List UInt8 → Bool) (val : List UInt8 → Int)
theorem Sub.nameS (s : PSt) : Sub s (s.nameS kw) := by
  unfold PSt.nameS; split
  · exact Sub.adv s
  · exact Sub.fail s 4
theorem Sub.num (s : PSt) (most : Int) : Sub s (s.num val most).2 := by
  unfold PSt.num; split
  · exact Sub.fail s 4
  · split
    · exact Sub.fail s 9
    · exact Sub.adv s
theorem Sub.field {ty : Int → PSt → GType × PSt} (h : ∀ d s, Sub s (ty d s).2) (d : Int) (s : PSt) : Sub s (fieldM kw val ty d s).2 := by
  have h1 : Sub s (if s.isW [95] = true then s.isA [95] else (s.isA [95]).nameS kw) := by
    split
    · exact Sub.isA _ _
    · exact (Sub.isA _ _).trans (Sub.nameS kw _)
  unfold fieldM
  dsimp only
  revert h1
  generalize (if s.isW [95] = true then s.isA [95] else (s.isA [95]).nameS kw) = s1
  generalize (if s.isW [95] = true then ([] : List UInt8) else (s.isA [95]).nameT kw) = nm
  intro h1
  split
  · exact (((h1.trans (h _ _)).trans (Sub.want _ _)).trans (Sub.num val _ _)).trans (Sub.want _ _)
  · exact (h1.trans (h _ _)).trans (Sub.want _ _)
theorem Sub.typs : ∀ n : Nat, (∀ d s, Sub s (typM kw val n d s).2) ∧ ∀ d s, Sub s (fldsM kw val n d s).2 := by
  intro n
  induction n with
  | zero => exact ⟨fun d s => by unfold typM; exact Sub.rfl s, fun d s => by unfold fldsM; exact Sub.rfl s⟩
  | succ n ih =>
    refine ⟨fun d s => ?_, fun d s => ?_⟩
    · unfold typM
      dsimp only
      split
      · exact Sub.deep _ _
      · split
        · exact (Sub.deep _ _).trans (Sub.adv _)
        · split
          · exact (Sub.deep _ _).trans (Sub.fail _ _)
          · split
            · exact ((((Sub.deep _ _).trans (Sub.adv _)).trans (Sub.num val _ _)).trans (Sub.want _ _)).trans (ih.1 _ _)
            · exact ((((Sub.deep _ _).trans (Sub.adv _)).trans (Sub.isA _ _)).trans (Sub.want _ _)).trans (ih.2 _ _)
    · unfold fldsM
      split
      · exact Sub.rfl s
      · split
        · exact Sub.adv s
        · exact (Sub.field kw val ih.1 d s).trans (ih.2 _ _)
theorem Sub.typ (n : Nat) (d : Int) (s : PSt) : Sub s (typM kw val n d s).2 := (Sub.typs kw val n).1 d s
theorem Sub.flds (n : Nat) (d : Int) (s : PSt) : Sub s (fldsM kw val n d s).2 := (Sub.typs kw val n).2 d s
theorem Sub.bin {ex : Int → PSt → GExpr × PSt} (h : ∀ d s, Sub s (ex d s).2) (d : Int) (s : PSt) : Sub s (binM ex d s).2 := by
  unfold binM
  dsimp only
  have h3 : Sub s (if (ex (x64 (d + 1)) s).2.fk = 0 ∧ operM (ex (x64 (d + 1)) s).2.hd.1 = 0 then (ex (x64 (d + 1)) s).2.fail 4 else (ex (x64 (d + 1)) s).2) := by
    split
    · exact (h _ _).trans (Sub.fail _ _)
    · exact h _ _
  refine (Sub.trans ?_ (h _ _)).trans (Sub.want _ _)
  revert h3
  generalize (if (ex (x64 (d + 1)) s).2.fk = 0 ∧ operM (ex (x64 (d + 1)) s).2.hd.1 = 0 then (ex (x64 (d + 1)) s).2.fail 4 else (ex (x64 (d + 1)) s).2) = s3
  intro h3
  split
  · exact h3.trans (Sub.adv _)
  · exact h3
theorem Sub.kids {ex : Int → PSt → GExpr × PSt} (h : ∀ d s, Sub s (ex d s).2) (d : Int) : ∀ (k : Nat) (s : PSt), Sub s (kidsM ex d k s).2
  | 0, s => Sub.rfl s
  | k + 1, s => (h _ _).trans (Sub.kids h d k _)
theorem Sub.place {pa : Int → PSt → List GPart × PSt} (h : ∀ d s, Sub s (pa d s).2) (d : Int) (s : PSt) : Sub s (placeM' kw pa d s).2 := (Sub.nameS kw s).trans (h _ _)
theorem Sub.acc {ex : Int → PSt → GExpr × PSt} {pa : Int → PSt → List GPart × PSt} (h : ∀ d s, Sub s (ex d s).2) (k : ∀ d s, Sub s (pa d s).2) (kind : Int) (m : Nat) (d : Int) (s : PSt) : Sub s (accM kw ex pa kind m d s).2 := by
  unfold accM
  dsimp only
  refine (Sub.trans ?_ (Sub.place kw k _ _)).trans (Sub.kids h _ _ _)
  split
  · exact Sub.rfl s
  · exact Sub.order s
theorem Sub.exprs : ∀ n : Nat, (∀ d s, Sub s (exprM kw val n d s).2) ∧ ∀ d s, Sub s (partsM kw val n d s).2 := by
  intro n
  induction n with
  | zero => exact ⟨fun d s => by unfold exprM; exact Sub.rfl s, fun d s => by unfold partsM; exact Sub.rfl s⟩
  | succ n ih =>
    refine ⟨fun d s => ?_, fun d s => ?_⟩
    · unfold exprM
      dsimp only
      refine (Sub.deep s d).trans ?_
      repeat' split
      all_goals first | exact Sub.rfl _ | exact Sub.num val _ _ | exact Sub.adv _ | exact Sub.fail _ _ | exact (Sub.adv _).trans (Sub.bin ih.1 _ _) | exact (Sub.adv _).trans (Sub.acc kw ih.1 ih.2 _ _ _ _)
    · unfold partsM
      dsimp only
      repeat' split
      all_goals first | exact Sub.rfl _ | exact ((Sub.adv _).trans (Sub.nameS kw _)).trans (ih.2 _ _) | exact (((Sub.adv _).trans (ih.1 _ _)).trans (Sub.want _ _)).trans (ih.2 _ _)
theorem Sub.expr (n : Nat) (d : Int) (s : PSt) : Sub s (exprM kw val n d s).2 := (Sub.exprs kw val n).1 d s
theorem Sub.parts (n : Nat) (d : Int) (s : PSt) : Sub s (partsM kw val n d s).2 := (Sub.exprs kw val n).2 d s
end
end Rb

/- Package parse: fields, types. -/
set_option linter.unusedVariables false
set_option linter.unusedSimpArgs false
set_option linter.unusedSectionVars false
namespace Rb
open Go

theorem At.st {H : AH} {i : Nat} {cs : List AV} (h : At H i (.row cs)) {n o : Nat} {v : AV} (hk : v.known = true) (hl : v.cells.length = n) (hs : v.cells.all AV.scalar = true) (ho : o + n ≤ cs.length) : astore H n (.ptr i o) v = some (H.set i (.row (setCells cs o v.cells))) := by
  rw [h.store, if_pos ⟨hk, hl, hs, ho⟩]
def TypOK (Φ : Calls') (kw : List UInt8 → Bool) (val : List UInt8 → Int) (n : Nat) : Prop :=
  ∀ (H : AH) (Q : Post) (id : Nat) (s : PSt) (d : Int), PS H id s → Wf s → Few n s → (∀ H', KeepP id H H' → PS H' id (typM kw val n d s).2 → Q (.agg (typM kw val n d s).1.cells) H') → Φ K.parse_parser_typ [.ptr id 0, .int .i64 d] H Q

section
variable {Φ : Calls'} {H : AH} {Q : Post} {id : Nat} {s : PSt} {kw : List UInt8 → Bool} {val : List UInt8 → Int}
theorem lt_of_ps (h : PS H id s) : id < H.n := by obtain ⟨_, _, _, h⟩ := h; exact h.1
theorem p_field (hT : Cl Φ S.tab_Lex) (hW : Wk Φ) (hkw : ∀ x, Val Φ K.lex_Keyword [.str x] (.bool (kw x))) (hv : NumV Φ val) {n : Nat} (hty : TypOK Φ kw val n) {d : Int} (h : PS H id s) (hw : Wf s) (hf : Few (n + 1) s)
    (hQ : ∀ H', KeepP id H H' → PS H' id (fieldM kw val (fun d s => typM kw val n d s) d s).2 → Q (.agg (fieldM kw val (fun d s => typM kw val n d s) d s).1.cells) H') : Φ K.parse_parser_field [.ptr id 0, .int .i64 d] H Q := by
  refine hW _ _ _ _ (S.cl_parse_parser_field hT ?_)
  unfold S.parse_parser_field
  have hid := lt_of_ps h
  simp only [abox, if_true, DoH_some, AH.push_n]
  have zs : ∃ z : List AV, z = [.str [], .int .i64 0, .int .i64 0, .bool false, .lst .nil 0 [], .int .i64 0, .lst .nil 0 [], .bool false, .int .i64 0] := ⟨_, rfl⟩
  obtain ⟨z, hz⟩ := zs
  rw [← hz]
  have p2 : PS ((H.push (.row z)).push (.row z)) id s := (h.pushL _).pushL _
  have kk : KeepP id H ((H.push (.row z)).push (.row z)) := (KeepP.push id H _).pushL _
  have a3 : At ((H.push (.row z)).push (.row z)) (H.n + 1) (.row z) := At.new (H.push (.row z)) _
  have a1 : At ((H.push (.row z)).push (.row z)) H.n (.row z) := (At.new H _).push _
  refine p_is hT p2 fun H6 k6 p6 => ?_
  simp only [aun_not, Do_of, Gd_true]
  -- the rest, once the name is read
  have k3 : ∀ (nm : List UInt8) (s1 : PSt) (H8 : AH), nm = (if s.isW [95] = true then [] else (s.isA [95]).nameT kw) → s1 = (if s.isW [95] = true then s.isA [95] else (s.isA [95]).nameS kw) → KeepP id H H8 → PS H8 id s1 →
      At H8 H.n (.row z) → At H8 (H.n + 1) (.row (.str nm :: [.int .i64 0, .int .i64 0, .bool false, .lst .nil 0 [], .int .i64 0, .lst .nil 0 [], .bool false, .int .i64 0])) → Wf s1 → Few n s1 →
      JoinP (S.parse_parser_field_k3 Φ (.ptr id 0) (.int .i64 d) (.ptr H.n 0) (.ptr (H.n + 1) 0) (.bool (s.isW [95])) fun v H' => Q v.weak H') [] H8 := by
    intro nm s1 H8 en es k8 p8 b1 b3 w1 f1
    simp only [JoinP_def, S.parse_parser_field_k3, abin_add, Do_of]
    refine hty _ _ _ _ _ p8 w1 f1 fun H16 k16 p16 => ?_
    have c1 := k16.2 _ _ (by omega) b1
    have c3 := k16.2 _ _ (by omega) b3
    have w2 := (Sub.typ kw val n (x64 (d + 1)) s1).1 w1
    generalize et : typM kw val n (x64 (d + 1)) s1 = t at p16 w2
    have ef : fieldM kw val (fun d s => typM kw val n d s) d s = (if s.isW [95] = true ∨ t.2.hd.1 = [58] then (⟨nm, t.1, true, x64 ((t.2.want [58]).num val 1073741824).1⟩, ((t.2.want [58]).num val 1073741824).2.want [59]) else (⟨nm, t.1, false, 0⟩, t.2.want [59])) := by
      unfold fieldM
      dsimp only
      rw [← es, ← en, et]
    rw [ef] at hQ
    have k0 := k8.trans k16
    simp only [afaddr, Do_of, Nat.zero_add]
    rw [c3.store, if_pos ⟨rfl, GType.len _, GType.scalar _, (by simp)⟩]
    simp only [Do_of, AV.cells]
    have er : setCells (.str nm :: [.int .i64 0, .int .i64 0, .bool false, .lst .nil 0 [], .int .i64 0, .lst .nil 0 [], .bool false, .int .i64 0]) 1 t.1.cells = .str nm :: (t.1.cells ++ [.bool false, .int .i64 0]) := by
      rw [GType.cells_eq]; rfl
    rw [er]
    have p18 := p16.setL (by omega) (i := H.n + 1) (.row (.str nm :: (t.1.cells ++ [.bool false, .int .i64 0])))
    have d3 := c3.set (.row (.str nm :: (t.1.cells ++ [.bool false, .int .i64 0])))
    have d1 := c1.set_ne (i := H.n + 1) (by omega) (.row (.str nm :: (t.1.cells ++ [.bool false, .int .i64 0])))
    have k18 := k0.setL (i := H.n + 1) (by omega) (.row (.str nm :: (t.1.cells ++ [.bool false, .int .i64 0])))
    generalize H16.set (H.n + 1) (.row (.str nm :: (t.1.cells ++ [.bool false, .int .i64 0]))) = H18 at p18 d3 d1 k18
    have k1 : ∀ (f : GField) (s3 : PSt) (H20 : AH), KeepP id H H20 → PS H20 id s3 → At H20 H.n (.row z) → At H20 (H.n + 1) (.row f.cells) → (∀ H', KeepP id H H' → PS H' id (s3.want [59]) → Q (.agg f.cells) H') →
        JoinP (S.parse_parser_field_k1 Φ (.ptr id 0) (.ptr H.n 0) (.ptr (H.n + 1) 0) fun v H' => Q v.weak H') [] H20 := by
      intro f s3 H20 k20 p20 e1 e3 hq
      simp only [JoinP_def, S.parse_parser_field_k1]
      refine p_want hT p20 fun H36 k36 p36 => ?_
      have g1 := k36.2 _ _ (by omega) e1
      have g3 := k36.2 _ _ (by omega) e3
      rw [g3.load, takeCells_whole (GField.len f)]
      simp only [Do_of]
      rw [g1.store, if_pos ⟨rfl, GField.len f, GField.scalar f, (by rw [hz]; simp)⟩]
      simp only [Do_of, AV.cells]
      rw [setCells_all (by rw [GField.len, hz]; rfl)]
      rw [(g1.set _).load]
      simp only [List.take_zero, List.nil_append]
      rw [takeCells_whole (GField.len f)]
      simp only [Do_of, AV.weak]
      rw [GField.weaks]
      exact hq _ ((k20.trans k36).setL (Nat.le_refl _) _) (p36.setL (by omega) _)
    have k2 : ∀ b : Bool, (b = true ↔ (s.isW [95] = true ∨ t.2.hd.1 = [58])) → JoinP (S.parse_parser_field_k2 Φ (.ptr id 0) (.ptr H.n 0) (.ptr (H.n + 1) 0) fun v H' => Q v.weak H') [.bool b] H18 := by
      intro b hb
      simp only [JoinP_def, S.parse_parser_field_k2, sl_zero, Gd_true]
      refine ite_both (fun hx => ?_) (fun hx => ?_)
      · rw [if_pos (hb.1 hx)] at hQ
        refine p_want hT p18 fun H27 k27 p27 => ?_
        have g1 := k27.2 _ _ (by omega) d1
        have g3 := k27.2 _ _ (by omega) d3
        simp only [afaddr, Do_of, Nat.zero_add]
        rw [g3.store, if_pos ⟨rfl, rfl, rfl, (by simp [GType.len])⟩]
        simp only [Do_of, AV.cells]
        have er2 : setCells (.str nm :: (t.1.cells ++ [.bool false, .int .i64 0])) 7 [.bool true] = .str nm :: (t.1.cells ++ [.bool true, .int .i64 0]) := by
          rw [GType.cells_eq]; rfl
        rw [er2]
        refine p_num hT hv (p27.setL (by omega) _) ((Sub.want _ _).1 w2) fun H31 k31 p31 => ?_
        have g3' := k31.2 _ _ (by omega) (g3.set (.row (.str nm :: (t.1.cells ++ [.bool true, .int .i64 0]))))
        have g1' := k31.2 _ _ (by omega) (g1.set_ne (i := H.n + 1) (by omega) (.row (.str nm :: (t.1.cells ++ [.bool true, .int .i64 0]))))
        simp only [aconv_int, Do_of]
        rw [g3'.store, if_pos ⟨rfl, rfl, rfl, (by simp [GType.len])⟩]
        simp only [Do_of, AV.cells]
        have er3 : setCells (.str nm :: (t.1.cells ++ [.bool true, .int .i64 0])) 8 [.int .i64 (x64 ((t.2.want [58]).num val 1073741824).1)] = (GField.cells ⟨nm, t.1, true, x64 ((t.2.want [58]).num val 1073741824).1⟩) := by
          rw [GField.cells_eq, GType.cells_eq]; rfl
        rw [er3]
        refine k1 _ _ _ ((((k18.trans k27).setL (by omega) _).trans k31).setL (by omega) _) (p31.setL (by omega) _) (g1'.set_ne (by omega) _) (g3'.set _) hQ
      · rw [if_neg (fun hc => hx (hb.2 hc))] at hQ
        refine k1 ⟨nm, t.1, false, 0⟩ _ _ k18 p18 d1 d3 hQ
    simp only [Gd3_false]
    refine ite_both (fun hx => ?_) (fun hx => ?_)
    · refine p_peek hT p18 ?_
      simp only [str_eql, Do_of]
      exact k2 _ (by rw [hx]; simp)
    · exact k2 _ (by simp only [Bool.not_eq_false] at hx; rw [hx]; simp)
  refine ite_both (fun hx => ?_) (fun hx => ?_)
  · have hn : s.isW [95] = false := by simpa using hx
    refine p_name hT hkw p6 fun H11 k11 p11 => ?_
    have g1 := k11.2 _ _ (by omega) (k6.2 _ _ (by omega) a1)
    have g3 := k11.2 _ _ (by omega) (k6.2 _ _ (by omega) a3)
    simp only [afaddr, Do_of, Nat.zero_add]
    rw [g3.store, if_pos ⟨rfl, rfl, rfl, (by rw [hz]; simp)⟩]
    simp only [Do_of, AV.cells]
    have e1 : s.isA [95] = s := by unfold PSt.isA; rw [hn, if_neg (by decide)]
    have hfew : Few n ((s.isA [95]).nameS kw) := by
      rw [e1]
      unfold PSt.nameS
      split
      · rename_i hy
        refine hf.read hw fun e => ?_
        unfold PSt.nameW at hy
        rw [e] at hy
        simp [lettersM] at hy
      · exact .inl (PSt.fail_fk s (by decide))
    refine k3 ((s.isA [95]).nameT kw) _ _ (by rw [hn, if_neg (by decide)]) (by rw [hn, if_neg (by decide)]) ((((kk.trans k6).trans k11).setL (by omega) _)) (p11.setL (by omega) _) (g1.set_ne (by omega) _) ?_ (((Sub.isA s _).trans (Sub.nameS kw _)).1 hw) hfew
    have := g3.set (.row (setCells z 0 [.str ((s.isA [95]).nameT kw)]))
    rw [hz] at this ⊢
    exact this
  · have hn : s.isW [95] = true := by simpa using hx
    have g1 := k6.2 _ _ (by omega) a1
    have g3 := k6.2 _ _ (by omega) a3
    refine k3 [] _ _ (by rw [hn, if_pos rfl]) (by rw [hn, if_pos rfl]) (kk.trans k6) p6 g1 (by rw [hz] at g3; exact g3) ((Sub.isA s _).1 hw) ?_
    have e1 : s.isA [95] = s.adv := by unfold PSt.isA; rw [hn, if_pos rfl]
    rw [e1]
    exact hf.isW hw hn (by decide)
end
end Rb

/- Package parse: the fields of a type; types. -/
set_option linter.unusedVariables false
set_option linter.unusedSimpArgs false
set_option linter.unusedSectionVars false
namespace Rb
open Go

theorem Few.field {kw : List UInt8 → Bool} {val : List UInt8 → Int} {ty : Int → PSt → GType × PSt} (h : ∀ d s, Sub s (ty d s).2) {n : Nat} {d : Int} {s : PSt} (hf : Few (n + 1) s) (hw : Wf s) : Few n (fieldM kw val ty d s).2 := by
  have h1 : Few n (if s.isW [95] = true then s.isA [95] else (s.isA [95]).nameS kw) := by
    cases ho : s.isW [95] with
    | true =>
      rw [if_pos rfl]
      have e1 : s.isA [95] = s.adv := by unfold PSt.isA; rw [ho, if_pos rfl]
      rw [e1]; exact hf.isW hw ho (by decide)
    | false =>
      rw [if_neg (by decide)]
      have e1 : s.isA [95] = s := by unfold PSt.isA; rw [ho, if_neg (by decide)]
      rw [e1]
      unfold PSt.nameS
      split
      · rename_i hy
        refine hf.read hw fun e => ?_
        unfold PSt.nameW at hy
        rw [e] at hy
        simp [lettersM] at hy
      · exact .inl (PSt.fail_fk s (by decide))
  unfold fieldM
  dsimp only
  revert h1
  generalize (if s.isW [95] = true then s.isA [95] else (s.isA [95]).nameS kw) = s1
  generalize (if s.isW [95] = true then ([] : List UInt8) else (s.isA [95]).nameT kw) = nm
  intro h1
  split
  · exact (((h _ _).trans (Sub.want _ _)).trans ((Sub.num val _ _).trans (Sub.want _ _))).few h1
  · exact ((h _ _).trans (Sub.want _ _)).few h1
def z6 : List AV := [.int .i64 0, .int .i64 0, .bool false, .lst .nil 0 [], .int .i64 0, .lst .nil 0 []]

section
variable {Φ : Calls'} {kw : List UInt8 → Bool} {val : List UInt8 → Int}
theorem flds_loop (hT : Cl Φ S.tab_Lex) (hW : Wk Φ) (hkw : ∀ x, Val Φ K.lex_Keyword [.str x] (.bool (kw x))) (hv : NumV Φ val) {H0 : AH} {Q : Post} {id i1 i28 : Nat} {d k : Int} {pk : Bool} (hid : id < H0.n) (h1 : H0.n ≤ i1) (h28 : H0.n ≤ i28) (hne : i1 ≠ i28) :
    ∀ (n : Nat), (∀ m, m < n → TypOK Φ kw val m) → ∀ (H : AH) (s : PSt) (L : AV) (done : List GField), KeepP id H0 H → PS H id s → Wf s → Few n s → (s.fk ≠ 0 ∨ done.length + s.toks.length ≤ 2000001) →
    At H i1 (.row z6) → At H i28 (.row [.int .i64 k, .int .i64 0, .bool pk, L, .int .i64 0, .lst .nil 0 []]) → OwnT H0.n H 9 L done.length (done.flatMap GField.cells) →
    (∀ H', KeepP id H0 H' → PS H' id (fldsM kw val n d s).2 → Q (.agg (GType.cells ⟨k, 0, pk, done ++ (fldsM kw val n d s).1, 0, []⟩)) H') →
    LoopP (S.parse_parser_typ_l4 Φ (.ptr id 0) (.int .i64 d) (.ptr i1 0) (.ptr i28 0) fun v H' => Q v.weak H') ([], H) := by
  -- at the end
  have fin : ∀ (H : AH) (s : PSt) (L : AV) (done : List GField), KeepP id H0 H → PS H id s → At H i1 (.row z6) → At H i28 (.row [.int .i64 k, .int .i64 0, .bool pk, L, .int .i64 0, .lst .nil 0 []]) → OwnT H0.n H 9 L done.length (done.flatMap GField.cells) →
      (∀ H', KeepP id H0 H' → PS H' id s → Q (.agg (GType.cells ⟨k, 0, pk, done, 0, []⟩)) H') → JoinP (S.parse_parser_typ_k2 Φ (.ptr i1 0) (.ptr i28 0) fun v H' => Q v.weak H') [] H := by
    intro H s L done kk p a1 a28 ow hq
    simp only [JoinP_def, S.parse_parser_typ_k2]
    rw [a28.load, takeCells_whole (n := 6) rfl]
    simp only [Do_of]
    have hsc : L.scalar = true := by obtain ⟨tk, rfl, _, _⟩ := ow; rfl
    rw [a1.store, if_pos ⟨rfl, rfl, by simp only [AV.cells, List.all_cons, hsc]; rfl, by decide⟩]
    simp only [Do_of, AV.cells]
    rw [setCells_all rfl, (a1.set _).load]
    simp only [List.take_zero, List.nil_append]
    rw [takeCells_whole (n := 6) rfl]
    simp only [Do_of]
    have hwk : L.weak = lstA GField.cells done := by
      have hs : AV.weaks (done.flatMap GField.cells) = done.flatMap GField.cells := by rw [← GField.all_eq]; exact GField.weaksA done
      rw [ow.weak hs]; rfl
    have := hq (H.set i1 (.row [.int .i64 k, .int .i64 0, .bool pk, L, .int .i64 0, .lst .nil 0 []])) (kk.setL h1 _) (p.setL (by omega) _)
    rw [GType.cells_eq] at this
    simp only [AV.weak, AV.weaks, hwk]
    exact this
  intro n
  induction n with
  | zero =>
    intro _ H s L done kk p w f _ a1 a28 ow hQ
    have hb := f.zero w
    refine LoopP.step ?_
    simp only [S.parse_parser_typ_l4]
    refine p_bad hT p ?_
    simp only [aun_not, Do_of, Gd3_true]
    rw [if_neg (by simpa using hb)]
    simp only [JoinP_def, S.parse_parser_typ_k3, sl_zero, Gd_true]
    rw [if_neg (by decide)]
    refine fin H s L done kk p a1 a28 ow fun H' k' p' => ?_
    have := hQ H' k' (by unfold fldsM; exact p')
    unfold fldsM at this
    rwa [List.append_nil] at this
  | succ n ih =>
    intro hty H s L done kk p w f hl a1 a28 ow hQ
    refine LoopP.step ?_
    simp only [S.parse_parser_typ_l4]
    refine p_bad hT p ?_
    simp only [aun_not, Do_of, Gd3_true]
    refine ite_both (fun hx => ?_) (fun hx => ?_)
    · have h0 : s.fk = 0 := by simpa using hx
      refine p_is hT p fun H1 k1 p1 => ?_
      have b1 := k1.2 _ _ (by omega) a1
      have b28 := k1.2 _ _ (by omega) a28
      have ow1 := ow.keep hid k1
      simp only [aun_not, Do_of, JoinP_def, S.parse_parser_typ_k3, sl_zero, Gd_true]
      refine ite_both (fun hy => ?_) (fun hy => ?_)
      · have hf : s.isW [125] = false := by simpa using hy
        have e1 : s.isA [125] = s := by unfold PSt.isA; rw [hf, if_neg (by decide)]
        rw [e1] at p1
        have em : fldsM kw val (n + 1) d s = ((fieldM kw val (fun d s => typM kw val n d s) d s).1 :: (fldsM kw val n d (fieldM kw val (fun d s => typM kw val n d s) d s).2).1, (fldsM kw val n d (fieldM kw val (fun d s => typM kw val n d s) d s).2).2) := by
          conv => lhs; unfold fldsM
          rw [if_neg (by simpa using h0), hf, if_neg (by decide)]
        rw [em] at hQ
        simp only [S.parse_parser_typ_k1, afaddr, Do_of, Nat.zero_add]
        have hld : ∀ {H : AH} {L : AV}, At H i28 (.row [.int .i64 k, .int .i64 0, .bool pk, L, .int .i64 0, .lst .nil 0 []]) → aload H 1 false (.ptr i28 3) = some L := fun h => by rw [h.load]; rfl
        rw [hld b28]
        simp only [Do_of]
        refine p_field hT hW hkw hv (hty n (Nat.lt_succ_self n)) p1 w f fun H2 k2 p2 => ?_
        have c1 := k2.2 _ _ (by omega) b1
        have c28 := k2.2 _ _ (by omega) b28
        have ow2 := ow1.keep hid k2
        have hsub := Sub.field kw val (Sub.typ kw val n) d s
        have hfew : ∀ m, Few (m + 1) s → Few m (fieldM kw val (fun d s => typM kw val n d s) d s).2 := fun m hm => Few.field (Sub.typ kw val n) hm w
        generalize fieldM kw val (fun d s => typM kw val n d s) d s = fd at hQ p2 hsub hfew
        refine ⟨hld c28, ?_⟩
        have hlen : done.length + s.toks.length ≤ 2000001 := by
          rcases hl with hl | hl
          · exact absurd h0 hl
          · exact hl
        have epos : 0 < s.toks.length := List.length_pos_iff.2 w.ne
        have hbs : abslice H2 false 9 1 [.str [], .int .i64 0, .int .i64 0, .bool false, .lst .nil 0 [], .int .i64 0, .lst .nil 0 [], .bool false, .int .i64 0] [(0, 9, .agg fd.1.cells)] = some (.lst .full 1 fd.1.cells, H2) := by
          have hfl := GField.len fd.1
          simp only [abslice, fillA, AV.known, AV.cells, hfl]
          rw [if_pos (by simp)]
          rw [setCells_all (by rw [hfl]; rfl)]
          rfl
        rw [hbs]
        simp only [DoH_some]
        refine ow2.app (Nat.le_trans kk.1 (Nat.le_trans k1.1 k2.1)) (m := 1) (news := fd.1.cells) (by simp [acells, GField.len]) (by rw [GField.len]) (GField.scalar _) (by decide) (by omega) (by omega) fun x' H3 ow3 l3 => ?_
        have d1 := l3.row c1
        have d28 := l3.row c28
        have hsx : x'.scalar = true := by obtain ⟨tk, rfl, _, _⟩ := ow3; rfl
        have hcx : x'.cells = [x'] := by obtain ⟨tk, rfl, _, _⟩ := ow3; rfl
        have hkx : x'.known = true := by obtain ⟨tk, rfl, _, _⟩ := ow3; rfl
        rw [d28.store, if_pos ⟨hkx, by rw [hcx]; rfl, by rw [hcx]; simp [hsx], by simp⟩, hcx]
        simp only [Do_of]
        have er : setCells [.int .i64 k, .int .i64 0, .bool pk, L, .int .i64 0, .lst .nil 0 []] 3 [x'] = [.int .i64 k, .int .i64 0, .bool pk, x', .int .i64 0, .lst .nil 0 []] := rfl
        rw [er]
        refine ih (fun m hm => hty m (Nat.lt_succ_of_lt hm)) _ fd.2 x' (done ++ [fd.1]) ((((kk.trans k1).trans k2).left l3).setL h28 _) ((p2.left l3).setL (by omega) _) (hsub.1 w) (hfew n f) ?_ (d1.set_ne hne _) (d28.set _) ?_ fun H' k' p' => ?_
        · have := hfew (s.toks.length - 1) (.inr (by omega))
          rcases this with h | h
          · exact .inl h
          · exact .inr (by rw [List.length_append, List.length_singleton]; omega)
        · have : OwnT H0.n H3 9 x' (done ++ [fd.1]).length ((done ++ [fd.1]).flatMap GField.cells) := by
            rw [List.length_append, List.length_singleton, List.flatMap_append]
            simpa using ow3
          exact this.frame fun t a b ht => ht.set_ne (fun e => by subst e; have := ht.2.symm.trans d28.2; cases this) _
        · have := hQ H' k' p'
          rw [List.append_assoc]
          exact this
      · have hf : s.isW [125] = true := by simpa using hy
        have e1 : s.isA [125] = s.adv := by unfold PSt.isA; rw [hf, if_pos rfl]
        rw [e1] at p1
        have em : fldsM kw val (n + 1) d s = ([], s.adv) := by
          unfold fldsM
          rw [if_neg (by simpa using h0), hf, if_pos rfl]
        rw [em] at hQ
        refine fin H1 s.adv L done (kk.trans k1) p1 b1 b28 ow1 fun H' k' p' => ?_
        have := hQ H' k' p'
        rwa [List.append_nil] at this
    · have h0 : s.fk ≠ 0 := by simpa using hx
      have em : fldsM kw val (n + 1) d s = ([], s) := by
        unfold fldsM
        rw [if_pos h0]
      rw [em] at hQ
      simp only [JoinP_def, S.parse_parser_typ_k3, sl_zero, Gd_true]
      rw [if_neg (by decide)]
      refine fin H s L done kk p a1 a28 ow fun H' k' p' => ?_
      have := hQ H' k' p'
      rwa [List.append_nil] at this
end
end Rb

/- Package parse: types. -/
set_option linter.unusedVariables false
set_option linter.unusedSimpArgs false
set_option linter.unusedSectionVars false
namespace Rb
open Go

theorem kind_hd {w : List UInt8} (h : kindM w ≠ 0) : w ≠ [] := fun e => h (by rw [e]; decide)
section
variable {Φ : Calls'} {kw : List UInt8 → Bool} {val : List UInt8 → Int}
theorem p_typ (hT : Cl Φ S.tab_Lex) (hW : Wk Φ) (hkw : ∀ x, Val Φ K.lex_Keyword [.str x] (.bool (kw x))) (hv : NumV Φ val) : ∀ n, TypOK Φ kw val n := by
  intro n
  induction n using Nat.strongRecOn with
  | ind n ih =>
  intro H Q id s d p w f hQ
  refine hW _ _ _ _ (S.cl_parse_parser_typ hT ?_)
  unfold S.parse_parser_typ
  have hid := lt_of_ps p
  have ez : ([.int .i64 0, .int .i64 0, .bool false, .lst .nil 0 [], .int .i64 0, .lst .nil 0 []] : List AV) = z6 := rfl
  rw [ez]
  simp only [abox, if_true, DoH_some]
  have p2 : PS (H.push (.row z6)) id s := p.pushL _
  have a1 : At (H.push (.row z6)) H.n (.row z6) := At.new H _
  have kk : KeepP id H (H.push (.row z6)) := KeepP.push id H _
  have ret : ∀ (ds : List AV) (t : GType) (s' : PSt) (H' : AH), KeepP id H H' → PS H' id s' → At H' H.n (.row z6) → AV.weaks ds = t.cells → ds.all AV.scalar = true → (∀ H', KeepP id H H' → PS H' id s' → Q (.agg t.cells) H') →
      Do (astore H' 6 (.ptr H.n 0) (.agg ds)) fun H'' => Do (aload H'' 6 true (.ptr H.n 0)) fun v => Q v.weak H'' := by
    intro ds t s' H' k' p' a' hds hsc hq
    have hl : ds.length = 6 := by rw [← weaks_len, hds, GType.len]
    rw [a'.store, if_pos ⟨rfl, hl, hsc, by decide⟩]
    simp only [Do_of, AV.cells]
    rw [setCells_all (by rw [hl]; rfl), (a'.set _).load]
    simp only [List.take_zero, List.nil_append]
    rw [takeCells_whole hl]
    simp only [Do_of, AV.weak, hds]
    exact hq _ (k'.setL (Nat.le_refl _) _) (p'.setL (by omega) _)
  have bz : abuild z6 [] = some (.agg z6) := rfl
  refine p_deep hT p2 fun H4 k4 p4 => ?_
  have b1 := k4.2 _ _ (by omega) a1
  have kb := kk.trans k4
  have sd := Sub.deep s d
  simp only [aun_not, Do_of, Gd_true, bz]
  -- when something is wrong
  have bad : ∀ s' : PSt, (typM kw val n d s) = (tyZ, s') → PS H4 id s' → Do (astore H4 6 (.ptr H.n 0) (.agg z6)) fun H7 => Do (aload H7 6 true (.ptr H.n 0)) fun x8 => Q x8.weak H7 := by
    intro s' e ps
    rw [e] at hQ
    exact ret z6 tyZ s' H4 kb ps b1 rfl rfl hQ
  cases n with
  | zero =>
    have hb := f.zero w
    have e : s.deep d = s := by
      unfold PSt.deep
      split
      · unfold PSt.fail; rw [if_neg hb]
      · rfl
    rw [e] at p4 ⊢
    rw [if_pos (by simpa using hb)]
    exact bad s (by unfold typM; rfl) p4
  | succ n =>
  have f1 := sd.few f
  have w1 := sd.1 w
  generalize es : s.deep d = s1 at p4 sd f1 w1
  refine ite_both (fun hx => ?_) (fun hx => ?_)
  · have hb : s1.fk ≠ 0 := by simpa using hx
    refine bad s1 ?_ p4
    unfold typM
    simp only [es]
    rw [if_pos hb]
  · have h0 : s1.fk = 0 := by simpa using hx
    refine p_peek hT p4 ?_
    refine p_scalar hT hW fun H12 g12 => ?_
    have k12 := g12.keep id
    have p12 := g12.ps p4
    have c1 := g12.2 _ _ b1
    have kc := kb.trans k12
    have hn12 : H.n < H12.n := Nat.lt_of_lt_of_le b1.1 g12.1
    simp only [aextract, List.getElem?_cons_zero, List.getElem?_cons_succ, Do_of, DoH_some]
    rw [store_new H12 z6 _ 6 (GType.len _) (GType.scalar _) rfl]
    simp only [Do_of]
    have p17 := p12.pushL (.row (scalarT s1.hd.1).cells)
    have d15 : At (H12.push (.row (scalarT s1.hd.1).cells)) H12.n (.row (scalarT s1.hd.1).cells) := At.new _ _
    have d1 := c1.push (.row (scalarT s1.hd.1).cells)
    have kd := kc.pushL (.row (scalarT s1.hd.1).cells)
    refine ite_both (fun hs => ?_) (fun hs => ?_)
    · obtain ⟨pr, hpr⟩ := Option.isSome_iff_exists.1 hs
      refine p_next hT p17 fun H19 k19 p19 => ?_
      have e15 := k19.2 _ _ (by omega) d15
      have e1 := k19.2 _ _ (by omega) d1
      rw [e15.load, takeCells_whole (GType.len _)]
      simp only [Do_of]
      have em : typM kw val (n + 1) d s = (scalarT s1.hd.1, s1.adv) := by
        unfold typM scalarT
        simp only [es, hpr]
        rw [if_neg (by simpa using h0)]
      rw [em] at hQ
      exact ret _ (scalarT s1.hd.1) s1.adv H19 (kd.trans k19) p19 e1 (GType.weaks _) (GType.scalar _) hQ
    · have hnone : scalarM s1.hd.1 = none := by simpa using hs
      refine p_peek hT p17 ?_
      refine p_kind hT ?_
      rw [show abuild z6 [(0, 1, .int .i64 (kindM s1.hd.1))] = some (.agg [.int .i64 (kindM s1.hd.1), .int .i64 0, .bool false, .lst .nil 0 [], .int .i64 0, .lst .nil 0 []]) from rfl]
      simp only [Do_of]
      have hn17 : (H12.push (.row (scalarT s1.hd.1).cells)).n = H12.n + 1 := rfl
      generalize H12.push (.row (scalarT s1.hd.1).cells) = H17 at p17 d15 d1 kd hn17
      rw [store_new H17 z6 _ 6 rfl rfl rfl]
      simp only [Do_of]
      have kz : ∀ k : Int, ∃ r : List AV, r = [.int .i64 k, .int .i64 0, .bool false, .lst .nil 0 [], .int .i64 0, .lst .nil 0 []] := fun k => ⟨_, rfl⟩
      obtain ⟨r, hr⟩ := kz (kindM s1.hd.1)
      rw [← hr]
      have p30 := p17.pushL (.row r)
      have g28 : At (H17.push (.row r)) H17.n (.row r) := At.new _ _
      have g1 := d1.push (.row r)
      have ke := kd.pushL (.row r)
      simp only [afaddr, Do_of, Nat.zero_add]
      have hld0 : aload (H17.push (.row r)) 1 false (.ptr H17.n 0) = some (.int .i64 (kindM s1.hd.1)) := by rw [g28.load, hr]; rfl
      rw [hld0]
      simp only [Do_of, abin_eql]
      generalize H17.push (.row r) = H30 at p30 g28 g1 ke
      refine ite_both (fun hk0 => ?_) (fun hk0 => ?_)
      · have hk : kindM s1.hd.1 = 0 := by simpa using hk0
        refine p_fail hT p30 fun H35 k35 p35 => ?_
        have em : typM kw val (n + 1) d s = (tyZ, s1.fail 4) := by
          unfold typM
          simp only [es, hnone]
          rw [if_neg (by simpa using h0), if_pos hk]
        rw [em] at hQ
        exact ret z6 tyZ (s1.fail 4) H35 (ke.trans k35) p35 (k35.2 _ _ (by omega) g1) rfl rfl hQ
      · have hk : kindM s1.hd.1 ≠ 0 := by simpa using hk0
        have f2 : Few n s1.adv := f1.read w1 (kind_hd hk)
        have w2 := w1.adv
        refine ite_both (fun hk5 => ?_) (fun hk5 => ?_)
        · have hk5' : kindM s1.hd.1 = 5 := by simpa using hk5
          refine p_next hT p30 fun H41 k41 p41 => ?_
          refine p_num hT hv p41 w2 fun H43 k43 p43 => ?_
          have i28 := k43.2 _ _ (by omega) (k41.2 _ _ (by omega) g28)
          have i1 := k43.2 _ _ (by omega) (k41.2 _ _ (by omega) g1)
          have kf := (ke.trans k41).trans k43
          have sn := Sub.num val s1.adv 1073741824
          have em : typM kw val (n + 1) d s = (⟨5, 0, false, [], x64 (s1.adv.num val 1073741824).1, [(typM kw val n (x64 (d + 1)) ((s1.adv.num val 1073741824).2.want [93])).1]⟩, (typM kw val n (x64 (d + 1)) ((s1.adv.num val 1073741824).2.want [93])).2) := by
            conv => lhs; unfold typM
            simp only [es, hnone]
            rw [if_neg (by simpa using h0), if_neg hk, if_pos hk5']
          rw [em] at hQ
          generalize s1.adv.num val 1073741824 = q at p43 hQ sn
          simp only [aconv_int, Do_of]
          rw [i28.store, if_pos ⟨rfl, rfl, rfl, by rw [hr]; simp⟩]
          simp only [Do_of, AV.cells]
          have er : setCells r 4 [.int .i64 (x64 q.1)] = [.int .i64 5, .int .i64 0, .bool false, .lst .nil 0 [], .int .i64 (x64 q.1), .lst .nil 0 []] := by rw [hr, hk5']; rfl
          rw [er]
          refine p_want hT (p43.setL (by omega) _) fun H48 k48 p48 => ?_
          have j28 := k48.2 _ _ (by omega) (i28.set (.row [.int .i64 5, .int .i64 0, .bool false, .lst .nil 0 [], .int .i64 (x64 q.1), .lst .nil 0 []]))
          have j1 := k48.2 _ _ (by omega) (i1.set_ne (i := H17.n) (by omega) (.row [.int .i64 5, .int .i64 0, .bool false, .lst .nil 0 [], .int .i64 (x64 q.1), .lst .nil 0 []]))
          have kg := (kf.setL (i := H17.n) (by omega) (.row [.int .i64 5, .int .i64 0, .bool false, .lst .nil 0 [], .int .i64 (x64 q.1), .lst .nil 0 []])).trans k48
          simp only [abin_add, Do_of]
          have sw := Sub.want q.2 [93]
          refine ih n (Nat.lt_succ_self n) _ _ _ _ _ p48 (sw.1 (sn.1 w2)) (sw.few (sn.few f2)) fun H51 k51 p51 => ?_
          generalize typM kw val n (x64 (d + 1)) (q.2.want [93]) = t at hQ p51
          have l28 := k51.2 _ _ (by omega) j28
          have l1 := k51.2 _ _ (by omega) j1
          have hbs : abslice H51 false 6 1 z6 [(0, 6, .agg t.1.cells)] = some (.lst .full 1 t.1.cells, H51) := by
            have hfl := GType.len t.1
            simp only [abslice, fillA, AV.known, AV.cells, hfl]
            rw [if_pos (by simp [z6])]
            rw [setCells_all (by rw [hfl]; rfl)]
            rfl
          rw [hbs]
          simp only [DoH_some]
          rw [l28.store, if_pos ⟨rfl, rfl, rfl, by simp⟩]
          simp only [Do_of, AV.cells]
          have er2 : setCells [.int .i64 5, .int .i64 0, .bool false, .lst .nil 0 [], .int .i64 (x64 q.1), .lst .nil 0 []] 5 [.lst .full 1 t.1.cells] = [.int .i64 5, .int .i64 0, .bool false, .lst .nil 0 [], .int .i64 (x64 q.1), .lst .full 1 t.1.cells] := rfl
          rw [er2, (l28.set _).load, takeCells_whole (n := 6) rfl]
          simp only [Do_of]
          refine ret _ ⟨5, 0, false, [], x64 q.1, [t.1]⟩ t.2 _ ((kg.trans k51).setL (by omega) _) (p51.setL (by omega) _) (l1.set_ne (by omega) _) ?_ rfl hQ
          rw [GType.cells_eq ⟨5, 0, false, [], x64 q.1, [t.1]⟩]
          simp only [AV.weaks, AV.weak, GType.weaks, lstA, List.flatMap_cons, List.flatMap_nil, List.append_nil, List.length_cons, List.length_nil]
        · have hk5' : kindM s1.hd.1 ≠ 5 := by simpa using hk5
          refine p_next hT p30 fun H60 k60 p60 => ?_
          refine p_is hT p60 fun H62 k62 p62 => ?_
          have i28 := k62.2 _ _ (by omega) (k60.2 _ _ (by omega) g28)
          have i1 := k62.2 _ _ (by omega) (k60.2 _ _ (by omega) g1)
          have kf := (ke.trans k60).trans k62
          have em : typM kw val (n + 1) d s = (⟨kindM s1.hd.1, 0, s1.adv.isW [112, 97, 99, 107, 101, 100], (fldsM kw val n d ((s1.adv.isA [112, 97, 99, 107, 101, 100]).want [123])).1, 0, []⟩, (fldsM kw val n d ((s1.adv.isA [112, 97, 99, 107, 101, 100]).want [123])).2) := by
            conv => lhs; unfold typM
            simp only [es, hnone]
            rw [if_neg (by simpa using h0), if_neg hk, if_neg hk5']
          rw [em] at hQ
          have sa := Sub.isA s1.adv [112, 97, 99, 107, 101, 100]
          rw [i28.store, if_pos ⟨rfl, rfl, rfl, by rw [hr]; simp⟩]
          simp only [Do_of, AV.cells]
          generalize s1.adv.isW [112, 97, 99, 107, 101, 100] = pk at hQ ⊢
          have er : setCells r 2 [.bool pk] = [.int .i64 (kindM s1.hd.1), .int .i64 0, .bool pk, .lst .nil 0 [], .int .i64 0, .lst .nil 0 []] := by rw [hr]; rfl
          rw [er]
          refine p_want hT (p62.setL (by omega) _) fun H68 k68 p68 => ?_
          have j28 := k68.2 _ _ (by omega) (i28.set (.row [.int .i64 (kindM s1.hd.1), .int .i64 0, .bool pk, .lst .nil 0 [], .int .i64 0, .lst .nil 0 []]))
          have j1 := k68.2 _ _ (by omega) (i1.set_ne (i := H17.n) (by omega) (.row [.int .i64 (kindM s1.hd.1), .int .i64 0, .bool pk, .lst .nil 0 [], .int .i64 0, .lst .nil 0 []]))
          have kg := (kf.setL (i := H17.n) (by omega) (.row [.int .i64 (kindM s1.hd.1), .int .i64 0, .bool pk, .lst .nil 0 [], .int .i64 0, .lst .nil 0 []])).trans k68
          have sw := Sub.want (s1.adv.isA [112, 97, 99, 107, 101, 100]) [123]
          exact flds_loop hT hW hkw hv hid (Nat.le_refl _) (by omega) (by omega) n (fun m hm => ih m (by omega)) H68 _ _ [] kg p68 (sw.1 (sa.1 w2)) (sw.few (sa.few f2)) (.inr (by have := p68.2.1; simp only [List.length_nil]; omega)) j1 j28 (OwnT.nil _ _ _) hQ
end
end Rb

/- Package parse: the parts of a place; places. -/
set_option linter.unusedVariables false
set_option linter.unusedSimpArgs false
set_option linter.unusedSectionVars false
namespace Rb
open Go

def ExpOK (Φ : Calls') (kw : List UInt8 → Bool) (val : List UInt8 → Int) (n : Nat) : Prop :=
  ∀ (H : AH) (Q : Post) (id : Nat) (s : PSt) (d : Int), PS H id s → Wf s → Few n s → (∀ H', KeepP id H H' → PS H' id (exprM kw val n d s).2 → Q (.agg (exprM kw val n d s).1.cells) H') → Φ K.parse_parser_expr [.ptr id 0, .int .i64 d] H Q
def PlaceOK (Φ : Calls') (kw : List UInt8 → Bool) (val : List UInt8 → Int) (n : Nat) : Prop :=
  ∀ (H : AH) (Q : Post) (id : Nat) (s : PSt) (d : Int), PS H id s → Wf s → Few n s → (∀ H', KeepP id H H' → PS H' id (placeM' kw (partsM kw val n) d s).2 → Q (.agg (placeM' kw (partsM kw val n) d s).1.cells) H') → Φ K.parse_parser_place [.ptr id 0, .int .i64 d] H Q
theorem GPart.scalar2 (x : GPart) : x.cells.all AV.scalar = true := GPart.scalar x
theorem GPlace.scalar2 (x : GPlace) : x.cells.all AV.scalar = true := GPlace.scalar x
theorem agg8_slice (H : AH) (e : GExpr) : abslice H false 8 1 [.int .i64 0, .int .u64 0, .str [], .int .i64 0, .int .i64 0, .str [], .lst .nil 0 [], .lst .nil 0 []] [(0, 8, .agg e.cells)] = some (.lst .full 1 e.cells, H) := by
  have hfl := GExpr.len e
  simp only [abslice, fillA, AV.known, AV.cells, hfl]
  rw [if_pos (by simp)]
  rw [setCells_all (by rw [hfl]; rfl)]
  rfl

section
variable {Φ : Calls'} {kw : List UInt8 → Bool} {val : List UInt8 → Int}
theorem parts_loop (hT : Cl Φ S.tab_Lex) (hkw : ∀ x, Val Φ K.lex_Keyword [.str x] (.bool (kw x))) {H0 : AH} {Q : Post} {id i1 i6 : Nat} {d : Int} {nm : List UInt8} (hid : id < H0.n) (h1 : H0.n ≤ i1) (h6 : H0.n ≤ i6) (hne : i1 ≠ i6) :
    ∀ (n : Nat), (∀ m, m < n → ExpOK Φ kw val m) → ∀ (H : AH) (s : PSt) (L : AV) (done : List GPart) (cs : List AV), KeepP id H0 H → PS H id s → Wf s → Few n s → (s.fk ≠ 0 ∨ done.length + s.toks.length ≤ 2000001) →
    At H i1 (.row [.str [], .lst .nil 0 []]) → At H i6 (.row [.str nm, L]) → OwnT H0.n H 2 L done.length cs → AV.weaks cs = done.flatMap GPart.cells →
    (∀ H', KeepP id H0 H' → PS H' id (partsM kw val n d s).2 → Q (.agg (GPlace.cells ⟨nm, done ++ (partsM kw val n d s).1⟩)) H') →
    LoopP (S.parse_parser_place_l2 Φ (.ptr id 0) (.int .i64 d) (.ptr i1 0) (.ptr i6 0) fun v H' => Q v.weak H') ([], H) := by
  have fin : ∀ (H : AH) (s : PSt) (L : AV) (done : List GPart) (cs : List AV), KeepP id H0 H → PS H id s → At H i1 (.row [.str [], .lst .nil 0 []]) → At H i6 (.row [.str nm, L]) → OwnT H0.n H 2 L done.length cs → AV.weaks cs = done.flatMap GPart.cells →
      (∀ H', KeepP id H0 H' → PS H' id s → Q (.agg (GPlace.cells ⟨nm, done⟩)) H') →
      Do (aload H 2 true (.ptr i6 0)) fun x50 => Do (astore H 2 (.ptr i1 0) x50) fun H51 => Do (aload H51 2 true (.ptr i1 0)) fun x52 => Q x52.weak H51 := by
    intro H s L done cs kk p a1 a6 ow hcs hq
    rw [a6.load, takeCells_whole (n := 2) rfl]
    simp only [Do_of]
    have hsc : L.scalar = true := by obtain ⟨tk, rfl, _, _⟩ := ow; rfl
    rw [a1.store, if_pos ⟨rfl, rfl, by simp only [AV.cells, List.all_cons, hsc]; rfl, by decide⟩]
    simp only [Do_of, AV.cells]
    rw [setCells_all rfl, (a1.set _).load]
    simp only [List.take_zero, List.nil_append]
    rw [takeCells_whole (n := 2) rfl]
    simp only [Do_of]
    have hwk : L.weak = lstA GPart.cells done := by
      obtain ⟨tk, rfl, _, _⟩ := ow
      simp only [AV.weak, hcs]; rfl
    have := hq (H.set i1 (.row [.str nm, L])) (kk.setL h1 _) (p.setL (by omega) _)
    rw [GPlace.cells_eq] at this
    simp only [AV.weak, AV.weaks, hwk]
    exact this
  intro n
  induction n with
  | zero =>
    intro _ H s L done cs kk p w f _ a1 a6 ow hcs hQ
    have hb := f.zero w
    refine LoopP.step ?_
    simp only [S.parse_parser_place_l2]
    refine p_bad hT p ?_
    simp only [aun_not, Do_of, Gd_true]
    rw [if_neg (by simpa using hb)]
    simp only [JoinP_def, S.parse_parser_place_k1]
    refine fin H s L done cs kk p a1 a6 ow hcs fun H' k' p' => ?_
    have := hQ H' k' (by unfold partsM; exact p')
    unfold partsM at this
    rwa [List.append_nil] at this
  | succ n ih =>
    intro hex H s L done cs kk p w f hl a1 a6 ow hcs hQ
    refine LoopP.step ?_
    simp only [S.parse_parser_place_l2]
    refine p_bad hT p ?_
    simp only [aun_not, Do_of, Gd_true]
    have hld : ∀ {H : AH} {L : AV}, At H i6 (.row [.str nm, L]) → aload H 1 false (.ptr i6 1) = some L := fun h => by rw [h.load]; rfl
    refine ite_both (fun hx => ?_) (fun hx => ?_)
    · have h0 : s.fk = 0 := by simpa using hx
      have hlen : done.length + s.toks.length ≤ 2000001 := by
        rcases hl with hl | hl
        · exact absurd h0 hl
        · exact hl
      refine p_is hT p fun H1 k1 p1 => ?_
      have b1 := k1.2 _ _ (by omega) a1
      have b6 := k1.2 _ _ (by omega) a6
      have ow1 := ow.keep hid k1
      refine ite_both (fun hy => ?_) (fun hy => ?_)
      · -- a field
        have e1 : s.isA [46] = s.adv := by unfold PSt.isA; rw [if_pos hy]
        rw [e1] at p1
        have w1 := w.adv
        have f1 := f.isW w hy (by decide)
        have hsh := w.short (s := s) (by rw [(isW_hd hy).2]; decide)
        have em : partsM kw val (n + 1) d s = (⟨s.adv.nameT kw, []⟩ :: (partsM kw val n d (s.adv.nameS kw)).1, (partsM kw val n d (s.adv.nameS kw)).2) := by
          conv => lhs; unfold partsM
          rw [if_neg (by simpa using h0), if_pos hy]
        rw [em] at hQ
        simp only [afaddr, Do_of, Nat.zero_add]
        rw [hld b6]
        simp only [Do_of]
        refine p_name hT hkw p1 fun H2 k2 p2 => ?_
        have c1 := k2.2 _ _ (by omega) b1
        have c6 := k2.2 _ _ (by omega) b6
        have ow2 := ow1.keep hid k2
        have sn := Sub.nameS kw s.adv
        refine ⟨hld c6, ?_⟩
        rw [show abuild [.str [], .lst .nil 0 []] [(0, 1, .str (s.adv.nameT kw))] = some (.agg [.str (s.adv.nameT kw), .lst .nil 0 []]) from rfl]
        simp only [Do_of]
        rw [show abslice H2 false 2 1 [.str [], .lst .nil 0 []] [(0, 2, .agg [.str (s.adv.nameT kw), .lst .nil 0 []])] = some (.lst .full 1 [.str (s.adv.nameT kw), .lst .nil 0 []], H2) from rfl]
        simp only [DoH_some]
        refine ow2.app (Nat.le_trans kk.1 (Nat.le_trans k1.1 k2.1)) (m := 1) (news := [.str (s.adv.nameT kw), .lst .nil 0 []]) rfl rfl rfl (by decide) (by omega) (by omega) fun x' H3 ow3 l3 => ?_
        have d1 := l3.row c1
        have d6 := l3.row c6
        have hsx : x'.scalar = true := by obtain ⟨tk, rfl, _, _⟩ := ow3; rfl
        have hcx : x'.cells = [x'] := by obtain ⟨tk, rfl, _, _⟩ := ow3; rfl
        have hkx : x'.known = true := by obtain ⟨tk, rfl, _, _⟩ := ow3; rfl
        rw [d6.store, if_pos ⟨hkx, by rw [hcx]; rfl, by rw [hcx]; simp [hsx], by simp⟩, hcx]
        simp only [Do_of]
        have er : setCells [.str nm, L] 1 [x'] = [.str nm, x'] := rfl
        rw [er]
        refine ih (fun m hm => hex m (Nat.lt_succ_of_lt hm)) _ (s.adv.nameS kw) x' (done ++ [⟨s.adv.nameT kw, []⟩]) (cs ++ [.str (s.adv.nameT kw), .lst .nil 0 []]) ((((kk.trans k1).trans k2).left l3).setL h6 _) ((p2.left l3).setL (by omega) _) (sn.1 w1) (sn.few f1) (.inr ?_) (d1.set_ne hne _) (d6.set _) ?_ ?_ fun H' k' p' => ?_
        · have := sn.2.1
          rw [List.length_append, List.length_singleton]; omega
        · rw [List.length_append, List.length_singleton]
          exact ow3.frame fun t a b ht => ht.set_ne (fun e => by subst e; have := ht.2.symm.trans d6.2; cases this) _
        · rw [weaks_app, hcs, List.flatMap_append]; rfl
        · have := hQ H' k' p'
          rw [List.append_assoc]
          exact this
      · have e1 : s.isA [46] = s := by unfold PSt.isA; rw [if_neg hy]
        rw [e1] at p1
        refine p_is hT p1 fun H2 k2 p2 => ?_
        have c1 := k2.2 _ _ (by omega) b1
        have c6 := k2.2 _ _ (by omega) b6
        have ow2 := ow1.keep hid k2
        refine ite_both (fun hz => ?_) (fun hz => ?_)
        · -- an index
          have e2 : s.isA [91] = s.adv := by unfold PSt.isA; rw [if_pos hz]
          rw [e2] at p2
          have w1 := w.adv
          have f1 := f.isW w hz (by decide)
          have hsh := w.short (s := s) (by rw [(isW_hd hz).2]; decide)
          have em : partsM kw val (n + 1) d s = (⟨[], [(exprM kw val n (x64 (d + 1)) s.adv).1]⟩ :: (partsM kw val n d ((exprM kw val n (x64 (d + 1)) s.adv).2.want [93])).1, (partsM kw val n d ((exprM kw val n (x64 (d + 1)) s.adv).2.want [93])).2) := by
            conv => lhs; unfold partsM
            rw [if_neg (by simpa using h0), if_neg hy, if_pos hz]
          rw [em] at hQ
          simp only [afaddr, Do_of, Nat.zero_add]
          rw [hld c6]
          simp only [Do_of, abin_add]
          have se := Sub.expr kw val n (x64 (d + 1)) s.adv
          refine hex n (Nat.lt_succ_self n) _ _ _ _ _ p2 w1 f1 fun H4 k4 p4 => ?_
          generalize exprM kw val n (x64 (d + 1)) s.adv = e at p4 hQ se
          have g1 := k4.2 _ _ (by omega) c1
          have g6 := k4.2 _ _ (by omega) c6
          have ow4 := ow2.keep hid k4
          refine ⟨hld g6, ?_⟩
          rw [agg8_slice]
          simp only [DoH_some]
          rw [show abuild [.str [], .lst .nil 0 []] [(1, 1, .lst .full 1 e.1.cells)] = some (.agg [.str [], .lst .full 1 e.1.cells]) from rfl]
          simp only [Do_of]
          rw [show abslice H4 false 2 1 [.str [], .lst .nil 0 []] [(0, 2, .agg [.str [], .lst .full 1 e.1.cells])] = some (.lst .full 1 [.str [], .lst .full 1 e.1.cells], H4) from rfl]
          simp only [DoH_some]
          refine ow4.app (Nat.le_trans kk.1 (Nat.le_trans k1.1 (Nat.le_trans k2.1 k4.1))) (m := 1) (news := [.str [], .lst .full 1 e.1.cells]) rfl rfl rfl (by decide) (by omega) (by omega) fun x' H3 ow3 l3 => ?_
          have d1 := l3.row g1
          have d6 := l3.row g6
          have hsx : x'.scalar = true := by obtain ⟨tk, rfl, _, _⟩ := ow3; rfl
          have hcx : x'.cells = [x'] := by obtain ⟨tk, rfl, _, _⟩ := ow3; rfl
          have hkx : x'.known = true := by obtain ⟨tk, rfl, _, _⟩ := ow3; rfl
          rw [d6.store, if_pos ⟨hkx, by rw [hcx]; rfl, by rw [hcx]; simp [hsx], by simp⟩, hcx]
          simp only [Do_of]
          have er : setCells [.str nm, L] 1 [x'] = [.str nm, x'] := rfl
          rw [er]
          have ow5 : OwnT H0.n (H3.set i6 (.row [.str nm, x'])) 2 x' (done.length + 1) (cs ++ [.str [], .lst .full 1 e.1.cells]) := ow3.frame fun t a b ht => ht.set_ne (fun e => by subst e; have := ht.2.symm.trans d6.2; cases this) _
          have kz := (((((kk.trans k1).trans k2).trans k4).left l3).setL h6 (.row [.str nm, x']))
          refine p_want hT ((p4.left l3).setL (by omega) _) fun H5 k5 p5 => ?_
          have sw := Sub.want e.2 [93]
          refine ih (fun m hm => hex m (Nat.lt_succ_of_lt hm)) _ (e.2.want [93]) x' (done ++ [⟨[], [e.1]⟩]) (cs ++ [.str [], .lst .full 1 e.1.cells]) (kz.trans k5) p5 (sw.1 (se.1 w1)) (sw.few (se.few f1)) (.inr ?_) (k5.2 _ _ (by omega) (d1.set_ne hne _)) (k5.2 _ _ (by omega) (d6.set _)) ?_ ?_ fun H' k' p' => ?_
          · have := sw.2.1
            have := se.2.1
            rw [List.length_append, List.length_singleton]; omega
          · rw [List.length_append, List.length_singleton]
            exact ow5.keep hid k5
          · rw [weaks_app, hcs, List.flatMap_append, List.flatMap_cons, List.flatMap_nil, GPart.cells_eq]
            simp only [AV.weaks, AV.weak, GExpr.weaks, lstA, List.flatMap_cons, List.flatMap_nil, List.append_nil, List.length_cons, List.length_nil]
          · have := hQ H' k' p'
            rw [List.append_assoc]
            exact this
        · have e2 : s.isA [91] = s := by unfold PSt.isA; rw [if_neg hz]
          rw [e2] at p2
          have em : partsM kw val (n + 1) d s = ([], s) := by
            conv => lhs; unfold partsM
            rw [if_neg (by simpa using h0), if_neg hy, if_neg hz]
          rw [em] at hQ
          refine fin H2 s L done cs ((kk.trans k1).trans k2) p2 c1 c6 ow2 hcs fun H' k' p' => ?_
          have := hQ H' k' p'
          rwa [List.append_nil] at this
    · have h0 : s.fk ≠ 0 := by simpa using hx
      have em : partsM kw val (n + 1) d s = ([], s) := by
        unfold partsM
        rw [if_pos h0]
      rw [em] at hQ
      simp only [JoinP_def, S.parse_parser_place_k1]
      refine fin H s L done cs kk p a1 a6 ow hcs fun H' k' p' => ?_
      have := hQ H' k' p'
      rwa [List.append_nil] at this
theorem p_place (hT : Cl Φ S.tab_Lex) (hW : Wk Φ) (hkw : ∀ x, Val Φ K.lex_Keyword [.str x] (.bool (kw x))) {n : Nat} (hex : ∀ m, m < n → ExpOK Φ kw val m) : PlaceOK Φ kw val n := by
  intro H Q id s d p w f hQ
  refine hW _ _ _ _ (S.cl_parse_parser_place hT ?_)
  unfold S.parse_parser_place
  have hid := lt_of_ps p
  simp only [abox, if_true, DoH_some]
  have p2 : PS (H.push (.row [.str [], .lst .nil 0 []])) id s := p.pushL _
  have a1 : At (H.push (.row [.str [], .lst .nil 0 []])) H.n (.row [.str [], .lst .nil 0 []]) := At.new H _
  have kk : KeepP id H (H.push (.row [.str [], .lst .nil 0 []])) := KeepP.push id H _
  refine p_name hT hkw p2 fun H4 k4 p4 => ?_
  have b1 := k4.2 _ _ (by omega) a1
  have hn4 : H.n < H4.n := b1.1
  rw [show abuild [.str [], .lst .nil 0 []] [(0, 1, .str (s.nameT kw))] = some (.agg [.str (s.nameT kw), .lst .nil 0 []]) from rfl]
  simp only [Do_of]
  rw [store_new H4 [.str [], .lst .nil 0 []] _ 2 rfl rfl rfl]
  simp only [Do_of]
  have sn := Sub.nameS kw s
  exact parts_loop hT hkw hid (Nat.le_refl _) (by omega) (by omega) n hex _ (s.nameS kw) (.lst .nil 0 []) [] [] ((kk.trans k4).pushL _) (p4.pushL _) (sn.1 w) (sn.few f) (.inr (by have := p4.2.1; simp only [List.length_nil]; omega)) (b1.push _) (At.new H4 _) (OwnT.nil _ _ _) rfl hQ
end
end Rb

/- Package parse: two expressions; accesses; expressions. -/
set_option linter.unusedVariables false
set_option linter.unusedSimpArgs false
set_option linter.unusedSectionVars false
namespace Rb
open Go

def z8 : List AV := [.int .i64 0, .int .u64 0, .str [], .int .i64 0, .int .i64 0, .str [], .lst .nil 0 [], .lst .nil 0 []]
section
variable {Φ : Calls'} {kw : List UInt8 → Bool} {val : List UInt8 → Int}
theorem p_binary (hT : Cl Φ S.tab_Lex) (hW : Wk Φ) {n : Nat} (hex : ExpOK Φ kw val n) {H : AH} {Q : Post} {id : Nat} {s : PSt} {d : Int} (p : PS H id s) (w : Wf s) (f : Few n s)
    (hQ : ∀ H', KeepP id H H' → PS H' id (binM (fun d s => exprM kw val n d s) d s).2 → Q (.agg (binM (fun d s => exprM kw val n d s) d s).1.cells) H') : Φ K.parse_parser_binary [.ptr id 0, .int .i64 d] H Q := by
  refine hW _ _ _ _ (S.cl_parse_parser_binary hT ?_)
  unfold S.parse_parser_binary
  have hid := lt_of_ps p
  have ez : ([.int .i64 0, .int .u64 0, .str [], .int .i64 0, .int .i64 0, .str [], .lst .nil 0 [], .lst .nil 0 []] : List AV) = z8 := rfl
  rw [ez]
  simp only [abox, if_true, DoH_some, abin_add, Do_of]
  have a1 : At (H.push (.row z8)) H.n (.row z8) := At.new H _
  have sa := Sub.expr kw val n (x64 (d + 1)) s
  refine hex _ _ _ _ _ (p.pushL _) w f fun H5 k5 p5 => ?_
  have b1 := k5.2 _ _ (by omega) a1
  have hn5 : H.n < H5.n := b1.1
  have k0 := (KeepP.push id H (.row z8)).trans k5
  have em : binM (fun d s => exprM kw val n d s) d s = binM (fun d s => exprM kw val n d s) d s := rfl
  conv at em => rhs; unfold binM
  dsimp only at em
  generalize exprM kw val n (x64 (d + 1)) s = a at p5 sa em
  rw [store_new H5 z8 _ 8 (GExpr.len _) (GExpr.scalar _) rfl]
  simp only [Do_of]
  have p8 := p5.pushL (.row a.1.cells)
  have c6 : At (H5.push (.row a.1.cells)) H5.n (.row a.1.cells) := At.new H5 _
  have c1 := b1.push (.row a.1.cells)
  have k8 := k0.pushL (.row a.1.cells)
  generalize H5.push (.row a.1.cells) = H8 at p8 c6 c1 k8
  refine p_peek hT p8 ?_
  refine p_operator hT ?_
  refine p_bad hT p8 ?_
  -- the second expression
  have k1 : ∀ (s4 : PSt) (H24 : AH), s4 = (if (if a.2.fk = 0 ∧ operM a.2.hd.1 = 0 then a.2.fail 4 else a.2).fk = 0 then (if a.2.fk = 0 ∧ operM a.2.hd.1 = 0 then a.2.fail 4 else a.2).adv else (if a.2.fk = 0 ∧ operM a.2.hd.1 = 0 then a.2.fail 4 else a.2)) → Sub a.2 s4 → KeepP id H H24 → PS H24 id s4 → At H24 H.n (.row z8) → At H24 H5.n (.row a.1.cells) →
      JoinP (S.parse_parser_binary_k1 Φ (.ptr id 0) (.int .i64 d) (.ptr H.n 0) (.ptr H5.n 0) (.int .i64 (operM a.2.hd.1)) fun v H' => Q v.weak H') [] H24 := by
    intro s4 H24 e4 sb kk pp d1 d6
    simp only [JoinP_def, S.parse_parser_binary_k1, abin_add, Do_of, ez]
    rw [← e4] at em
    refine hex _ _ _ _ _ pp ((sa.trans sb).1 w) ((sa.trans sb).few f) fun H32 k32 p32 => ?_
    generalize exprM kw val n (x64 (d + 1)) s4 = b at p32 em
    rw [em] at hQ
    have e1 := k32.2 _ _ (by omega) d1
    have e6 := k32.2 _ _ (by have := d6.1; have := lt_of_ps pp; omega) d6
    simp only [abox, if_true, DoH_some]
    rw [store_new H32 z8 _ 8 (GExpr.len _) (GExpr.scalar _) rfl]
    simp only [Do_of]
    have hn : H5.n < H32.n := e6.1
    refine p_want hT (p32.pushL (.row b.1.cells)) fun H37 k37 p37 => ?_
    have g1 := k37.2 _ _ (by omega) (e1.push (.row b.1.cells))
    have g6 := k37.2 _ _ (by omega) (e6.push (.row b.1.cells))
    have g33 := k37.2 _ _ (by omega) (At.new H32 (.row b.1.cells))
    rw [g6.load, takeCells_whole (GExpr.len _)]
    simp only [Do_of]
    rw [g33.load, takeCells_whole (GExpr.len _)]
    simp only [Do_of]
    have hbs : abslice H37 false 8 2 z8 [(0, 8, .agg a.1.cells), (8, 8, .agg b.1.cells)] = some (.lst .full 2 (a.1.cells ++ b.1.cells), H37) := by
      have ha := GExpr.len a.1
      have hb := GExpr.len b.1
      simp only [abslice, fillA, AV.known, AV.cells, ha, hb]
      rw [GExpr.cells_eq a.1, GExpr.cells_eq b.1, GPlace.cells_eq a.1.place, GPlace.cells_eq b.1.place]
      rfl
    rw [hbs]
    simp only [DoH_some]
    rw [show abuild z8 [(0, 1, .int .i64 3), (3, 1, .int .i64 (operM a.2.hd.1)), (7, 1, .lst .full 2 (a.1.cells ++ b.1.cells))] = some (.agg [.int .i64 3, .int .u64 0, .str [], .int .i64 (operM a.2.hd.1), .int .i64 0, .str [], .lst .nil 0 [], .lst .full 2 (a.1.cells ++ b.1.cells)]) from rfl]
    simp only [Do_of]
    rw [g1.store, if_pos ⟨rfl, rfl, rfl, by decide⟩]
    simp only [Do_of, AV.cells]
    rw [setCells_all rfl, (g1.set _).load]
    simp only [List.take_zero, List.nil_append]
    rw [takeCells_whole (n := 8) rfl]
    simp only [Do_of]
    have := hQ (H37.set H.n (.row [.int .i64 3, .int .u64 0, .str [], .int .i64 (operM a.2.hd.1), .int .i64 0, .str [], .lst .nil 0 [], .lst .full 2 (a.1.cells ++ b.1.cells)])) ((((kk.trans k32).pushL _).trans k37).setL (Nat.le_refl _) _) (p37.setL (by omega) _)
    rw [GExpr.cells_eq, GPlace.cells_eq] at this
    simp only [AV.weak, AV.weaks, weaks_app, GExpr.weaks]
    simpa [lstA, plZ] using this
  have k2 : ∀ (s3 : PSt) (H14 : AH), s3 = (if a.2.fk = 0 ∧ operM a.2.hd.1 = 0 then a.2.fail 4 else a.2) → KeepP id H H14 → PS H14 id s3 → At H14 H.n (.row z8) → At H14 H5.n (.row a.1.cells) →
      JoinP (S.parse_parser_binary_k2 Φ (.ptr id 0) (.int .i64 d) (.ptr H.n 0) (.ptr H5.n 0) (.int .i64 (operM a.2.hd.1)) fun v H' => Q v.weak H') [] H14 := by
    intro s3 H14 e3 kk pp d1 d6
    have sb : Sub a.2 s3 := by
      rw [e3]; split
      · exact Sub.fail _ _
      · exact Sub.rfl _
    simp only [JoinP_def, S.parse_parser_binary_k2]
    refine p_bad hT pp ?_
    simp only [aun_not, Do_of, Gd_true]
    refine ite_both (fun hx => ?_) (fun hx => ?_)
    · have h0 : s3.fk = 0 := by simpa using hx
      refine p_next hT pp fun H29 k29 p29 => ?_
      exact k1 s3.adv H29 (by rw [← e3, if_pos h0]) (sb.trans (Sub.adv _)) (kk.trans k29) p29 (k29.2 _ _ (by omega) d1) (k29.2 _ _ (by omega) d6)
    · have h0 : s3.fk ≠ 0 := by simpa using hx
      exact k1 s3 H14 (by rw [← e3, if_neg h0]) sb kk pp d1 d6
  have k3 : ∀ b : Bool, (b = true ↔ (a.2.fk = 0 ∧ operM a.2.hd.1 = 0)) → JoinP (S.parse_parser_binary_k3 Φ (.ptr id 0) (.int .i64 d) (.ptr H.n 0) (.ptr H5.n 0) (.int .i64 (operM a.2.hd.1)) fun v H' => Q v.weak H') [.bool b] H8 := by
    intro b hb
    simp only [JoinP_def, S.parse_parser_binary_k3, sl_zero, Gd_true]
    refine ite_both (fun hx => ?_) (fun hx => ?_)
    · refine p_fail hT p8 fun H22 k22 p22 => ?_
      exact k2 _ H22 (by rw [if_pos (hb.1 hx)]) (k8.trans k22) p22 (k22.2 _ _ (by omega) c1) (k22.2 _ _ (by omega) c6)
    · exact k2 _ H8 (by rw [if_neg (fun h => hx (hb.2 h))]) k8 p8 c1 c6
  simp only [aun_not, Do_of, Gd3_true, abin_eql]
  refine ite_both (fun hx => ?_) (fun hx => ?_)
  · have h0 : a.2.fk = 0 := by simpa using hx
    exact k3 _ (by simp [h0])
  · have h0 : a.2.fk ≠ 0 := by simpa using hx
    exact k3 _ (by simp [h0])
end
end Rb

/- Package parse: accesses. -/
set_option linter.unusedVariables false
set_option linter.unusedSimpArgs false
set_option linter.unusedSectionVars false
namespace Rb
open Go
section
variable {Φ : Calls'} {kw : List UInt8 → Bool} {val : List UInt8 → Int}
/-- The kids of an access. -/
theorem kids_loop (hT : Cl Φ S.tab_Lex) {H0 : AH} {Q : Post} {id i1 i4 : Nat} {d kind o : Int} {pl : GPlace} {n : Nat} (hex : ExpOK Φ kw val n) (hid : id < H0.n) (h1 : H0.n ≤ i1) (h4 : H0.n ≤ i4) (hne : i1 ≠ i4) {tot : Nat} (htot : tot ≤ 2) :
    ∀ (k : Nat) (H : AH) (s : PSt) (L : AV) (done : List GExpr), done.length + k = tot → KeepP id H0 H → PS H id s → Wf s → Few n s →
    At H i1 (.row z8) → At H i4 (.row ([.int .i64 kind, .int .u64 0, .str [], .int .i64 0, .int .i64 o] ++ pl.cells ++ [L])) → OwnT H0.n H 8 L done.length (done.flatMap GExpr.cells) →
    (∀ H', KeepP id H0 H' → PS H' id (kidsM (fun d s => exprM kw val n d s) d k s).2 → Q (.agg (GExpr.cells ⟨kind, 0, [], 0, o, pl, done ++ (kidsM (fun d s => exprM kw val n d s) d k s).1⟩)) H') →
    LoopP (S.parse_parser_access_l2 Φ (.ptr id 0) (.int .i64 tot) (.int .i64 d) (.ptr i1 0) (.ptr i4 0) fun v H' => Q v.weak H') ([.int .i64 done.length], H) := by
  have hld : ∀ {H : AH} {L : AV}, At H i4 (.row ([.int .i64 kind, .int .u64 0, .str [], .int .i64 0, .int .i64 o] ++ pl.cells ++ [L])) → aload H 1 false (.ptr i4 7) = some L := fun h => by
    rw [h.load, GPlace.cells_eq]; rfl
  intro k
  induction k with
  | zero =>
    intro H s L done hk kk p w f a1 a4 ow hQ
    refine LoopP.step ?_
    simp only [S.parse_parser_access_l2, sl_zero, abin_lss, Do_of, Gd_true]
    rw [if_neg (by simp only [decide_eq_true_eq]; omega)]
    simp only [JoinP_def, S.parse_parser_access_k1]
    have hsc : L.scalar = true := by obtain ⟨tk, rfl, _, _⟩ := ow; rfl
    rw [a4.load, takeCells_whole (by simp [GPlace.len])]
    simp only [Do_of]
    rw [a1.store, if_pos ⟨rfl, by simp [AV.cells, GPlace.len], by simp only [AV.cells, List.all_append, List.all_cons, GPlace.scalar, hsc]; rfl, by decide⟩]
    simp only [Do_of, AV.cells]
    rw [setCells_all (by simp [GPlace.len, z8]), (a1.set _).load]
    simp only [List.take_zero, List.nil_append]
    rw [takeCells_whole (by simp [GPlace.len])]
    simp only [Do_of]
    have hwk : L.weak = lstA GExpr.cells done := by
      have hs : AV.weaks (done.flatMap GExpr.cells) = done.flatMap GExpr.cells := by rw [← GExpr.all_eq]; exact GExpr.weaksA done
      rw [ow.weak hs]; rfl
    have := hQ (H.set i1 (.row ([.int .i64 kind, .int .u64 0, .str [], .int .i64 0, .int .i64 o] ++ pl.cells ++ [L]))) (kk.setL h1 _) (p.setL (by omega) _)
    simp only [kidsM, List.append_nil] at this
    rw [GExpr.cells_eq] at this
    simp only [AV.weak, weaks_app, AV.weaks, GPlace.weaks, hwk]
    simpa using this
  | succ k ih =>
    intro H s L done hk kk p w f a1 a4 ow hQ
    refine LoopP.step ?_
    simp only [S.parse_parser_access_l2, sl_zero, abin_lss, Do_of, Gd_true]
    rw [if_pos (by simp only [decide_eq_true_eq]; omega)]
    simp only [afaddr, Do_of, Nat.zero_add]
    rw [hld a4]
    simp only [Do_of, abin_add]
    have se := Sub.expr kw val n (x64 (d + 1)) s
    refine hex _ _ _ _ _ p w f fun H2 k2 p2 => ?_
    have c1 := k2.2 _ _ (by omega) a1
    have c4 := k2.2 _ _ (by omega) a4
    have ow2 := ow.keep hid k2
    have em : kidsM (fun d s => exprM kw val n d s) d (k + 1) s = ((exprM kw val n (x64 (d + 1)) s).1 :: (kidsM (fun d s => exprM kw val n d s) d k (exprM kw val n (x64 (d + 1)) s).2).1, (kidsM (fun d s => exprM kw val n d s) d k (exprM kw val n (x64 (d + 1)) s).2).2) := rfl
    rw [em] at hQ
    generalize exprM kw val n (x64 (d + 1)) s = e at p2 hQ se
    refine ⟨hld c4, ?_⟩
    rw [agg8_slice]
    simp only [DoH_some]
    refine ow2.app (Nat.le_trans kk.1 k2.1) (m := 1) (news := e.1.cells) (by simp [acells, GExpr.len]) (by rw [GExpr.len]) (GExpr.scalar _) (by decide) (by omega) (by omega) fun x' H3 ow3 l3 => ?_
    have d1 := l3.row c1
    have d4 := l3.row c4
    have hsx : x'.scalar = true := by obtain ⟨tk, rfl, _, _⟩ := ow3; rfl
    have hcx : x'.cells = [x'] := by obtain ⟨tk, rfl, _, _⟩ := ow3; rfl
    have hkx : x'.known = true := by obtain ⟨tk, rfl, _, _⟩ := ow3; rfl
    rw [d4.store, if_pos ⟨hkx, by rw [hcx]; rfl, by rw [hcx]; simp [hsx], by simp [GPlace.len]⟩, hcx]
    simp only [Do_of]
    have er : setCells ([.int .i64 kind, .int .u64 0, .str [], .int .i64 0, .int .i64 o] ++ pl.cells ++ [L]) 7 [x'] = [.int .i64 kind, .int .u64 0, .str [], .int .i64 0, .int .i64 o] ++ pl.cells ++ [x'] := by
      rw [GPlace.cells_eq]; rfl
    rw [er, wrap_i64 (by omega) (by omega)]
    have hq' := ih (H3.set i4 (.row ([.int .i64 kind, .int .u64 0, .str [], .int .i64 0, .int .i64 o] ++ pl.cells ++ [x']))) e.2 x' (done ++ [e.1]) (by rw [List.length_append, List.length_singleton]; omega) (((kk.trans k2).left l3).setL h4 _) ((p2.left l3).setL (by omega) _) (se.1 w) (se.few f) (d1.set_ne hne _) (d4.set _) ?_ fun H' k' p' => ?_
    · rw [List.length_append, List.length_singleton] at hq'
      exact hq'
    · have : OwnT H0.n H3 8 x' (done ++ [e.1]).length ((done ++ [e.1]).flatMap GExpr.cells) := by
        rw [List.length_append, List.length_singleton, List.flatMap_append]
        simpa using ow3
      exact this.frame fun t a b ht => ht.set_ne (fun e => by subst e; have := ht.2.symm.trans d4.2; cases this) _
    · have := hQ H' k' p'
      rw [List.append_assoc]
      exact this
theorem p_access (hT : Cl Φ S.tab_Lex) (hW : Wk Φ) {n : Nat} (hex : ExpOK Φ kw val n) (hpl : PlaceOK Φ kw val n) {H : AH} {Q : Post} {id : Nat} {s : PSt} {kind d : Int} {m : Nat} (hm : m ≤ 2) (p : PS H id s) (w : Wf s) (f : Few n s)
    (hQ : ∀ H', KeepP id H H' → PS H' id (accM kw (fun d s => exprM kw val n d s) (fun d s => partsM kw val n d s) kind m d s).2 → Q (.agg (accM kw (fun d s => exprM kw val n d s) (fun d s => partsM kw val n d s) kind m d s).1.cells) H') : Φ K.parse_parser_access [.ptr id 0, .int .i64 kind, .int .i64 m, .int .i64 d] H Q := by
  refine hW _ _ _ _ (S.cl_parse_parser_access hT ?_)
  unfold S.parse_parser_access
  have hid := lt_of_ps p
  have ez : ([.int .i64 0, .int .u64 0, .str [], .int .i64 0, .int .i64 0, .str [], .lst .nil 0 [], .lst .nil 0 []] : List AV) = z8 := rfl
  rw [ez]
  simp only [abox, if_true, DoH_some]
  rw [show abuild z8 [(0, 1, .int .i64 kind)] = some (.agg [.int .i64 kind, .int .u64 0, .str [], .int .i64 0, .int .i64 0, .str [], .lst .nil 0 [], .lst .nil 0 []]) from rfl]
  simp only [Do_of]
  have a1 : At (H.push (.row z8)) H.n (.row z8) := At.new H _
  have hn1 : (H.push (.row z8)).n = H.n + 1 := rfl
  have kk := KeepP.push id H (.row z8)
  have p1 := p.pushL (.row z8)
  generalize H.push (.row z8) = H1 at a1 hn1 kk p1
  rw [store_new H1 z8 _ 8 rfl rfl rfl]
  simp only [Do_of]
  have a4 : At (H1.push (.row [.int .i64 kind, .int .u64 0, .str [], .int .i64 0, .int .i64 0, .str [], .lst .nil 0 [], .lst .nil 0 []])) H1.n (.row [.int .i64 kind, .int .u64 0, .str [], .int .i64 0, .int .i64 0, .str [], .lst .nil 0 [], .lst .nil 0 []]) := At.new H1 _
  have b1 := a1.push (.row [.int .i64 kind, .int .u64 0, .str [], .int .i64 0, .int .i64 0, .str [], .lst .nil 0 [], .lst .nil 0 []])
  have k6 := kk.pushL (.row [.int .i64 kind, .int .u64 0, .str [], .int .i64 0, .int .i64 0, .str [], .lst .nil 0 [], .lst .nil 0 []])
  have p6 := p1.pushL (.row [.int .i64 kind, .int .u64 0, .str [], .int .i64 0, .int .i64 0, .str [], .lst .nil 0 [], .lst .nil 0 []])
  generalize H1.push (.row [.int .i64 kind, .int .u64 0, .str [], .int .i64 0, .int .i64 0, .str [], .lst .nil 0 [], .lst .nil 0 []]) = H6 at a4 b1 k6 p6
  have k3 : ∀ (o : Int × PSt) (H8 : AH), o = (if kind = 4 then (0, s) else orderM s) → Sub s o.2 → KeepP id H H8 → PS H8 id o.2 → At H8 H.n (.row z8) → At H8 H1.n (.row [.int .i64 kind, .int .u64 0, .str [], .int .i64 0, .int .i64 o.1, .str [], .lst .nil 0 [], .lst .nil 0 []]) →
      JoinP (S.parse_parser_access_k3 Φ (.ptr id 0) (.int .i64 m) (.int .i64 d) (.ptr H.n 0) (.ptr H1.n 0) fun v H' => Q v.weak H') [] H8 := by
    intro o H8 eo so k8 p8 c1 c4
    simp only [JoinP_def, S.parse_parser_access_k3]
    have sp := Sub.place kw (Sub.parts kw val n) d o.2
    refine hpl _ _ _ _ _ p8 (so.1 w) (so.few f) fun H15 k15 p15 => ?_
    have em : accM kw (fun d s => exprM kw val n d s) (fun d s => partsM kw val n d s) kind m d s = (⟨kind, 0, [], 0, o.1, (placeM' kw (partsM kw val n) d o.2).1, (kidsM (fun d s => exprM kw val n d s) d m (placeM' kw (partsM kw val n) d o.2).2).1⟩, (kidsM (fun d s => exprM kw val n d s) d m (placeM' kw (partsM kw val n) d o.2).2).2) := by
      unfold accM
      dsimp only
      rw [← eo]
    rw [em] at hQ
    generalize placeM' kw (partsM kw val n) d o.2 = pl at p15 hQ sp
    have d1 := k15.2 _ _ (by omega) c1
    have d4 := k15.2 _ _ (by omega) c4
    simp only [afaddr, Do_of, Nat.zero_add]
    rw [d4.store, if_pos ⟨rfl, GPlace.len _, GPlace.scalar _, by simp⟩]
    simp only [Do_of, AV.cells]
    have er : setCells [.int .i64 kind, .int .u64 0, .str [], .int .i64 0, .int .i64 o.1, .str [], .lst .nil 0 [], .lst .nil 0 []] 5 pl.1.cells = [.int .i64 kind, .int .u64 0, .str [], .int .i64 0, .int .i64 o.1] ++ pl.1.cells ++ [.lst .nil 0 []] := by
      rw [GPlace.cells_eq]; rfl
    rw [er]
    exact kids_loop hT (pl := pl.1) hex hid (Nat.le_refl _) (by omega) (by omega) hm m _ pl.2 (.lst .nil 0 []) [] (by simp) ((k8.trans k15).setL (by omega) _) (p15.setL (by omega) _) (sp.1 (so.1 w)) (sp.few (so.few f)) (d1.set_ne (by omega) _) (d4.set _) (OwnT.nil _ _ _) hQ
  simp only [abin_neq, Do_of, Gd_true]
  refine ite_both (fun hx => ?_) (fun hx => ?_)
  · have hk : kind ≠ 4 := by simpa using hx
    refine p_order hT p6 fun H11 k11 p11 => ?_
    have c1 := k11.2 _ _ (by omega) b1
    have c4 := k11.2 _ _ (by omega) a4
    simp only [afaddr, Do_of, Nat.zero_add]
    rw [c4.store, if_pos ⟨rfl, rfl, rfl, by simp⟩]
    simp only [Do_of, AV.cells]
    exact k3 (orderM s) _ (by rw [if_neg hk]) (Sub.order s) ((k6.trans k11).setL (by omega) _) (p11.setL (by omega) _) (c1.set_ne (by omega) _) (c4.set _)
  · have hk : kind = 4 := by simpa using hx
    exact k3 (0, s) _ (by rw [if_pos hk]) (Sub.rfl s) k6 p6 b1 a4
end
end Rb

/- Package parse: expressions. -/
set_option linter.unusedVariables false
set_option linter.unusedSimpArgs false
set_option linter.unusedSectionVars false
namespace Rb
open Go
section
variable {Φ : Calls'} {kw : List UInt8 → Bool} {val : List UInt8 → Int}
theorem p_expr (hT : Cl Φ S.tab_Lex) (hW : Wk Φ) (hkw : ∀ x, Val Φ K.lex_Keyword [.str x] (.bool (kw x))) (hv : NumV Φ val) : ∀ n, ExpOK Φ kw val n := by
  intro n
  induction n using Nat.strongRecOn with
  | ind n ih =>
  intro H Q id s d p w f hQ
  refine hW _ _ _ _ (S.cl_parse_parser_expr hT ?_)
  unfold S.parse_parser_expr
  have hid := lt_of_ps p
  have ez : ([.int .i64 0, .int .u64 0, .str [], .int .i64 0, .int .i64 0, .str [], .lst .nil 0 [], .lst .nil 0 []] : List AV) = z8 := rfl
  rw [ez]
  simp only [abox, if_true, DoH_some]
  have p2 : PS (H.push (.row z8)) id s := p.pushL _
  have a1 : At (H.push (.row z8)) H.n (.row z8) := At.new H _
  have kk : KeepP id H (H.push (.row z8)) := KeepP.push id H _
  have ret : ∀ (ds : List AV) (t : GExpr) (s' : PSt) (H' : AH), KeepP id H H' → PS H' id s' → At H' H.n (.row z8) → AV.weaks ds = t.cells → ds.all AV.scalar = true → (∀ H', KeepP id H H' → PS H' id s' → Q (.agg t.cells) H') →
      Do (astore H' 8 (.ptr H.n 0) (.agg ds)) fun H'' => Do (aload H'' 8 true (.ptr H.n 0)) fun v => Q v.weak H'' := by
    intro ds t s' H' k' p' a' hds hsc hq
    have hl : ds.length = 8 := by rw [← weaks_len, hds, GExpr.len]
    rw [a'.store, if_pos ⟨rfl, hl, hsc, by decide⟩]
    simp only [Do_of, AV.cells]
    rw [setCells_all (by rw [hl]; rfl), (a'.set _).load]
    simp only [List.take_zero, List.nil_append]
    rw [takeCells_whole hl]
    simp only [Do_of, AV.weak, hds]
    exact hq _ (k'.setL (Nat.le_refl _) _) (p'.setL (by omega) _)
  have bz : abuild z8 [] = some (.agg z8) := rfl
  refine p_deep hT p2 fun H4 k4 p4 => ?_
  have b1 := k4.2 _ _ (by omega) a1
  have kb := kk.trans k4
  have sd := Sub.deep s d
  simp only [aun_not, Do_of, Gd_true, bz]
  have bad : ∀ s' : PSt, (exprM kw val n d s) = (exZ, s') → PS H4 id s' → Do (astore H4 8 (.ptr H.n 0) (.agg z8)) fun H7 => Do (aload H7 8 true (.ptr H.n 0)) fun x8 => Q x8.weak H7 := by
    intro s' e ps
    rw [e] at hQ
    exact ret z8 exZ s' H4 kb ps b1 rfl rfl hQ
  cases n with
  | zero =>
    have hb := f.zero w
    have e : s.deep d = s := by
      unfold PSt.deep
      split
      · unfold PSt.fail; rw [if_neg hb]
      · rfl
    rw [e] at p4 ⊢
    rw [if_pos (by simpa using hb)]
    exact bad s (by unfold exprM; rfl) p4
  | succ n =>
  have f1 := sd.few f
  have w1 := sd.1 w
  have hex := ih n (Nat.lt_succ_self n)
  have hpl : PlaceOK Φ kw val n := p_place hT hW hkw fun m hm => ih m (by omega)
  conv at hQ => intro H' _; unfold exprM
  dsimp only at hQ
  generalize es : s.deep d = s1 at p4 sd f1 w1 hQ
  refine ite_both (fun hx => ?_) (fun hx => ?_)
  · have hb : s1.fk ≠ 0 := by simpa using hx
    rw [if_pos hb] at hQ
    exact ret z8 exZ s1 H4 kb p4 b1 rfl rfl hQ
  have h0 : s1.fk = 0 := by simpa using hx
  rw [if_neg (by simpa using h0)] at hQ
  refine p_peek hT p4 ?_
  refine p_digits hT ?_
  refine ite_both (fun hd => ?_) (fun hd => ?_)
  · rw [if_pos hd] at hQ
    refine p_num hT hv p4 w1 fun H16 k16 p16 => ?_
    rw [show abuild z8 [(0, 1, .int .i64 1), (1, 1, .int .u64 (s1.num val 18446744073709551615).1)] = some (.agg [.int .i64 1, .int .u64 (s1.num val 18446744073709551615).1, .str [], .int .i64 0, .int .i64 0, .str [], .lst .nil 0 [], .lst .nil 0 []]) from rfl]
    simp only [Do_of]
    exact ret _ ⟨1, (s1.num val 18446744073709551615).1, [], 0, 0, plZ, []⟩ _ H16 (kb.trans k16) p16 (k16.2 _ _ (by omega) b1) rfl rfl hQ
  rw [if_neg hd] at hQ
  have k2 : ∀ b : Bool, (b = true ↔ (lettersM s1.hd.1 = true ∧ kw s1.hd.1 = false)) → JoinP (S.parse_parser_expr_k2 Φ (.ptr id 0) (.int .i64 d) (.ptr H.n 0) fun v H' => Q v.weak H') [.bool b] H4 := by
    intro b hb
    simp only [JoinP_def, S.parse_parser_expr_k2, sl_zero, Gd_true, ez]
    refine ite_both (fun hl => ?_) (fun hl => ?_)
    · rw [if_pos (hb.1 hl)] at hQ
      refine p_next hT p4 fun H28 k28 p28 => ?_
      rw [show abuild z8 [(0, 1, .int .i64 2), (2, 1, .str s1.hd.1)] = some (.agg [.int .i64 2, .int .u64 0, .str s1.hd.1, .int .i64 0, .int .i64 0, .str [], .lst .nil 0 [], .lst .nil 0 []]) from rfl]
      simp only [Do_of]
      exact ret _ ⟨2, 0, s1.hd.1, 0, 0, plZ, []⟩ _ H28 (kb.trans k28) p28 (k28.2 _ _ (by omega) b1) rfl rfl hQ
    rw [if_neg (fun h => hl (hb.2 h))] at hQ
    have yes : ∀ {w' : List UInt8}, s1.isW w' = true → s1.isA w' = s1.adv := fun h => by unfold PSt.isA; rw [if_pos h]
    have no : ∀ {w' : List UInt8}, ¬ s1.isW w' = true → s1.isA w' = s1 := fun h => by unfold PSt.isA; rw [if_neg h]
    refine p_is hT p4 fun H5 k5 p5 => ?_
    have kb5 := kb.trans k5
    have b5 := k5.2 _ _ (by omega) b1
    refine ite_both (fun hy => ?_) (fun hy => ?_)
    · rw [yes hy] at p5
      rw [if_pos hy] at hQ
      refine p_binary hT hW hex p5 w1.adv (f1.isW w1 hy (by decide)) fun H6 k6 p6 => ?_
      exact ret _ _ _ H6 (kb5.trans k6) p6 (k6.2 _ _ (by omega) b5) (GExpr.weaks _) (GExpr.scalar _) hQ
    rw [no hy] at p5
    rw [if_neg hy] at hQ
    refine p_is hT p5 fun H7 k7 p7 => ?_
    have kb7 := kb5.trans k7
    have b7 := k7.2 _ _ (by omega) b5
    refine ite_both (fun hy => ?_) (fun hy => ?_)
    · rw [yes hy] at p7
      rw [if_pos hy] at hQ
      refine p_access hT hW hex hpl (m := 0) (by decide) p7 w1.adv (f1.isW w1 hy (by decide)) fun H6 k6 p6 => ?_
      exact ret _ _ _ H6 (kb7.trans k6) p6 (k6.2 _ _ (by omega) b7) (GExpr.weaks _) (GExpr.scalar _) hQ
    rw [no hy] at p7
    rw [if_neg hy] at hQ
    refine p_is hT p7 fun H8 k8 p8 => ?_
    have kb8 := kb7.trans k8
    have b8 := k8.2 _ _ (by omega) b7
    refine ite_both (fun hy => ?_) (fun hy => ?_)
    · rw [yes hy] at p8
      rw [if_pos hy] at hQ
      refine p_access hT hW hex hpl (m := 0) (by decide) p8 w1.adv (f1.isW w1 hy (by decide)) fun H6 k6 p6 => ?_
      exact ret _ _ _ H6 (kb8.trans k6) p6 (k6.2 _ _ (by omega) b8) (GExpr.weaks _) (GExpr.scalar _) hQ
    rw [no hy] at p8
    rw [if_neg hy] at hQ
    refine p_is hT p8 fun H9 k9 p9 => ?_
    have kb9 := kb8.trans k9
    have b9 := k9.2 _ _ (by omega) b8
    refine ite_both (fun hy => ?_) (fun hy => ?_)
    · rw [yes hy] at p9
      rw [if_pos hy] at hQ
      refine p_access hT hW hex hpl (m := 1) (by decide) p9 w1.adv (f1.isW w1 hy (by decide)) fun H6 k6 p6 => ?_
      exact ret _ _ _ H6 (kb9.trans k6) p6 (k6.2 _ _ (by omega) b9) (GExpr.weaks _) (GExpr.scalar _) hQ
    rw [no hy] at p9
    rw [if_neg hy] at hQ
    refine p_is hT p9 fun H10 k10 p10 => ?_
    have kb10 := kb9.trans k10
    have b10 := k10.2 _ _ (by omega) b9
    refine ite_both (fun hy => ?_) (fun hy => ?_)
    · rw [yes hy] at p10
      rw [if_pos hy] at hQ
      refine p_access hT hW hex hpl (m := 1) (by decide) p10 w1.adv (f1.isW w1 hy (by decide)) fun H6 k6 p6 => ?_
      exact ret _ _ _ H6 (kb10.trans k6) p6 (k6.2 _ _ (by omega) b10) (GExpr.weaks _) (GExpr.scalar _) hQ
    rw [no hy] at p10
    rw [if_neg hy] at hQ
    refine p_is hT p10 fun H11 k11 p11 => ?_
    have kb11 := kb10.trans k11
    have b11 := k11.2 _ _ (by omega) b10
    refine ite_both (fun hy => ?_) (fun hy => ?_)
    · rw [yes hy] at p11
      rw [if_pos hy] at hQ
      refine p_access hT hW hex hpl (m := 2) (by decide) p11 w1.adv (f1.isW w1 hy (by decide)) fun H6 k6 p6 => ?_
      exact ret _ _ _ H6 (kb11.trans k6) p6 (k6.2 _ _ (by omega) b11) (GExpr.weaks _) (GExpr.scalar _) hQ
    rw [no hy] at p11
    rw [if_neg hy] at hQ
    simp only [JoinP_def, S.parse_parser_expr_k1, ez, bz]
    refine p_fail hT p11 fun H6 k6 p6 => ?_
    simp only [Do_of]
    exact ret z8 exZ (s1.fail 4) H6 (kb11.trans k6) p6 (k6.2 _ _ (by omega) b11) rfl rfl hQ
  refine p_letters hT ?_
  simp only [Gd3_true]
  refine ite_both (fun hl => ?_) (fun hl => ?_)
  · refine hkw _ _ _ ?_
    simp only [aun_not, Do_of]
    exact k2 _ (by simp [hl])
  · exact k2 _ (by simp [hl])
end
end Rb

/- Package parse: statements: fewer words, faults stay. -/
set_option linter.unusedVariables false
set_option linter.unusedSimpArgs false
set_option linter.unusedSectionVars false
namespace Rb
open Go
section
variable (kw : List UInt8 → Bool) (val : List UInt8 → Int)
theorem Sub.block {ss : Int → PSt → List GStmt × PSt} (h : ∀ d s, Sub s (ss d s).2) (d : Int) (s : PSt) : Sub s (blockF ss d s).2 := by
  unfold blockF
  dsimp only
  split
  · exact Sub.deep _ _
  · exact ((Sub.deep _ _).trans (Sub.want _ _)).trans (h _ _)
theorem Sub.value {ex : Int → PSt → GExpr × PSt} (h : ∀ d s, Sub s (ex d s).2) (d : Int) (s : PSt) : Sub s (valueF ex d s).2 := (Sub.want _ _).trans (h _ _)
theorem Sub.control {ex : Int → PSt → GExpr × PSt} {ss : Int → PSt → List GStmt × PSt} (h : ∀ d s, Sub s (ex d s).2) (k : ∀ d s, Sub s (ss d s).2) (x : GStmt) (d : Int) (s : PSt) : Sub s (controlF ex ss x d s).2 := by
  unfold controlF
  dsimp only
  repeat' split
  · exact ((((Sub.adv _).trans (h _ _)).trans (Sub.block k _ _)).trans (Sub.adv _)).trans (Sub.block k _ _)
  · exact ((Sub.adv _).trans (h _ _)).trans (Sub.block k _ _)
  · exact ((Sub.adv _).trans (h _ _)).trans (Sub.block k _ _)
  · exact Sub.fail _ _
theorem Sub.stmt {ex : Int → PSt → GExpr × PSt} {pa : Int → PSt → List GPart × PSt} {ss : Int → PSt → List GStmt × PSt} (h : ∀ d s, Sub s (ex d s).2) (g : ∀ d s, Sub s (pa d s).2) (k : ∀ d s, Sub s (ss d s).2) (d : Int) (s : PSt) : Sub s (stmtF kw ex pa ss d s).2 := by
  unfold stmtF
  dsimp only
  repeat' split
  · exact (((Sub.adv _).trans (Sub.nameS kw _)).trans (Sub.value h _ _)).trans (Sub.want _ _)
  · exact (((Sub.adv _).trans (Sub.nameS kw _)).trans (Sub.value h _ _)).trans (Sub.want _ _)
  · exact (((Sub.adv _).trans (Sub.place kw g _ _)).trans (Sub.value h _ _)).trans (Sub.want _ _)
  · exact ((((Sub.adv _).trans (Sub.order _)).trans (Sub.place kw g _ _)).trans (Sub.value h _ _)).trans (Sub.want _ _)
  · exact (((((Sub.adv _).trans (Sub.order _)).trans (Sub.place kw g _ _)).trans (Sub.nameS kw _)).trans (Sub.nameS kw _)).trans (Sub.want _ _)
  · exact ((((((Sub.adv _).trans (Sub.order _)).trans (Sub.place kw g _ _)).trans (Sub.value h _ _)).trans (Sub.want _ _)).trans (h _ _)).trans (Sub.want _ _)
  · exact ((Sub.adv _).trans (Sub.order _)).trans (Sub.want _ _)
  · exact ((Sub.adv _).trans (h _ _)).trans (Sub.want _ _)
  · exact Sub.control h k _ _ _
theorem Sub.stmts : ∀ (n : Nat) (d : Int) (s : PSt), Sub s (stmtsM kw val n d s).2
  | 0, d, s => by unfold stmtsM; exact Sub.rfl s
  | n + 1, d, s => by
    unfold stmtsM
    split
    · exact Sub.rfl s
    · split
      · exact Sub.adv s
      · exact (Sub.stmt kw (Sub.expr kw val n) (Sub.parts kw val n) (Sub.stmts n) d s).trans (Sub.stmts n _ _)
theorem Sub.vars : ∀ (n : Nat) (s : PSt), Sub s (varsM kw val n s).2
  | 0, s => by unfold varsM; exact Sub.rfl s
  | n + 1, s => by
    unfold varsM
    split
    · exact ((((Sub.adv _).trans (Sub.nameS kw _)).trans (Sub.typ kw val n _ _)).trans (Sub.want _ _)).trans (Sub.vars n _)
    · exact Sub.rfl s
theorem Sub.thrs : ∀ (n : Nat) (s : PSt), Sub s (thrsM kw val n s).2
  | 0, s => by unfold thrsM; exact Sub.rfl s
  | n + 1, s => by
    unfold thrsM
    split
    · exact ((Sub.adv _).trans (Sub.block (Sub.stmts kw val n) _ _)).trans (Sub.thrs n _)
    · exact Sub.rfl s
end
end Rb

/- Package parse: = and an expression. -/
set_option linter.unusedVariables false
set_option linter.unusedSimpArgs false
set_option linter.unusedSectionVars false
namespace Rb
open Go
section
variable {Φ : Calls'} {kw : List UInt8 → Bool} {val : List UInt8 → Int}
theorem p_value (hT : Cl Φ S.tab_Lex) {n : Nat} (hex : ExpOK Φ kw val n) {H : AH} {Q : Post} {id : Nat} {s : PSt} {d : Int} (p : PS H id s) (w : Wf s) (f : Few n s)
    (hQ : ∀ H', KeepP id H H' → PS H' id (valueF (exprM kw val n) d s).2 → Q (.lst .full 1 (valueF (exprM kw val n) d s).1.cells) H') : Φ K.parse_parser_value [.ptr id 0, .int .i64 d] H Q := by
  refine S.cl_parse_parser_value hT ?_
  unfold S.parse_parser_value
  refine p_want hT p fun H2 k2 p2 => ?_
  simp only [abin_add, Do_of]
  have sw := Sub.want s [61]
  refine hex _ _ _ _ _ p2 (sw.1 w) (sw.few f) fun H5 k5 p5 => ?_
  rw [agg8_slice]
  simp only [DoH_some]
  exact hQ H5 (k2.trans k5) p5
end
end Rb

/- Package parse: statements. -/
set_option linter.unusedVariables false
set_option linter.unusedSimpArgs false
set_option linter.unusedSectionVars false
namespace Rb
open Go

/-- A statement's row while it is made. -/
def z10 (l : Int) : List AV := [.int .i64 0, .int .i64 l, .str [], .str [], .int .i64 0, .str [], .lst .nil 0 [], .lst .nil 0 [], .lst .nil 0 [], .lst .nil 0 []]
structure SF (H0 : AH) (id i1 i10 : Nat) (H : AH) (s : PSt) (r : List AV) : Prop where
  hid : id < H0.n
  h1 : H0.n ≤ i1
  h10 : H0.n ≤ i10
  ne : i1 ≠ i10
  len : r.length = 10
  kk : KeepP id H0 H
  ps : PS H id s
  a1 : At H i1 (.row (z10 0))
  a10 : At H i10 (.row r)
section
variable {H0 H : AH} {id i1 i10 : Nat} {s : PSt} {r : List AV}
theorem SF.call (h : SF H0 id i1 i10 H s r) {H' : AH} {s' : PSt} (k : KeepP id H H') (p : PS H' id s') : SF H0 id i1 i10 H' s' r :=
  ⟨h.hid, h.h1, h.h10, h.ne, h.len, h.kk.trans k, p, k.2 _ _ (by have := h.hid; have := h.h1; omega) h.a1, k.2 _ _ (by have := h.hid; have := h.h10; omega) h.a10⟩
theorem setCells_len : ∀ (ys xs : List AV) (o : Nat), (setCells xs o ys).length = xs.length
  | [], xs, o => rfl
  | y :: ys, xs, o => by rw [setCells, setCells_len ys, List.length_set]
theorem SF.put (h : SF H0 id i1 i10 H s r) {r' : List AV} (hl : r'.length = 10) : SF H0 id i1 i10 (H.set i10 (.row r')) s r' :=
  ⟨h.hid, h.h1, h.h10, h.ne, hl, h.kk.setL h.h10 _, h.ps.setL (by have := h.hid; have := h.h10; omega) _, h.a1.set_ne h.ne _, h.a10.set _⟩
theorem SF.store (h : SF H0 id i1 i10 H s r) {n o : Nat} {v : AV} (hk : v.known = true) (hl : v.cells.length = n) (hs : v.cells.all AV.scalar = true) (ho : o + n ≤ 10) {K : AH → Prop} (hK : ∀ H', SF H0 id i1 i10 H' s (setCells r o v.cells) → K H') : Do (astore H n (.ptr i10 o) v) K := by
  rw [h.a10.st hk hl hs (by rw [h.len]; exact ho)]
  exact ⟨_, rfl, hK _ (h.put (by rw [setCells_len, h.len]))⟩
theorem SF.ret1 (h : SF H0 id i1 i10 H s r) {x : GStmt} {ds : List AV} {Q : Post} (hr : AV.weaks ds = x.cells) (hs : ds.all AV.scalar = true) (hq : ∀ H', KeepP id H0 H' → PS H' id s → Q (.agg x.cells) H') :
    Do (astore H 10 (.ptr i1 0) (.agg ds)) fun H30 => Do (aload H30 10 true (.ptr i1 0)) fun x31 => Q x31.weak H30 := by
  have hl : ds.length = 10 := by rw [← weaks_len, hr, GStmt.len]
  rw [h.a1.st (n := 10) (o := 0) (v := .agg ds) rfl hl hs (by decide)]
  simp only [Do_of, AV.cells]
  rw [setCells_all (by rw [hl]; rfl), (h.a1.set _).load]
  simp only [List.take_zero, List.nil_append]
  rw [takeCells_whole hl]
  simp only [Do_of, AV.weak, hr]
  exact hq _ (h.kk.setL h.h1 _) (h.ps.setL (by have := h.hid; have := h.h1; omega) _)
theorem SF.ret (h : SF H0 id i1 i10 H s r) {x : GStmt} {Q : Post} (hr : AV.weaks r = x.cells) (hs : r.all AV.scalar = true) (hq : ∀ H', KeepP id H0 H' → PS H' id s → Q (.agg x.cells) H') :
    Do (aload H 10 true (.ptr i10 0)) fun x29 => Do (astore H 10 (.ptr i1 0) x29) fun H30 => Do (aload H30 10 true (.ptr i1 0)) fun x31 => Q x31.weak H30 := by
  rw [h.a10.load, takeCells_whole h.len]
  simp only [Do_of]
  exact h.ret1 hr hs hq
end
def BlockOK (Φ : Calls') (kw : List UInt8 → Bool) (val : List UInt8 → Int) (n : Nat) : Prop :=
  ∀ (H : AH) (Q : Post) (id : Nat) (s : PSt) (d : Int), PS H id s → Wf s → Few n s → (∀ H', KeepP id H H' → PS H' id (blockF (stmtsM kw val n) d s).2 → Q (lstA GStmt.cells (blockF (stmtsM kw val n) d s).1) H') → Φ K.parse_parser_block [.ptr id 0, .int .i64 d] H Q
theorem isA_yes {s : PSt} {w : List UInt8} (h : s.isW w = true) : s.isA w = s.adv := by unfold PSt.isA; rw [if_pos h]
theorem isA_no {s : PSt} {w : List UInt8} (h : ¬ s.isW w = true) : s.isA w = s := by unfold PSt.isA; rw [if_neg h]

section
variable {Φ : Calls'} {kw : List UInt8 → Bool} {val : List UInt8 → Int}
theorem p_control (hT : Cl Φ S.tab_Lex) (hW : Wk Φ) {n : Nat} (hex : ExpOK Φ kw val n) (hbl : BlockOK Φ kw val n) {H : AH} {Q : Post} {id : Nat} {s : PSt} {d line : Int} (p : PS H id s) (w : Wf s) (f : Few (n + 1) s)
    (hQ : ∀ H', KeepP id H H' → PS H' id (controlF (exprM kw val n) (stmtsM kw val n) (stZ line) d s).2 → Q (.agg (controlF (exprM kw val n) (stmtsM kw val n) (stZ line) d s).1.cells) H') : Φ K.parse_parser_control [.ptr id 0, .agg (z10 line), .int .i64 d] H Q := by
  refine hW _ _ _ _ (S.cl_parse_parser_control hT ?_)
  unfold S.parse_parser_control
  have hid := lt_of_ps p
  rw [show aboxv H true 10 (.agg (z10 line)) = some (.ptr H.n 0, H.push (.row (z10 line))) from rfl]
  simp only [DoH_some, abox, if_true]
  have ez : ([.int .i64 0, .int .i64 0, .str [], .str [], .int .i64 0, .str [], .lst .nil 0 [], .lst .nil 0 [], .lst .nil 0 [], .lst .nil 0 []] : List AV) = z10 0 := rfl
  rw [ez]
  have hn1 : (H.push (.row (z10 line))).n = H.n + 1 := rfl
  have f0 : SF H id (H.n + 1) H.n ((H.push (.row (z10 line))).push (.row (z10 0))) s (z10 line) :=
    ⟨hid, by omega, Nat.le_refl _, by omega, rfl, (KeepP.push id H _).pushL _, (p.pushL _).pushL _, At.new _ _, (At.new H _).push _⟩
  rw [hn1]
  generalize (H.push (.row (z10 line))).push (.row (z10 0)) = H4 at f0
  conv at hQ => intro H' _; unfold controlF
  dsimp only at hQ
  -- behind the word
  have k3 : ∀ (k : Int) (H6 : AH), (k = 8 ∨ k = 9) → Few n s.adv → SF H id (H.n + 1) H.n H6 s.adv (setCells (z10 line) 0 [.int .i64 k]) →
      (∀ H', KeepP id H H' → PS H' id (if k = 8 then (if (blockF (stmtsM kw val n) (x64 (d + 1)) (exprM kw val n (x64 (d + 1)) s.adv).2).2.isW [101, 108, 115, 101] = true then
          (({ stZ line with kind := 8, exprs := [(exprM kw val n (x64 (d + 1)) s.adv).1], thn := (blockF (stmtsM kw val n) (x64 (d + 1)) (exprM kw val n (x64 (d + 1)) s.adv).2).1, els := (blockF (stmtsM kw val n) (x64 (d + 1)) (blockF (stmtsM kw val n) (x64 (d + 1)) (exprM kw val n (x64 (d + 1)) s.adv).2).2.adv).1 } : GStmt), (blockF (stmtsM kw val n) (x64 (d + 1)) (blockF (stmtsM kw val n) (x64 (d + 1)) (exprM kw val n (x64 (d + 1)) s.adv).2).2.adv).2)
          else ({ stZ line with kind := 8, exprs := [(exprM kw val n (x64 (d + 1)) s.adv).1], thn := (blockF (stmtsM kw val n) (x64 (d + 1)) (exprM kw val n (x64 (d + 1)) s.adv).2).1 }, (blockF (stmtsM kw val n) (x64 (d + 1)) (exprM kw val n (x64 (d + 1)) s.adv).2).2))
        else ({ stZ line with kind := 9, exprs := [(exprM kw val n (x64 (d + 1)) s.adv).1], thn := (blockF (stmtsM kw val n) (x64 (d + 1)) (exprM kw val n (x64 (d + 1)) s.adv).2).1 }, (blockF (stmtsM kw val n) (x64 (d + 1)) (exprM kw val n (x64 (d + 1)) s.adv).2).2)).2 →
        Q (.agg (if k = 8 then (if (blockF (stmtsM kw val n) (x64 (d + 1)) (exprM kw val n (x64 (d + 1)) s.adv).2).2.isW [101, 108, 115, 101] = true then
          (({ stZ line with kind := 8, exprs := [(exprM kw val n (x64 (d + 1)) s.adv).1], thn := (blockF (stmtsM kw val n) (x64 (d + 1)) (exprM kw val n (x64 (d + 1)) s.adv).2).1, els := (blockF (stmtsM kw val n) (x64 (d + 1)) (blockF (stmtsM kw val n) (x64 (d + 1)) (exprM kw val n (x64 (d + 1)) s.adv).2).2.adv).1 } : GStmt), (blockF (stmtsM kw val n) (x64 (d + 1)) (blockF (stmtsM kw val n) (x64 (d + 1)) (exprM kw val n (x64 (d + 1)) s.adv).2).2.adv).2)
          else ({ stZ line with kind := 8, exprs := [(exprM kw val n (x64 (d + 1)) s.adv).1], thn := (blockF (stmtsM kw val n) (x64 (d + 1)) (exprM kw val n (x64 (d + 1)) s.adv).2).1 }, (blockF (stmtsM kw val n) (x64 (d + 1)) (exprM kw val n (x64 (d + 1)) s.adv).2).2))
        else ({ stZ line with kind := 9, exprs := [(exprM kw val n (x64 (d + 1)) s.adv).1], thn := (blockF (stmtsM kw val n) (x64 (d + 1)) (exprM kw val n (x64 (d + 1)) s.adv).2).1 }, (blockF (stmtsM kw val n) (x64 (d + 1)) (exprM kw val n (x64 (d + 1)) s.adv).2).2)).1.cells) H') →
      JoinP (S.parse_parser_control_k3 Φ (.ptr id 0) (.int .i64 d) (.ptr H.n 0) (.ptr (H.n + 1) 0) fun v H' => Q v.weak H') [] H6 := by
    intro k H6 hk f1 h6 hq
    simp only [JoinP_def, S.parse_parser_control_k3, abin_add, Do_of]
    have se := Sub.expr kw val n (x64 (d + 1)) s.adv
    refine hex _ _ _ _ _ h6.ps w.adv f1 fun H13 k13 p13 => ?_
    have h13 := h6.call k13 p13
    generalize exprM kw val n (x64 (d + 1)) s.adv = e at hq se h13
    rw [agg8_slice]
    simp only [DoH_some, afaddr, Do_of, Nat.zero_add]
    refine h13.store (n := 1) rfl rfl rfl (by decide) fun H17 h17 => ?_
    have sb := Sub.block (Sub.stmts kw val n) (x64 (d + 1)) e.2
    refine hbl _ _ _ _ _ h17.ps (se.1 w.adv) (se.few f1) fun H20 k20 p20 => ?_
    have h20 := h17.call k20 p20
    generalize blockF (stmtsM kw val n) (x64 (d + 1)) e.2 = a at hq sb h20
    refine h20.store (n := 1) rfl rfl rfl (by decide) fun H22 h22 => ?_
    have er : setCells (setCells (setCells (z10 line) 0 [AV.int .i64 k]) 7 (AV.lst .full 1 e.1.cells).cells) 8 (lstA GStmt.cells a.1).cells = [.int .i64 k, .int .i64 line, .str [], .str [], .int .i64 0, .str [], .lst .nil 0 [], .lst .full 1 e.1.cells, lstA GStmt.cells a.1, .lst .nil 0 []] := rfl
    rw [er] at h22
    have l0 : aload H22 1 false (.ptr H.n 0) = some (.int .i64 k) := by rw [h22.a10.load]; rfl
    rw [l0]
    simp only [Do_of, abin_eql, Gd3_true]
    have ws : AV.weak (lstA GStmt.cells a.1) = lstA GStmt.cells a.1 := lstA_weak GStmt.weaks _
    have k1 : ∀ (s' : PSt) (H24 : AH) (el : AV) (els : List GStmt), SF H id (H.n + 1) H.n H24 s' [.int .i64 k, .int .i64 line, .str [], .str [], .int .i64 0, .str [], .lst .nil 0 [], .lst .full 1 e.1.cells, lstA GStmt.cells a.1, el] → el.weak = lstA GStmt.cells els → el.scalar = true →
        (∀ H', KeepP id H H' → PS H' id s' → Q (.agg (GStmt.cells { stZ line with kind := k, exprs := [e.1], thn := a.1, els := els })) H') → JoinP (S.parse_parser_control_k1 Φ (.ptr H.n 0) (.ptr (H.n + 1) 0) fun v H' => Q v.weak H') [] H24 := by
      intro s' H24 el els h24 hel hsc hq'
      simp only [JoinP_def, S.parse_parser_control_k1]
      refine h24.ret ?_ (by simp only [List.all_cons, hsc]; rfl) hq'
      rw [GStmt.cells_eq, GPlace.cells_eq]
      simp only [AV.weaks, ws, hel]
      simp only [AV.weak, GExpr.weaks]
      simp [lstA, stZ, plZ, AV.weaks]
    have k2 : ∀ (b : Bool) (s' : PSt) (H26 : AH), (b = true ↔ (k = 8 ∧ a.2.isW [101, 108, 115, 101] = true)) → s' = (if b = true then a.2.adv else a.2) → SF H id (H.n + 1) H.n H26 s' [.int .i64 k, .int .i64 line, .str [], .str [], .int .i64 0, .str [], .lst .nil 0 [], .lst .full 1 e.1.cells, lstA GStmt.cells a.1, .lst .nil 0 []] →
        JoinP (S.parse_parser_control_k2 Φ (.ptr id 0) (.int .i64 d) (.ptr H.n 0) (.ptr (H.n + 1) 0) fun v H' => Q v.weak H') [.bool b] H26 := by
      intro b s' H26 hb hs' h26
      simp only [JoinP_def, S.parse_parser_control_k2, sl_zero, Gd_true]
      refine ite_both (fun hx => ?_) (fun hx => ?_)
      · obtain ⟨hk8, hel⟩ := hb.1 hx
        rw [if_pos hx] at hs'
        subst hs'
        simp only [hk8, if_true, hel] at hq
        simp only [abin_add, Do_of, afaddr, Nat.zero_add]
        refine hbl _ _ _ _ _ h26.ps ((se.trans sb).1 w.adv).adv ((se.trans sb).few f1).adv fun H34 k34 p34 => ?_
        have h34 := h26.call k34 p34
        generalize blockF (stmtsM kw val n) (x64 (d + 1)) a.2.adv = c at hq h34
        refine h34.store (n := 1) rfl rfl rfl (by decide) fun H36 h36 => ?_
        exact k1 c.2 H36 (lstA GStmt.cells c.1) c.1 h36 (lstA_weak GStmt.weaks _) rfl (by rw [hk8]; exact hq)
      · have hx' : b = false := by simpa using hx
        rw [hx'] at hs'
        simp only [Bool.false_eq_true, if_false] at hs'
        subst hs'
        refine k1 a.2 H26 (.lst .nil 0 []) [] h26 rfl rfl ?_
        rcases hk with hk | hk
        · have hel : ¬ a.2.isW [101, 108, 115, 101] = true := fun h => hx (hb.2 ⟨hk, h⟩)
          simp only [hk, if_true, hel, if_false, Bool.false_eq_true] at hq
          rw [hk]; exact hq
        · subst hk
          exact hq
    refine ite_both (fun hx => ?_) (fun hx => ?_)
    · have hk8 : k = 8 := by simpa using hx
      refine p_is hT h22.ps fun H31 k31 p31 => ?_
      refine k2 (a.2.isW [101, 108, 115, 101]) _ H31 ⟨fun h => ⟨hk8, h⟩, fun h => h.2⟩ rfl ?_
      exact h22.call k31 p31
    · have hk8 : k ≠ 8 := by simpa using hx
      exact k2 false a.2 H22 ⟨fun h => (Bool.false_ne_true h).elim, fun h => absurd h.1 hk8⟩ rfl h22
  refine p_is hT f0.ps fun H8 k8 p8 => ?_
  have h8 := f0.call k8 p8
  simp only [Gd_true]
  refine ite_both (fun hy => ?_) (fun hy => ?_)
  · rw [isA_yes hy] at h8
    rw [if_pos hy] at hQ
    simp only [afaddr, Do_of, Nat.zero_add]
    refine h8.store (n := 1) rfl rfl rfl (by decide) fun H10 h10 => ?_
    exact k3 8 H10 (.inl rfl) (f.isW w hy (by decide)) h10 hQ
  · rw [isA_no hy] at h8
    rw [if_neg hy] at hQ
    refine p_is hT h8.ps fun H41 k41 p41 => ?_
    have h41 := h8.call k41 p41
    refine ite_both (fun hz => ?_) (fun hz => ?_)
    · rw [isA_yes hz] at h41
      rw [if_pos hz] at hQ
      simp only [afaddr, Do_of, Nat.zero_add]
      refine h41.store (n := 1) rfl rfl rfl (by decide) fun H43 h43 => ?_
      exact k3 9 H43 (.inr rfl) (f.isW w hz (by decide)) h43 hQ
    · rw [isA_no hz] at h41
      rw [if_neg hz] at hQ
      refine p_fail hT h41.ps fun H45 k45 p45 => ?_
      have h45 := h41.call k45 p45
      exact h45.ret (x := stZ line) rfl rfl hQ
end
end Rb

/- Package parse: statements. -/
set_option linter.unusedVariables false
set_option linter.unusedSimpArgs false
set_option linter.unusedSectionVars false
namespace Rb
open Go
section
variable {Φ : Calls'} {kw : List UInt8 → Bool} {val : List UInt8 → Int}
def StmtOK (Φ : Calls') (kw : List UInt8 → Bool) (val : List UInt8 → Int) (n : Nat) : Prop :=
  ∀ (H : AH) (Q : Post) (id : Nat) (s : PSt) (d : Int), PS H id s → Wf s → Few (n + 1) s → (∀ H', KeepP id H H' → PS H' id (stmtF kw (exprM kw val n) (partsM kw val n) (stmtsM kw val n) d s).2 → Q (.agg (stmtF kw (exprM kw val n) (partsM kw val n) (stmtsM kw val n) d s).1.cells) H') → Φ K.parse_parser_stmt [.ptr id 0, .int .i64 d] H Q
theorem p_stmt (hT : Cl Φ S.tab_Lex) (hW : Wk Φ) (hkw : ∀ x, Val Φ K.lex_Keyword [.str x] (.bool (kw x))) {n : Nat} (hex : ExpOK Φ kw val n) (hpl : PlaceOK Φ kw val n) (hbl : BlockOK Φ kw val n) : StmtOK Φ kw val n := by
  intro H Q id s d p w f hQ
  refine hW _ _ _ _ (S.cl_parse_parser_stmt hT ?_)
  unfold S.parse_parser_stmt
  have hid := lt_of_ps p
  have ez : ([.int .i64 0, .int .i64 0, .str [], .str [], .int .i64 0, .str [], .lst .nil 0 [], .lst .nil 0 [], .lst .nil 0 [], .lst .nil 0 []] : List AV) = z10 0 := rfl
  rw [ez]
  obtain ⟨w0, hw0, hwd, hlt⟩ := p.hdc
  have p2 : PS (H.push (.row (z10 0))) id s := p.pushL _
  obtain ⟨tk, hat, hl0⟩ := p2.l0
  simp only [abox, if_true, DoH_some, anilck, afaddr, Do_of, Nat.zero_add, hl0]
  have ha : aiaddr none 2 (tokV tk s.toks) (.int .i64 0) = some (elA tokC 2 s.toks 0) := tokV_addr hlt
  rw [ha]
  simp only [Do_of, elA, afaddr, pz_line _ hw0]
  rw [show abuild (z10 0) [(1, 1, .int .i64 w0.2)] = some (.agg (z10 w0.2)) from rfl]
  simp only [Do_of]
  have hn1 : (H.push (.row (z10 0))).n = H.n + 1 := rfl
  have k1 : KeepP id H (H.push (.row (z10 0))) := KeepP.push id H _
  have a1 : At (H.push (.row (z10 0))) H.n (.row (z10 0)) := At.new H _
  clear hl0 hat
  generalize H.push (.row (z10 0)) = H2 at p2 hn1 k1 a1
  rw [store_new H2 (z10 0) (z10 w0.2) 10 rfl rfl rfl]
  simp only [Do_of]
  rw [hn1]
  have f0 : SF H id H.n (H.n + 1) (H2.push (.row (z10 w0.2))) s (z10 w0.2) := by
    have := At.new H2 (.row (z10 w0.2))
    rw [hn1] at this
    exact ⟨hid, Nat.le_refl _, by omega, by omega, rfl, k1.pushL _, p2.pushL _, a1.push _, this⟩
  generalize H2.push (.row (z10 w0.2)) = H12 at f0
  conv at hQ => intro H' _; unfold stmtF
  dsimp only at hQ
  rw [hwd] at hQ
  clear ha hw0 hwd hlt p2 k1 a1 hn1 p
  generalize w0.2 = line at hQ f0
  -- at the end of a simple statement
  have fin : ∀ {s' : PSt} {H14 : AH} {r : List AV} (x : GStmt), SF H id H.n (H.n + 1) H14 s' r → AV.weaks r = x.cells → r.all AV.scalar = true → (∀ H', KeepP id H H' → PS H' id (s'.want [59]) → Q (.agg x.cells) H') →
      JoinP (S.parse_parser_stmt_k1 Φ (.ptr id 0) (.ptr H.n 0) (.ptr (H.n + 1) 0) fun v H' => Q v.weak H') [] H14 := by
    intro s' H14 r x h14 hr hs hq
    simp only [JoinP_def, S.parse_parser_stmt_k1]
    refine p_want hT h14.ps fun H28 k28 p28 => ?_
    exact (h14.call k28 p28).ret hr hs hq
  refine p_is hT f0.ps fun H16 k16 p16 => ?_
  have h16 := f0.call k16 p16
  simp only [Gd_true]
  refine ite_both (fun hy => ?_) (fun hy => ?_)
  · rw [isA_yes hy] at h16
    rw [if_pos hy] at hQ
    have fa := f.isW w hy (by decide)
    refine p_name hT hkw h16.ps fun H18 k18 p18 => ?_
    have h18 := h16.call k18 p18
    have sn := Sub.nameS kw s.adv
    refine p_value hT hex h18.ps (sn.1 w.adv) (sn.few fa) fun H20 k20 p20 => ?_
    have h20 := h18.call k20 p20
    generalize valueF (exprM kw val n) d (s.adv.nameS kw) = v at hQ h20
    try simp only [afaddr, Do_of, Nat.zero_add]
    refine h20.store (n := 1) rfl rfl rfl (by decide) fun H22 h22 => ?_
    refine h22.store (n := 1) rfl rfl rfl (by decide) fun H24 h24 => ?_
    refine h24.store (n := 1) rfl rfl rfl (by decide) fun H26 h26 => ?_
    refine fin (r := [.int .i64 1, .int .i64 line, .str (s.adv.nameT kw), .str [], .int .i64 0, .str [], .lst .nil 0 [], .lst .full 1 v.1.cells, .lst .nil 0 [], .lst .nil 0 []]) _ h26 ?_ rfl hQ
    rw [GStmt.cells_eq, GPlace.cells_eq]
    simp only [AV.weaks, AV.weak, GExpr.weaks]
    simp [lstA, stZ, plZ, AV.weaks]
  rw [isA_no hy] at h16
  rw [if_neg hy] at hQ
  clear hy
  refine p_is hT h16.ps fun H17 k17 p17 => ?_
  replace h16 := h16.call k17 p17
  refine ite_both (fun hy => ?_) (fun hy => ?_)
  · rw [isA_yes hy] at h16
    rw [if_pos hy] at hQ
    have fa := f.isW w hy (by decide)
    refine p_name hT hkw h16.ps fun H18 k18 p18 => ?_
    have h18 := h16.call k18 p18
    have sn := Sub.nameS kw s.adv
    refine p_value hT hex h18.ps (sn.1 w.adv) (sn.few fa) fun H20 k20 p20 => ?_
    have h20 := h18.call k20 p20
    generalize valueF (exprM kw val n) d (s.adv.nameS kw) = v at hQ h20
    try simp only [afaddr, Do_of, Nat.zero_add]
    refine h20.store (n := 1) rfl rfl rfl (by decide) fun H22 h22 => ?_
    refine h22.store (n := 1) rfl rfl rfl (by decide) fun H24 h24 => ?_
    refine h24.store (n := 1) rfl rfl rfl (by decide) fun H26 h26 => ?_
    refine fin (r := [.int .i64 2, .int .i64 line, .str (s.adv.nameT kw), .str [], .int .i64 0, .str [], .lst .nil 0 [], .lst .full 1 v.1.cells, .lst .nil 0 [], .lst .nil 0 []]) _ h26 ?_ rfl hQ
    rw [GStmt.cells_eq, GPlace.cells_eq]
    simp only [AV.weaks, AV.weak, GExpr.weaks]
    simp [lstA, stZ, plZ, AV.weaks]
  rw [isA_no hy] at h16
  rw [if_neg hy] at hQ
  clear hy
  have wp : ∀ p : GPlace, AV.weaks [.str p.var, lstA GPart.cells p.parts] = [.str p.var, lstA GPart.cells p.parts] := fun p => by
    have := GPlace.weaks p
    rw [GPlace.cells_eq] at this
    exact this
  have wq : ∀ p : GPlace, (lstA GPart.cells p.parts).weak = lstA GPart.cells p.parts := fun p => by
    have := wp p
    simp only [AV.weaks, AV.weak] at this
    simpa using this
  -- write
  refine p_is hT h16.ps fun H17 k17 p17 => ?_
  replace h16 := h16.call k17 p17
  refine ite_both (fun hy => ?_) (fun hy => ?_)
  · rw [isA_yes hy] at h16
    rw [if_pos hy] at hQ
    have fa := f.isW w hy (by decide)
    have sp := Sub.place kw (Sub.parts kw val n) d s.adv
    refine hpl _ _ _ _ _ h16.ps w.adv fa fun H18 k18 p18 => ?_
    have h18 := h16.call k18 p18
    generalize placeM' kw (partsM kw val n) d s.adv = pl at hQ h18 sp
    refine p_value hT hex h18.ps (sp.1 w.adv) (sp.few fa) fun H20 k20 p20 => ?_
    have h20 := h18.call k20 p20
    generalize valueF (exprM kw val n) d pl.2 = v at hQ h20
    try simp only [afaddr, Do_of, Nat.zero_add]
    rw [GPlace.cells_eq]
    refine h20.store (n := 1) rfl rfl rfl (by decide) fun H22 h22 => ?_
    refine h22.store (n := 2) rfl rfl rfl (by decide) fun H24 h24 => ?_
    refine h24.store (n := 1) rfl rfl rfl (by decide) fun H26 h26 => ?_
    refine fin (r := [.int .i64 3, .int .i64 line, .str [], .str [], .int .i64 0, .str pl.1.var, lstA GPart.cells pl.1.parts, .lst .full 1 v.1.cells, .lst .nil 0 [], .lst .nil 0 []]) _ h26 ?_ rfl hQ
    rw [GStmt.cells_eq, GPlace.cells_eq]
    simp only [AV.weaks, wq]
    simp only [AV.weak, GExpr.weaks]
    simp [lstA, stZ, plZ, AV.weaks]
  rw [isA_no hy] at h16
  rw [if_neg hy] at hQ
  clear hy
  -- store
  refine p_is hT h16.ps fun H17 k17 p17 => ?_
  replace h16 := h16.call k17 p17
  refine ite_both (fun hy => ?_) (fun hy => ?_)
  · rw [isA_yes hy] at h16
    rw [if_pos hy] at hQ
    have fa := f.isW w hy (by decide)
    have so := Sub.order s.adv
    refine p_order hT h16.ps fun H15 k15 p15 => ?_
    have h15 := h16.call k15 p15
    generalize orderM s.adv = o at hQ so h15
    have sp := Sub.place kw (Sub.parts kw val n) d o.2
    refine hpl _ _ _ _ _ h15.ps (so.1 w.adv) (so.few fa) fun H18 k18 p18 => ?_
    have h18 := h15.call k18 p18
    generalize placeM' kw (partsM kw val n) d o.2 = pl at hQ h18 sp
    refine p_value hT hex h18.ps ((so.trans sp).1 w.adv) ((so.trans sp).few fa) fun H20 k20 p20 => ?_
    have h20 := h18.call k20 p20
    generalize valueF (exprM kw val n) d pl.2 = v at hQ h20
    try simp only [afaddr, Do_of, Nat.zero_add]
    rw [GPlace.cells_eq]
    refine h20.store (n := 1) rfl rfl rfl (by decide) fun H22 h22 => ?_
    refine h22.store (n := 1) rfl rfl rfl (by decide) fun H23 h23 => ?_
    refine h23.store (n := 2) rfl rfl rfl (by decide) fun H24 h24 => ?_
    refine h24.store (n := 1) rfl rfl rfl (by decide) fun H26 h26 => ?_
    refine fin (r := [.int .i64 4, .int .i64 line, .str [], .str [], .int .i64 o.1, .str pl.1.var, lstA GPart.cells pl.1.parts, .lst .full 1 v.1.cells, .lst .nil 0 [], .lst .nil 0 []]) _ h26 ?_ rfl hQ
    rw [GStmt.cells_eq, GPlace.cells_eq]
    simp only [AV.weaks, wq]
    simp only [AV.weak, GExpr.weaks]
    simp [lstA, stZ, plZ, AV.weaks]
  rw [isA_no hy] at h16
  rw [if_neg hy] at hQ
  clear hy
  -- load2
  refine p_is hT h16.ps fun H17 k17 p17 => ?_
  replace h16 := h16.call k17 p17
  refine ite_both (fun hy => ?_) (fun hy => ?_)
  · rw [isA_yes hy] at h16
    rw [if_pos hy] at hQ
    have fa := f.isW w hy (by decide)
    have so := Sub.order s.adv
    refine p_order hT h16.ps fun H15 k15 p15 => ?_
    have h15 := h16.call k15 p15
    generalize orderM s.adv = o at hQ so h15
    refine hpl _ _ _ _ _ h15.ps (so.1 w.adv) (so.few fa) fun H18 k18 p18 => ?_
    have h18 := h15.call k18 p18
    generalize placeM' kw (partsM kw val n) d o.2 = pl at hQ h18
    refine p_name hT hkw h18.ps fun H19 k19 p19 => ?_
    have h19 := h18.call k19 p19
    refine p_name hT hkw h19.ps fun H20 k20 p20 => ?_
    have h20 := h19.call k20 p20
    try simp only [afaddr, Do_of, Nat.zero_add]
    rw [GPlace.cells_eq]
    refine h20.store (n := 1) rfl rfl rfl (by decide) fun H22 h22 => ?_
    refine h22.store (n := 1) rfl rfl rfl (by decide) fun H23 h23 => ?_
    refine h23.store (n := 2) rfl rfl rfl (by decide) fun H24 h24 => ?_
    refine h24.store (n := 1) rfl rfl rfl (by decide) fun H25 h25 => ?_
    refine h25.store (n := 1) rfl rfl rfl (by decide) fun H26 h26 => ?_
    refine fin (r := [.int .i64 5, .int .i64 line, .str (pl.2.nameT kw), .str ((pl.2.nameS kw).nameT kw), .int .i64 o.1, .str pl.1.var, lstA GPart.cells pl.1.parts, .lst .nil 0 [], .lst .nil 0 [], .lst .nil 0 []]) _ h26 ?_ rfl hQ
    rw [GStmt.cells_eq, GPlace.cells_eq]
    simp only [AV.weaks, wq]
    simp only [AV.weak]
    simp [lstA, stZ, plZ, AV.weaks]
  rw [isA_no hy] at h16
  rw [if_neg hy] at hQ
  clear hy
  -- store2
  refine p_is hT h16.ps fun H17 k17 p17 => ?_
  replace h16 := h16.call k17 p17
  refine ite_both (fun hy => ?_) (fun hy => ?_)
  · rw [isA_yes hy] at h16
    rw [if_pos hy] at hQ
    have fa := f.isW w hy (by decide)
    have so := Sub.order s.adv
    refine p_order hT h16.ps fun H15 k15 p15 => ?_
    have h15 := h16.call k15 p15
    generalize orderM s.adv = o at hQ so h15
    have sp := Sub.place kw (Sub.parts kw val n) d o.2
    refine hpl _ _ _ _ _ h15.ps (so.1 w.adv) (so.few fa) fun H18 k18 p18 => ?_
    have h18 := h15.call k18 p18
    generalize placeM' kw (partsM kw val n) d o.2 = pl at hQ h18 sp
    have sv := Sub.value (Sub.expr kw val n) d pl.2
    refine p_value hT hex h18.ps ((so.trans sp).1 w.adv) ((so.trans sp).few fa) fun H20 k20 p20 => ?_
    have h20 := h18.call k20 p20
    generalize valueF (exprM kw val n) d pl.2 = v at hQ h20 sv
    try simp only [afaddr, Do_of, Nat.zero_add]
    rw [GPlace.cells_eq]
    refine h20.store (n := 1) rfl rfl rfl (by decide) fun H22 h22 => ?_
    refine h22.store (n := 1) rfl rfl rfl (by decide) fun H23 h23 => ?_
    refine h23.store (n := 2) rfl rfl rfl (by decide) fun H24 h24 => ?_
    refine h24.store (n := 1) rfl rfl rfl (by decide) fun H26 h26 => ?_
    have er : ∃ r : List AV, r = [.int .i64 6, .int .i64 line, .str [], .str [], .int .i64 o.1, .str pl.1.var, lstA GPart.cells pl.1.parts, .lst .full 1 v.1.cells, .lst .nil 0 [], .lst .nil 0 []] := ⟨_, rfl⟩
    obtain ⟨r, er⟩ := er
    have h27 : SF H id H.n (H.n + 1) H26 v.2 r := by rw [er]; exact h26
    clear h26 h24 h23 h22 h20
    have sw := Sub.want v.2 [44]
    refine p_want hT h27.ps fun H28 k28 p28 => ?_
    have h28 := h27.call k28 p28
    have hld : ∀ {H' : AH} {s'}, SF H id H.n (H.n + 1) H' s' r → aload H' 1 false (.ptr (H.n + 1) 7) = some (.lst .full 1 v.1.cells) := fun h => by rw [h.a10.load, er]; rfl
    rw [hld h28]
    simp only [Do_of, abin_add]
    have s4 := ((so.trans sp).trans sv).trans sw
    refine hex _ _ _ _ _ h28.ps (s4.1 w.adv) (s4.few fa) fun H29 k29 p29 => ?_
    have h29 := h28.call k29 p29
    generalize exprM kw val n (x64 (d + 1)) (v.2.want [44]) = u at hQ h29
    refine ⟨hld h29, ?_⟩
    rw [agg8_slice]
    simp only [DoH_some]
    have own : OwnT H.n H29 8 (.lst .full 1 v.1.cells) 1 v.1.cells := ⟨.full, rfl, by rw [GExpr.len], .inr (.inl rfl)⟩
    refine own.app h29.kk.1 (m := 1) (news := u.1.cells) (by simp [acells, GExpr.len]) (by rw [GExpr.len]) (GExpr.scalar _) (by decide) (by decide) (by decide) fun x' H30 ow3 l3 => ?_
    have hsx : x'.scalar = true := by obtain ⟨tk, rfl, _, _⟩ := ow3; rfl
    have hcx : x'.cells = [x'] := by obtain ⟨tk, rfl, _, _⟩ := ow3; rfl
    have hkx : x'.known = true := by obtain ⟨tk, rfl, _, _⟩ := ow3; rfl
    have h30 : SF H id H.n (H.n + 1) H30 u.2 r := ⟨h29.hid, h29.h1, h29.h10, h29.ne, h29.len, h29.kk.left l3, h29.ps.left l3, l3.row h29.a1, l3.row h29.a10⟩
    refine h30.store (n := 1) hkx (by rw [hcx]; rfl) (by rw [hcx]; simp [hsx]) (by decide) fun H31 h31 => ?_
    rw [hcx] at h31
    have er2 : setCells r 7 [x'] = [.int .i64 6, .int .i64 line, .str [], .str [], .int .i64 o.1, .str pl.1.var, lstA GPart.cells pl.1.parts, x', .lst .nil 0 [], .lst .nil 0 []] := by rw [er]; rfl
    rw [er2] at h31
    have hwk : x'.weak = lstA GExpr.cells [v.1, u.1] := by
      rw [ow3.weak (by rw [weaks_app, GExpr.weaks, GExpr.weaks])]
      simp [lstA]
    refine fin _ h31 ?_ (by simp only [List.all_cons, hsx]; rfl) hQ
    rw [GStmt.cells_eq, GPlace.cells_eq]
    simp only [AV.weaks, wq, hwk]
    simp only [AV.weak]
    simp [lstA, stZ, plZ, AV.weaks]
  rw [isA_no hy] at h16
  rw [if_neg hy] at hQ
  clear hy
  -- fence
  refine p_is hT h16.ps fun H17 k17 p17 => ?_
  replace h16 := h16.call k17 p17
  refine ite_both (fun hy => ?_) (fun hy => ?_)
  · rw [isA_yes hy] at h16
    rw [if_pos hy] at hQ
    refine p_order hT h16.ps fun H15 k15 p15 => ?_
    have h15 := h16.call k15 p15
    generalize orderM s.adv = o at hQ h15
    try simp only [afaddr, Do_of, Nat.zero_add]
    refine h15.store (n := 1) rfl rfl rfl (by decide) fun H22 h22 => ?_
    refine h22.store (n := 1) rfl rfl rfl (by decide) fun H23 h23 => ?_
    exact fin (r := [.int .i64 7, .int .i64 line, .str [], .str [], .int .i64 o.1, .str [], .lst .nil 0 [], .lst .nil 0 [], .lst .nil 0 [], .lst .nil 0 []]) _ h23 rfl rfl hQ
  rw [isA_no hy] at h16
  rw [if_neg hy] at hQ
  clear hy
  -- print
  refine p_is hT h16.ps fun H17 k17 p17 => ?_
  replace h16 := h16.call k17 p17
  refine ite_both (fun hy => ?_) (fun hy => ?_)
  · rw [isA_yes hy] at h16
    rw [if_pos hy] at hQ
    have fa := f.isW w hy (by decide)
    try simp only [abin_add, Do_of]
    refine hex _ _ _ _ _ h16.ps w.adv fa fun H29 k29 p29 => ?_
    have h29 := h16.call k29 p29
    generalize exprM kw val n (x64 (d + 1)) s.adv = u at hQ h29
    rw [agg8_slice]
    simp only [DoH_some, afaddr, Do_of, Nat.zero_add]
    refine h29.store (n := 1) rfl rfl rfl (by decide) fun H22 h22 => ?_
    refine h22.store (n := 1) rfl rfl rfl (by decide) fun H23 h23 => ?_
    refine fin (r := [.int .i64 10, .int .i64 line, .str [], .str [], .int .i64 0, .str [], .lst .nil 0 [], .lst .full 1 u.1.cells, .lst .nil 0 [], .lst .nil 0 []]) _ h23 ?_ rfl hQ
    rw [GStmt.cells_eq, GPlace.cells_eq]
    simp only [AV.weaks, AV.weak, GExpr.weaks]
    simp [lstA, stZ, plZ, AV.weaks]
  rw [isA_no hy] at h16
  rw [if_neg hy] at hQ
  clear hy
  rw [h16.a10.load, takeCells_whole h16.len]
  simp only [Do_of]
  refine p_control hT hW hex hbl h16.ps w f fun H20 k20 p20 => ?_
  have h20 := h16.call k20 p20
  exact h20.ret1 (GStmt.weaks _) (GStmt.scalar _) hQ
end
end Rb

/- Package parse: blocks. -/
set_option linter.unusedVariables false
set_option linter.unusedSimpArgs false
set_option linter.unusedSectionVars false
namespace Rb
open Go
theorem Few.stmt {kw : List UInt8 → Bool} {ex : Int → PSt → GExpr × PSt} {pa : Int → PSt → List GPart × PSt} {ss : Int → PSt → List GStmt × PSt} (h : ∀ d s, Sub s (ex d s).2) (g : ∀ d s, Sub s (pa d s).2) (k : ∀ d s, Sub s (ss d s).2) {n : Nat} {d : Int} {s : PSt} (hf : Few (n + 1) s) (hw : Wf s) : Few n (stmtF kw ex pa ss d s).2 := by
  have fa : ∀ (w : List UInt8), s.isW w = true → w ≠ [] → Few n s.adv := fun w h1 h2 => hf.isW hw h1 h2
  have ctl : ∀ x, Few n (controlF ex ss x d s).2 := by
    intro x
    unfold controlF
    dsimp only
    by_cases c1 : s.isW [105, 102] = true
    · have := fa _ c1 (by decide)
      simp only [if_pos c1]
      split
      · exact ((((h _ _).trans (Sub.block k _ _)).trans (Sub.adv _)).trans (Sub.block k _ _)).few this
      · exact ((h _ _).trans (Sub.block k _ _)).few this
    simp only [if_neg c1]
    by_cases c2 : s.isW [119, 104, 105, 108, 101] = true
    · have := fa _ c2 (by decide)
      simp only [if_pos c2]
      exact ((h _ _).trans (Sub.block k _ _)).few this
    simp only [if_neg c2]
    exact .inl (PSt.fail_fk s (by decide))
  unfold stmtF
  dsimp only
  by_cases c : s.isW [108, 101, 116] = true
  · have := fa _ c (by decide)
    simp only [if_pos c]
    exact (((Sub.nameS kw _).trans (Sub.value h _ _)).trans (Sub.want _ _)).few this
  simp only [if_neg c]; clear c
  by_cases c : s.isW [115, 101, 116] = true
  · have := fa _ c (by decide)
    simp only [if_pos c]
    exact (((Sub.nameS kw _).trans (Sub.value h _ _)).trans (Sub.want _ _)).few this
  simp only [if_neg c]; clear c
  by_cases c : s.isW [119, 114, 105, 116, 101] = true
  · have := fa _ c (by decide)
    simp only [if_pos c]
    exact (((Sub.place kw g _ _).trans (Sub.value h _ _)).trans (Sub.want _ _)).few this
  simp only [if_neg c]; clear c
  by_cases c : s.isW [115, 116, 111, 114, 101] = true
  · have := fa _ c (by decide)
    simp only [if_pos c]
    exact ((((Sub.order _).trans (Sub.place kw g _ _)).trans (Sub.value h _ _)).trans (Sub.want _ _)).few this
  simp only [if_neg c]; clear c
  by_cases c : s.isW [108, 111, 97, 100, 50] = true
  · have := fa _ c (by decide)
    simp only [if_pos c]
    exact (((((Sub.order _).trans (Sub.place kw g _ _)).trans (Sub.nameS kw _)).trans (Sub.nameS kw _)).trans (Sub.want _ _)).few this
  simp only [if_neg c]; clear c
  by_cases c : s.isW [115, 116, 111, 114, 101, 50] = true
  · have := fa _ c (by decide)
    simp only [if_pos c]
    exact ((((((Sub.order _).trans (Sub.place kw g _ _)).trans (Sub.value h _ _)).trans (Sub.want _ _)).trans (h _ _)).trans (Sub.want _ _)).few this
  simp only [if_neg c]; clear c
  by_cases c : s.isW [102, 101, 110, 99, 101] = true
  · have := fa _ c (by decide)
    simp only [if_pos c]
    exact ((Sub.order _).trans (Sub.want _ _)).few this
  simp only [if_neg c]; clear c
  by_cases c : s.isW [112, 114, 105, 110, 116] = true
  · have := fa _ c (by decide)
    simp only [if_pos c]
    exact ((h _ _).trans (Sub.want _ _)).few this
  simp only [if_neg c]
  exact ctl _
theorem agg10_slice (H : AH) (e : GStmt) : abslice H false 10 1 [.int .i64 0, .int .i64 0, .str [], .str [], .int .i64 0, .str [], .lst .nil 0 [], .lst .nil 0 [], .lst .nil 0 [], .lst .nil 0 []] [(0, 10, .agg e.cells)] = some (.lst .full 1 e.cells, H) := by
  have hfl := GStmt.len e
  simp only [abslice, fillA, AV.known, AV.cells, hfl]
  rw [if_pos (by simp)]
  rw [setCells_all (by rw [hfl]; rfl)]
  rfl
section
variable {Φ : Calls'} {kw : List UInt8 → Bool} {val : List UInt8 → Int}
theorem stmts_loop (hT : Cl Φ S.tab_Lex) {H0 : AH} {Q : Post} {id : Nat} {d : Int} (hid : id < H0.n) :
    ∀ (n : Nat), (∀ m, m < n → StmtOK Φ kw val m) → ∀ (H : AH) (s : PSt) (L : AV) (done : List GStmt), KeepP id H0 H → PS H id s → Wf s → Few n s → (s.fk ≠ 0 ∨ done.length + s.toks.length ≤ 2000001) →
    OwnT H0.n H 10 L done.length (done.flatMap GStmt.cells) →
    (∀ H', KeepP id H0 H' → PS H' id (stmtsM kw val n d s).2 → Q (lstA GStmt.cells (done ++ (stmtsM kw val n d s).1)) H') →
    LoopP (S.parse_parser_block_l3 Φ (.ptr id 0) (.int .i64 d) fun v H' => Q v.weak H') ([L], H) := by
  have wk : ∀ {H : AH} {L : AV} {done : List GStmt}, OwnT H0.n H 10 L done.length (done.flatMap GStmt.cells) → L.weak = lstA GStmt.cells done := by
    intro H L done ow
    have hs : AV.weaks (done.flatMap GStmt.cells) = done.flatMap GStmt.cells := by rw [← GStmt.all_eq]; exact GStmt.weaksA _
    rw [ow.weak hs]; rfl
  intro n
  induction n with
  | zero =>
    intro _ H s L done kk p w f _ ow hQ
    have hb := f.zero w
    refine LoopP.step ?_
    simp only [S.parse_parser_block_l3]
    refine p_bad hT p ?_
    simp only [aun_not, Do_of, Gd3_true]
    rw [if_neg (by simpa using hb)]
    simp only [JoinP_def, S.parse_parser_block_k2, sl_zero, Gd_true]
    rw [if_neg (by decide)]
    have := hQ H kk (by unfold stmtsM; exact p)
    unfold stmtsM at this
    rw [List.append_nil] at this
    rw [wk ow]; exact this
  | succ n ih =>
    intro hst H s L done kk p w f hl ow hQ
    refine LoopP.step ?_
    simp only [S.parse_parser_block_l3]
    refine p_bad hT p ?_
    simp only [aun_not, Do_of, Gd3_true]
    refine ite_both (fun hx => ?_) (fun hx => ?_)
    · have h0 : s.fk = 0 := by simpa using hx
      refine p_is hT p fun H1 k1 p1 => ?_
      have ow1 := ow.keep hid k1
      simp only [aun_not, Do_of, JoinP_def, S.parse_parser_block_k2, sl_zero, Gd_true]
      refine ite_both (fun hy => ?_) (fun hy => ?_)
      · have hf : s.isW [125] = false := by simpa using hy
        have e1 : s.isA [125] = s := by unfold PSt.isA; rw [hf, if_neg (by decide)]
        rw [e1] at p1
        have em : stmtsM kw val (n + 1) d s = ((stmtF kw (exprM kw val n) (partsM kw val n) (fun d s => stmtsM kw val n d s) d s).1 :: (stmtsM kw val n d (stmtF kw (exprM kw val n) (partsM kw val n) (fun d s => stmtsM kw val n d s) d s).2).1, (stmtsM kw val n d (stmtF kw (exprM kw val n) (partsM kw val n) (fun d s => stmtsM kw val n d s) d s).2).2) := by
          conv => lhs; unfold stmtsM
          rw [if_neg (by simpa using h0), hf, if_neg (by decide)]
        rw [em] at hQ
        simp only [S.parse_parser_block_k1]
        have hsub := Sub.stmt kw (Sub.expr kw val n) (Sub.parts kw val n) (Sub.stmts kw val n) d s
        have hfew : ∀ m, Few (m + 1) s → Few m (stmtF kw (exprM kw val n) (partsM kw val n) (stmtsM kw val n) d s).2 := fun m hm => Few.stmt (Sub.expr kw val n) (Sub.parts kw val n) (Sub.stmts kw val n) hm w
        refine hst n (Nat.lt_succ_self n) _ _ _ _ _ p1 w f fun H2 k2 p2 => ?_
        have ow2 := ow1.keep hid k2
        have em2 : stmtF kw (exprM kw val n) (partsM kw val n) (fun d s => stmtsM kw val n d s) d s = stmtF kw (exprM kw val n) (partsM kw val n) (stmtsM kw val n) d s := rfl
        rw [em2] at hQ
        generalize stmtF kw (exprM kw val n) (partsM kw val n) (stmtsM kw val n) d s = fd at hQ p2 hsub hfew
        have hlen : done.length + s.toks.length ≤ 2000001 := by
          rcases hl with hl | hl
          · exact absurd h0 hl
          · exact hl
        have epos : 0 < s.toks.length := List.length_pos_iff.2 w.ne
        rw [agg10_slice]
        simp only [DoH_some]
        refine ow2.app (Nat.le_trans kk.1 (Nat.le_trans k1.1 k2.1)) (m := 1) (news := fd.1.cells) (by simp [acells, GStmt.len]) (by rw [GStmt.len]) (GStmt.scalar _) (by decide) (by omega) (by omega) fun x' H3 ow3 l3 => ?_
        refine ih (fun m hm => hst m (Nat.lt_succ_of_lt hm)) _ fd.2 x' (done ++ [fd.1]) (((kk.trans k1).trans k2).left l3) (p2.left l3) (hsub.1 w) (hfew n f) ?_ ?_ fun H' k' p' => ?_
        · have := hfew (s.toks.length - 1) (.inr (by omega))
          rcases this with h | h
          · exact .inl h
          · exact .inr (by rw [List.length_append, List.length_singleton]; omega)
        · rw [List.length_append, List.length_singleton, List.flatMap_append]
          simpa using ow3
        · have := hQ H' k' p'
          rw [List.append_assoc]
          exact this
      · have hf : s.isW [125] = true := by simpa using hy
        have e1 : s.isA [125] = s.adv := by unfold PSt.isA; rw [hf, if_pos rfl]
        rw [e1] at p1
        have em : stmtsM kw val (n + 1) d s = ([], s.adv) := by
          unfold stmtsM
          rw [if_neg (by simpa using h0), hf, if_pos rfl]
        rw [em] at hQ
        have := hQ H1 (kk.trans k1) p1
        rw [List.append_nil] at this
        rw [wk ow1]; exact this
    · have h0 : s.fk ≠ 0 := by simpa using hx
      have em : stmtsM kw val (n + 1) d s = ([], s) := by
        unfold stmtsM
        rw [if_pos h0]
      rw [em] at hQ
      simp only [JoinP_def, S.parse_parser_block_k2, sl_zero, Gd_true]
      rw [if_neg (by decide)]
      have := hQ H kk p
      rw [List.append_nil] at this
      rw [wk ow]; exact this
theorem p_block (hT : Cl Φ S.tab_Lex) (hW : Wk Φ) (hkw : ∀ x, Val Φ K.lex_Keyword [.str x] (.bool (kw x))) (hv : NumV Φ val) : ∀ n, BlockOK Φ kw val n := by
  intro n
  induction n using Nat.strongRecOn with
  | ind n ih =>
  intro H Q id s d p w f hQ
  refine hW _ _ _ _ (S.cl_parse_parser_block hT ?_)
  unfold S.parse_parser_block
  have hid := lt_of_ps p
  have sd := Sub.deep s d
  conv at hQ => intro H' _; unfold blockF
  dsimp only at hQ
  refine p_deep hT p fun H4 k4 p4 => ?_
  simp only [aun_not, Do_of, Gd_true]
  refine ite_both (fun hx => ?_) (fun hx => ?_)
  · have hb : (s.deep d).fk ≠ 0 := by simpa using hx
    rw [if_pos hb] at hQ
    exact hQ H4 k4 p4
  · have hb : ¬ (s.deep d).fk ≠ 0 := by simpa using hx
    rw [if_neg hb] at hQ
    refine p_want hT p4 fun H5 k5 p5 => ?_
    have sw := sd.trans (Sub.want (s.deep d) [123])
    refine stmts_loop hT hid n (fun m hm => ?_) H5 _ (.lst .nil 0 []) [] (k4.trans k5) p5 (sw.1 w) (sw.few f) (.inr (by have := p5.2.1; simp only [List.length_nil]; omega)) (OwnT.nil _ _ _) hQ
    exact p_stmt hT hW hkw (p_expr hT hW hkw hv m) (p_place hT hW hkw fun j hj => p_expr hT hW hkw hv j) (ih m hm)
end
end Rb

/- Package parse: the beginning and the end. -/
set_option linter.unusedVariables false
set_option linter.unusedSimpArgs false
set_option linter.unusedSectionVars false
namespace Rb
open Go
theorem toks_word {num : List UInt8 → Bool} : ∀ (n : Nat) (s : List UInt8) (line : Int) (ws : List (List UInt8 × Int)), toks num n s line = .ok ws → ∀ w ∈ ws, w.1.length ≤ s.length := by
  intro n
  induction n with
  | zero => intro s line ws h w hw; rw [toks] at h; cases h; cases hw
  | succ n ih =>
    intro s line ws h w hw
    cases s with
    | nil => rw [toks] at h; cases h; cases hw
    | cons x r =>
      rw [toks] at h
      split at h
      · have := ih _ _ _ h w hw
        simp only [List.length_cons]; omega
      · split at h
        · have := ih _ _ _ h w hw
          simp only [List.length_cons]; omega
        · cases hk : wordM num (x :: r) with
          | none => rw [hk] at h; cases h
          | some k =>
            rw [hk] at h
            simp only at h
            cases ht : toks num n ((x :: r).drop k) line with
            | error l => rw [ht] at h; cases h
            | ok a =>
              rw [ht] at h
              cases h
              rcases List.mem_cons.1 hw with rfl | hw
              · show ((x :: r).take k).length ≤ _
                rw [List.length_take]; omega
              · have h1 := ih _ _ _ ht w hw
                have h2 : ((x :: r).drop k).length ≤ (x :: r).length := by rw [List.length_drop]; omega
                omega
/-- The parser's state at the beginning. -/
def lastL (ws : List (List UInt8 × Int)) : Int := match ws.getLast? with
  | none => 0
  | some w => w.2
def beginM (ws : List (List UInt8 × Int)) : PSt := ⟨ws ++ [([], lastL ws)], 0, 0⟩
theorem begin_wf {num : List UInt8 → Bool} {s : List UInt8} {ws : List (List UInt8 × Int)} (h : lexM num s = .ok ws) : Wf (beginM ws) ∧ ws.length ≤ 1048576 := by
  have ht := lexM_ok h
  have hs : s.length ≤ 1048576 := by
    unfold lexM at h
    split at h
    · cases h
    · omega
  exact ⟨⟨ws, lastL ws, rfl, fun w hw => Nat.le_trans (toks_word _ _ _ _ ht w hw) hs⟩, Nat.le_trans (toks_count ht) hs⟩
section
variable {Φ : Calls'} {num : List UInt8 → Bool}
theorem p_begin (hT : Cl Φ S.tab_Lex) (htok : ∀ s, Val Φ K.lex_Tokens [.str s] (lexV2 (lexM num s))) {H : AH} {Q : Post} (s : List UInt8)
    (hQ : ∀ H', AH.Ext H H' → (match lexM num s with | .error e => Q (.tup [.nilp, .agg [.int .i64 e.1, .int .i64 e.2]]) H' | .ok ws => ∀ id, H.n ≤ id → PS H' id (beginM ws) → Q (.tup [.ptr id 0, .agg [.int .i64 0, .int .i64 0]]) H')) : Φ K.parse_begin [.str s] H Q := by
  refine S.cl_parse_begin hT ?_
  unfold S.parse_begin
  simp only [abox, if_true, DoH_some]
  refine htok s _ _ ?_
  have hw : ∀ ws, lexM num s = .ok ws → lexV2 (lexM num s) = .tup [tokV (if ws = [] then .nil else .dead) ws, .agg [.int .i64 0, .int .i64 0]] := by
    intro ws h
    rw [h]
    cases ws with
    | nil => rfl
    | cons w r => rw [if_neg (by simp)]; rfl
  have a1 : At (H.push (.row [.int .i64 0, .int .i64 0])) H.n (.row [.int .i64 0, .int .i64 0]) := At.new H _
  have x1 : AH.Ext H (H.push (.row [.int .i64 0, .int .i64 0])) := AH.Ext.push H _
  have hn1 : (H.push (.row [.int .i64 0, .int .i64 0])).n = H.n + 1 := rfl
  generalize H.push (.row [.int .i64 0, .int .i64 0]) = H2 at a1 x1 hn1
  cases hM : lexM num s with
  | error e =>
    rw [hM] at hQ
    have hne : e.2 ≠ 0 := lexM_err hM
    simp only [lexV2, lexV, aextract, List.getElem?_cons_zero, List.getElem?_cons_succ, Do_of]
    rw [store_new H2 _ _ 2 rfl rfl rfl]
    have l1 : aload (H2.push (.row [.int .i64 e.1, .int .i64 e.2])) 1 false (.ptr H2.n 1) = some (.int .i64 e.2) := by rw [load_push]; rfl
    have l2 : aload (H2.push (.row [.int .i64 e.1, .int .i64 e.2])) 2 true (.ptr H2.n 0) = some (.agg [.int .i64 e.1, .int .i64 e.2]) := by rw [load_push]; rfl
    simp only [Do_of, afaddr, Nat.zero_add, l1, l2, abin_neq, Gd_true]
    rw [if_pos (by simpa using hne)]
    have b1 := a1.push (.row [.int .i64 e.1, .int .i64 e.2])
    rw [b1.store, if_pos ⟨rfl, rfl, rfl, by simp⟩]
    simp only [Do_of]
    rw [(b1.set _).load]
    refine (Do_of _ _).2 ?_
    exact hQ _ ((x1.trans (AH.Ext.push _ _)).set (Nat.le_refl _) _)
  | ok ws =>
    rw [hM] at hQ
    rw [← hM, hw ws hM]
    obtain ⟨hwf, hlen⟩ := begin_wf hM
    generalize htk : (if ws = [] then Tok.nil else Tok.dead) = tk
    simp only [aextract, List.getElem?_cons_zero, List.getElem?_cons_succ, Do_of]
    rw [store_new H2 _ _ 2 rfl rfl rfl]
    have l1 : aload (H2.push (.row [.int .i64 0, .int .i64 0])) 1 false (.ptr H2.n 1) = some (.int .i64 0) := by rw [load_push]; rfl
    simp only [Do_of, afaddr, Nat.zero_add, l1, abin_neq, Gd_true]
    rw [if_neg (by decide)]
    have b1 := a1.push (.row [.int .i64 0, .int .i64 0])
    have x2 := x1.trans (AH.Ext.push H2 (.row [.int .i64 0, .int .i64 0]))
    generalize H2.push (.row [.int .i64 0, .int .i64 0]) = H9 at b1 x2
    have k1 : JoinP (S.parse_begin_k1 Φ (.ptr H.n 0) (tokV tk ws) Q) [.int .i64 (lastL ws)] H9 := by
      simp only [JoinP_def, S.parse_begin_k1, tokV_len, Do_of, sl_zero]
      have hsl : ∃ x, aslice 2 (tokV tk ws) none (some (.int .i64 ws.length)) (some (.int .i64 ws.length)) = some x ∧ OwnT H9.n H9 2 x ws.length (ws.flatMap tokC) := by
        cases ws with
        | nil =>
          rw [if_pos rfl] at htk
          subst htk
          exact ⟨.lst .nil 0 [], rfl, OwnT.nil _ _ _⟩
        | cons w r =>
          rw [if_neg (by simp)] at htk
          subst htk
          refine ⟨.lst .full (w :: r).length ((w :: r).flatMap tokC), ?_, .full, rfl, flatMap_len tokC_len _, .inr (.inl rfl)⟩
          have hb : ∀ z, abound (some (.int .i64 ((w :: r).length : Nat))) z = some (w :: r).length := by
            intro z
            simp only [abound]
            rw [if_pos (by omega)]
            simp
          have hb0 : abound none 0 = some 0 := rfl
          unfold tokV aslice
          simp only [hb, hb0, Option.map_some]
          rw [if_neg (by rintro ⟨h, _⟩; simp at h), if_pos ⟨Nat.zero_le _, Nat.le_refl _, Nat.le_refl _, flatMap_len tokC_len _, by decide, by simp⟩]
          rw [if_pos (by simp), Nat.sub_zero, Nat.zero_mul, List.drop_zero, List.take_of_length_le (by rw [flatMap_len tokC_len]; exact Nat.le_refl _)]
      obtain ⟨x, hx, own⟩ := hsl
      rw [hx]
      simp only [Do_of]
      rw [show abuild [.str [], .int .i64 0] [(1, 1, .int .i64 (lastL ws))] = some (.agg (tokC ([], lastL ws))) from rfl]
      simp only [Do_of]
      rw [show abslice H9 false 2 1 [.str [], .int .i64 0] [(0, 2, .agg (tokC ([], lastL ws)))] = some (.lst .full 1 (tokC ([], lastL ws)), H9) from rfl]
      simp only [DoH_some]
      refine own.app (Nat.le_refl _) (m := 1) (news := tokC ([], lastL ws)) rfl rfl rfl (by decide) (by omega) (by omega) fun x' H3 ow3 l3 => ?_
      have c1 := l3.row b1
      obtain ⟨tk', rfl, hcl, _⟩ := ow3
      rw [show abuild [.lst .nil 0 [], .int .i64 0, .int .i64 0] [(0, 1, .lst tk' (ws.length + 1) (ws.flatMap tokC ++ tokC ([], lastL ws)))] = some (.agg [.lst tk' (ws.length + 1) (ws.flatMap tokC ++ tokC ([], lastL ws)), .int .i64 0, .int .i64 0]) from rfl]
      simp only [Do_of]
      rw [show aboxv H3 true 3 (.agg [.lst tk' (ws.length + 1) (ws.flatMap tokC ++ tokC ([], lastL ws)), .int .i64 0, .int .i64 0]) = some (.ptr H3.n 0, H3.push (.row [.lst tk' (ws.length + 1) (ws.flatMap tokC ++ tokC ([], lastL ws)), .int .i64 0, .int .i64 0])) from rfl]
      simp only [DoH_some]
      rw [show abuild [.int .i64 0, .int .i64 0] [] = some (.agg [.int .i64 0, .int .i64 0]) from rfl]
      have c2 := c1.push (.row [.lst tk' (ws.length + 1) (ws.flatMap tokC ++ tokC ([], lastL ws)), .int .i64 0, .int .i64 0])
      have c3 := At.new H3 (.row [.lst tk' (ws.length + 1) (ws.flatMap tokC ++ tokC ([], lastL ws)), .int .i64 0, .int .i64 0])
      simp only [Do_of]
      rw [c2.store, if_pos ⟨rfl, rfl, rfl, by simp⟩]
      simp only [Do_of]
      rw [(c2.set _).load]
      refine (Do_of _ _).2 ?_
      have hlt : H.n < H3.n := Nat.lt_of_lt_of_le b1.1 l3.1
      refine hQ _ ?_ H3.n (by omega) ⟨hwf.ne, by show (ws ++ _).length ≤ _; rw [List.length_append, List.length_singleton]; omega, tk', ?_⟩
      · have e3 : AH.Ext H H3 := ⟨Nat.le_trans x2.1 l3.1, fun i hi => ((l3.2 i _ ⟨Nat.lt_of_lt_of_le hi x2.1, x2.2 i hi⟩ (.inl (Nat.lt_of_lt_of_le hi x2.1))).2)⟩
        exact (e3.trans (AH.Ext.push _ _)).set (Nat.le_refl _) _
      · have := c3.set_ne (i := H.n) (by omega) (.row (setCells [AV.int .i64 0, .int .i64 0] 0 (AV.agg [.int .i64 0, .int .i64 0]).cells))
        have e : tokV tk' (beginM ws).toks = .lst tk' (ws.length + 1) (ws.flatMap tokC ++ tokC ([], lastL ws)) := by
          unfold tokV beginM
          simp only [List.length_append, List.length_singleton, List.flatMap_append, List.flatMap_cons, List.flatMap_nil, List.append_nil]
        rw [e]; exact this
    simp only [tokV_len, Do_of, abin_gtr, Gd_true]
    refine ite_both (fun hx => ?_) (fun hx => ?_)
    · have hp : 0 < ws.length := by simp only [decide_eq_true_eq] at hx; omega
      have e0 : IntKind.wrap .i64 ((ws.length : Int) - 1) = ((ws.length - 1 : Nat) : Int) := by rw [wrap_i64 (by omega) (by omega)]; omega
      simp only [abin_sub, Do_of, e0]
      rw [tokV_addr (by omega)]
      have hg : ws[ws.length - 1]? = some (ws[ws.length - 1]'(by omega)) := List.getElem?_eq_getElem _
      have hl : lastL ws = (ws[ws.length - 1]'(by omega)).2 := by
        unfold lastL
        rw [List.getLast?_eq_getElem?, hg]
      simp only [Do_of, elA, afaddr, tok_line _ hg]
      rw [← hl]; exact k1
    · have hz : ws = [] := List.length_eq_zero_iff.1 (by simp only [decide_eq_true_eq] at hx; omega)
      subst hz
      exact k1
end
end Rb

/- Package parse: whole programs. -/
set_option linter.unusedVariables false
set_option linter.unusedSimpArgs false
set_option linter.unusedSectionVars false
namespace Rb
open Go
section
variable {Φ : Calls'} {kw : List UInt8 → Bool} {val : List UInt8 → Int}
theorem p_end (hT : Cl Φ S.tab_Lex) {H : AH} {Q : Post} {id : Nat} {s : PSt} (p : PS H id s) (hQ : ∀ H', KeepP id H H' → PS H' id s.endM → Q (.agg [.int .i64 s.endM.fl, .int .i64 s.endM.fk]) H') : Φ K.parse_parser_end [.ptr id 0] H Q := by
  refine S.cl_parse_parser_end hT ?_
  unfold S.parse_parser_end
  have hid := lt_of_ps p
  simp only [abox, if_true, DoH_some]
  have p2 := p.pushL (.row [.int .i64 0, .int .i64 0])
  have a1 : At (H.push (.row [.int .i64 0, .int .i64 0])) H.n (.row [.int .i64 0, .int .i64 0]) := At.new H _
  have kk : KeepP id H (H.push (.row [.int .i64 0, .int .i64 0])) := KeepP.push id H _
  generalize H.push (.row [.int .i64 0, .int .i64 0]) = H2 at p2 a1 kk
  have k1 : ∀ H4, KeepP id H H4 → PS H4 id s.endM → At H4 H.n (.row [.int .i64 0, .int .i64 0]) → JoinP (S.parse_parser_end_k1 Φ (.ptr id 0) (.ptr H.n 0) Q) [] H4 := by
    intro H4 k4 p4 c1
    obtain ⟨tk, hat, _⟩ := p4.l0
    simp only [JoinP_def, S.parse_parser_end_k1, anilck, afaddr, Do_of, Nat.zero_add, hat.load]
    rw [show takeCells [tokV tk s.endM.toks, AV.int .i64 s.endM.fl, .int .i64 s.endM.fk] 1 2 true = some (.agg [.int .i64 s.endM.fl, .int .i64 s.endM.fk]) from rfl]
    simp only [Do_of]
    rw [c1.store, if_pos ⟨rfl, rfl, rfl, by simp⟩]
    simp only [Do_of]
    rw [(c1.set _).load]
    refine (Do_of _ _).2 ?_
    exact hQ _ (k4.setL (Nat.le_refl _) _) (p4.setL (by omega) _)
  have k2 : ∀ b : Bool, (b = true ↔ (s.fk = 0 ∧ 1 < s.toks.length)) → JoinP (S.parse_parser_end_k2 Φ (.ptr id 0) (.ptr H.n 0) Q) [.bool b] H2 := by
    intro b hb
    simp only [JoinP_def, S.parse_parser_end_k2, sl_zero, Gd_true]
    refine ite_both (fun hx => ?_) (fun hx => ?_)
    · have e : s.endM = s.fail 4 := by unfold PSt.endM; rw [if_pos (hb.1 hx)]
      refine p_fail hT p2 fun H16 k16 p16 => ?_
      exact k1 H16 (kk.trans k16) (by rw [e]; exact p16) (k16.2 _ _ (by omega) a1)
    · have e : s.endM = s := by unfold PSt.endM; rw [if_neg (fun h => hx (hb.2 h))]
      exact k1 H2 kk (by rw [e]; exact p2) a1
  refine p_bad hT p2 ?_
  simp only [aun_not, Do_of, Gd3_true]
  refine ite_both (fun hx => ?_) (fun hx => ?_)
  · have h0 : s.fk = 0 := by simpa using hx
    obtain ⟨tk, hat, hl0⟩ := p2.l0
    simp only [anilck, afaddr, Do_of, Nat.zero_add, hl0, tokV_len, abin_gtr]
    exact k2 _ (by simp only [decide_eq_true_eq, h0, true_and]; omega)
  · have h0 : s.fk ≠ 0 := by simpa using hx
    exact k2 _ (by simp [h0])

/-- A text as a program. -/
def parseP (num : List UInt8 → Bool) (kw : List UInt8 → Bool) (val : List UInt8 → Int) (s : List UInt8) : GProg × Int × Int := match lexM num s with
  | .error e => (⟨[], []⟩, e.1, e.2)
  | .ok ws => parseM kw val (beginM ws)
def progV (r : GProg × Int × Int) : AV := .tup [.agg r.1.cells, .agg [.int .i64 r.2.1, .int .i64 r.2.2]]
theorem progW (vs ts : AV) (fl fk : Int) {x : GProg} (h1 : vs.weak = lstA GVar.cells x.vars) (h2 : ts.weak = lstA thrCells x.threads) : (AV.tup [.agg [vs, ts], .agg [.int .i64 fl, .int .i64 fk]]).weak = progV (x, fl, fk) := by
  simp only [AV.weak, AV.weaks, h1, h2, progV, GProg.cells]
theorem thrCells_weak (x : List GStmt) : AV.weaks (thrCells x) = thrCells x := by
  simp only [thrCells, AV.weaks, lstA_weak GStmt.weaks]
theorem agg7_slice (H : AH) (v : GVar) : abslice H false 7 1 [.str [], .int .i64 0, .int .i64 0, .bool false, .lst .nil 0 [], .int .i64 0, .lst .nil 0 []] [(0, 7, .agg v.cells)] = some (.lst .full 1 v.cells, H) := by
  have hfl := GVar.len v
  simp only [abslice, fillA, AV.known, AV.cells, hfl]
  rw [if_pos (by simp)]
  rw [setCells_all (by rw [hfl]; rfl)]
  rfl

section
variable {H0 : AH} {Q : Post} {i1 i3 i21 id : Nat}
/-- The rows of parse.Prog. -/
structure PF (H0 : AH) (id i1 i3 i21 : Nat) (H : AH) (s : PSt) (L1 L2 : AV) : Prop where
  hid : id < H0.n
  h1 : i1 < H0.n
  h3 : i3 < H0.n
  d1 : i1 ≠ id
  d3 : i3 ≠ id
  d13 : i1 ≠ i3
  h21 : H0.n ≤ i21
  kk : KeepP id H0 H
  ps : PS H id s
  a1 : At H i1 (.row [.lst .nil 0 [], .lst .nil 0 []])
  a3 : At H i3 (.row [.int .i64 0, .int .i64 0])
  a21 : At H i21 (.row [L1, L2])
theorem PF.call {H : AH} {s : PSt} {L1 L2 : AV} (h : PF H0 id i1 i3 i21 H s L1 L2) {H' : AH} {s' : PSt} (k : KeepP id H H') (p : PS H' id s') : PF H0 id i1 i3 i21 H' s' L1 L2 :=
  ⟨h.hid, h.h1, h.h3, h.d1, h.d3, h.d13, h.h21, h.kk.trans k, p, k.2 _ _ h.d1 h.a1, k.2 _ _ h.d3 h.a3, k.2 _ _ (by have := h.hid; have := h.h21; omega) h.a21⟩
theorem PF.put {H : AH} {s : PSt} {L1 L2 : AV} (h : PF H0 id i1 i3 i21 H s L1 L2) (M1 M2 : AV) : PF H0 id i1 i3 i21 (H.set i21 (.row [M1, M2])) s M1 M2 :=
  ⟨h.hid, h.h1, h.h3, h.d1, h.d3, h.d13, h.h21, h.kk.setL h.h21 _, h.ps.setL (by have := h.hid; have := h.h21; omega) _, h.a1.set_ne (by have := h.h1; have := h.h21; omega) _, h.a3.set_ne (by have := h.h3; have := h.h21; omega) _, h.a21.set _⟩
theorem PF.left {H H' : AH} {s : PSt} {L1 L2 : AV} (h : PF H0 id i1 i3 i21 H s L1 L2) (k : Left H0.n H H') : PF H0 id i1 i3 i21 H' s L1 L2 :=
  ⟨h.hid, h.h1, h.h3, h.d1, h.d3, h.d13, h.h21, h.kk.left k, h.ps.left k, k.row h.a1, k.row h.a3, k.row h.a21⟩

/-- The end of parse.Prog. -/
theorem prog_fin (hT : Cl Φ S.tab_Lex) {H : AH} {s : PSt} {L1 L2 : AV} {vs : List GVar} {ts : List (List GStmt)} (h : PF H0 id i1 i3 i21 H s L1 L2) (w1 : L1.weak = lstA GVar.cells vs) (w2 : L2.weak = lstA thrCells ts) (s1 : L1.scalar = true) (s2 : L2.scalar = true)
    (hQ : ∀ H', Q (progV (if s.endM.fk ≠ 0 then (⟨[], []⟩, s.endM.fl, s.endM.fk) else (⟨vs, ts⟩, 0, 0))) H') : JoinP (S.parse_Prog_k1 Φ (.ptr i1 0) (.ptr i3 0) (.ptr id 0) (.ptr i21 0) fun v H' => Q v.weak H') [] H := by
  simp only [JoinP_def, S.parse_Prog_k1]
  refine p_end hT h.ps fun H61 k61 p61 => ?_
  have h2 := h.call k61 p61
  simp only [abox, if_true, DoH_some]
  rw [store_new H61 _ _ 2 rfl rfl rfl]
  have l1 : aload (H61.push (.row [.int .i64 s.endM.fl, .int .i64 s.endM.fk])) 1 false (.ptr H61.n 1) = some (.int .i64 s.endM.fk) := by rw [load_push]; rfl
  have l2 : aload (H61.push (.row [.int .i64 s.endM.fl, .int .i64 s.endM.fk])) 2 true (.ptr H61.n 0) = some (.agg [.int .i64 s.endM.fl, .int .i64 s.endM.fk]) := by rw [load_push]; rfl
  simp only [Do_of, afaddr, Nat.zero_add, l1, abin_neq, Gd_true]
  have b1 := h2.a1.push (.row [.int .i64 s.endM.fl, .int .i64 s.endM.fk])
  have b3 := h2.a3.push (.row [.int .i64 s.endM.fl, .int .i64 s.endM.fk])
  have b21 := h2.a21.push (.row [.int .i64 s.endM.fl, .int .i64 s.endM.fk])
  have b62 := At.new H61 (.row [.int .i64 s.endM.fl, .int .i64 s.endM.fk])
  have n1 : i1 < H61.n := h2.a1.1
  have n3 : i3 < H61.n := h2.a3.1
  have d13 := h.d13
  generalize H61.push (.row [.int .i64 s.endM.fl, .int .i64 s.endM.fk]) = H64 at l1 l2 b1 b3 b21 b62
  refine ite_both (fun hx => ?_) (fun hx => ?_)
  · have hb : s.endM.fk ≠ 0 := by simpa using hx
    rw [show abuild [.lst .nil 0 [], .lst .nil 0 []] [] = some (.agg [.lst .nil 0 [], .lst .nil 0 []]) from rfl]
    simp only [Do_of, l2]
    rw [b1.store, if_pos ⟨rfl, rfl, rfl, by simp⟩]
    simp only [Do_of]
    refine ⟨?_, ?_⟩
    · rw [(b62.set_ne (by omega) _).load]; rfl
    have e3 := b3.set_ne (i := i1) (by omega) (.row (setCells [AV.lst .nil 0 [], .lst .nil 0 []] 0 (AV.agg [.lst .nil 0 [], .lst .nil 0 []]).cells))
    have e1 := b1.set (.row (setCells [AV.lst .nil 0 [], .lst .nil 0 []] 0 (AV.agg [.lst .nil 0 [], .lst .nil 0 []]).cells))
    rw [e3.store, if_pos ⟨rfl, rfl, rfl, by simp⟩]
    simp only [Do_of]
    rw [(e1.set_ne d13 _).load, (e3.set _).load]
    refine (Do_of _ _).2 ((Do_of _ _).2 ?_)
    have := hQ ((H64.set i1 (.row (setCells [AV.lst .nil 0 [], .lst .nil 0 []] 0 (AV.agg [.lst .nil 0 [], .lst .nil 0 []]).cells))).set i3 (.row (setCells [AV.int .i64 0, .int .i64 0] 0 (AV.agg [.int .i64 s.endM.fl, .int .i64 s.endM.fk]).cells)))
    rw [if_pos hb] at this
    show Q (AV.tup [AV.agg [.lst .nil 0 [], .lst .nil 0 []], AV.agg [.int .i64 s.endM.fl, .int .i64 s.endM.fk]]).weak _
    rw [progW (x := ⟨[], []⟩) _ _ _ _ rfl rfl]
    exact this
  · have hb : ¬ s.endM.fk ≠ 0 := by simpa using hx
    have l21 : aload H64 2 true (.ptr i21 0) = some (.agg [L1, L2]) := by rw [b21.load]; rfl
    rw [l21]
    rw [show abuild [.int .i64 0, .int .i64 0] [] = some (.agg [.int .i64 0, .int .i64 0]) from rfl]
    simp only [Do_of]
    rw [b1.store, if_pos ⟨rfl, rfl, by simp [AV.cells, s1, s2], by simp⟩]
    simp only [Do_of]
    have e3 := b3.set_ne (i := i1) (by omega) (.row (setCells [AV.lst .nil 0 [], .lst .nil 0 []] 0 (AV.agg [L1, L2]).cells))
    have e1 := b1.set (.row (setCells [AV.lst .nil 0 [], .lst .nil 0 []] 0 (AV.agg [L1, L2]).cells))
    rw [e3.store, if_pos ⟨rfl, rfl, rfl, by simp⟩]
    simp only [Do_of]
    rw [(e1.set_ne d13 _).load, (e3.set _).load]
    refine (Do_of _ _).2 ((Do_of _ _).2 ?_)
    have := hQ ((H64.set i1 (.row (setCells [AV.lst .nil 0 [], .lst .nil 0 []] 0 (AV.agg [L1, L2]).cells))).set i3 (.row (setCells [AV.int .i64 0, .int .i64 0] 0 (AV.agg [.int .i64 0, .int .i64 0]).cells)))
    rw [if_neg hb] at this
    show Q (AV.tup [AV.agg [L1, L2], AV.agg [.int .i64 0, .int .i64 0]]).weak _
    rw [progW (x := ⟨vs, ts⟩) _ _ _ _ w1 w2]
    exact this

theorem own_scalar {n0 : Nat} {H : AH} {sz len : Nat} {x : AV} {cells : List AV} (h : OwnT n0 H sz x len cells) : x.scalar = true ∧ x.cells = [x] ∧ x.known = true := by
  obtain ⟨tk, rfl, _, _⟩ := h; exact ⟨rfl, rfl, rfl⟩
/-- The threads. -/
theorem thrs_loop (hT : Cl Φ S.tab_Lex) (hbl : ∀ n, BlockOK Φ kw val n) {L1 : AV} {vs : List GVar} (w1 : L1.weak = lstA GVar.cells vs) (s1 : L1.scalar = true) :
    ∀ (n : Nat) (H : AH) (s : PSt) (L2 : AV) (done : List (List GStmt)) (cs : List AV), PF H0 id i1 i3 i21 H s L1 L2 → Wf s → Few n s → (s.fk ≠ 0 ∨ done.length + s.toks.length ≤ 2000001) → OwnT H0.n H 1 L2 done.length cs → AV.weaks cs = done.flatMap thrCells →
    (∀ H', Q (progV (if (thrsM kw val n s).2.endM.fk ≠ 0 then (⟨[], []⟩, (thrsM kw val n s).2.endM.fl, (thrsM kw val n s).2.endM.fk) else (⟨vs, done ++ (thrsM kw val n s).1⟩, 0, 0))) H') →
    LoopP (S.parse_Prog_l2 Φ (.ptr i1 0) (.ptr i3 0) (.ptr id 0) (.ptr i21 0) fun v H' => Q v.weak H') ([], H) := by
  have out : ∀ (n : Nat) (H : AH) (s : PSt) (L2 : AV) (done : List (List GStmt)) (cs : List AV), PF H0 id i1 i3 i21 H s L1 L2 → OwnT H0.n H 1 L2 done.length cs → AV.weaks cs = done.flatMap thrCells → thrsM kw val n s = ([], s) →
      (∀ H', Q (progV (if (thrsM kw val n s).2.endM.fk ≠ 0 then (⟨[], []⟩, (thrsM kw val n s).2.endM.fl, (thrsM kw val n s).2.endM.fk) else (⟨vs, done ++ (thrsM kw val n s).1⟩, 0, 0))) H') →
      JoinP (S.parse_Prog_k1 Φ (.ptr i1 0) (.ptr i3 0) (.ptr id 0) (.ptr i21 0) fun v H' => Q v.weak H') [] H := by
    intro n H s L2 done cs h ow hcs em hQ
    rw [em] at hQ
    simp only [List.append_nil] at hQ
    obtain ⟨hs, _, _⟩ := own_scalar ow
    refine prog_fin hT h w1 ?_ s1 hs hQ
    obtain ⟨tk, rfl, _, _⟩ := ow
    simp only [AV.weak, hcs, lstA]
  intro n
  induction n with
  | zero =>
    intro H s L2 done cs h w f _ ow hcs hQ
    have hb := f.zero w
    refine LoopP.step ?_
    simp only [S.parse_Prog_l2]
    refine p_is hT h.ps fun H1 k1 p1 => ?_
    have hn : ¬ s.isW [116, 104, 114, 101, 97, 100] = true := fun e => hb (isW_hd e).1
    simp only [Gd_true]
    rw [if_neg hn]
    rw [isA_no hn] at p1
    exact out 0 H1 s L2 done cs (h.call k1 p1) (ow.keep h.hid k1) hcs (by unfold thrsM; rfl) hQ
  | succ n ih =>
    intro H s L2 done cs h w f hl ow hcs hQ
    refine LoopP.step ?_
    simp only [S.parse_Prog_l2]
    refine p_is hT h.ps fun H1 k1 p1 => ?_
    have h1 := h.call k1 p1
    have ow1 := ow.keep h.hid k1
    simp only [Gd_true]
    refine ite_both (fun hy => ?_) (fun hy => ?_)
    · rw [isA_yes hy] at h1
      have fa := f.isW w hy (by decide)
      have em : thrsM kw val (n + 1) s = ((blockF (stmtsM kw val n) 1 s.adv).1 :: (thrsM kw val n (blockF (stmtsM kw val n) 1 s.adv).2).1, (thrsM kw val n (blockF (stmtsM kw val n) 1 s.adv).2).2) := by
        conv => lhs; unfold thrsM
        rw [if_pos hy]
      rw [em] at hQ
      have hld : ∀ {H' : AH} {s'}, PF H0 id i1 i3 i21 H' s' L1 L2 → aload H' 1 false (.ptr i21 1) = some L2 := fun h => by rw [h.a21.load]; rfl
      simp only [afaddr, Do_of, Nat.zero_add, hld h1]
      have sb := Sub.block (Sub.stmts kw val n) 1 s.adv
      have ss := w.short (by rw [(isW_hd hy).2]; decide)
      refine hbl n _ _ _ _ _ h1.ps w.adv fa fun H2 k2 p2 => ?_
      have h2 := h1.call k2 p2
      have ow2 := ow1.keep h.hid k2
      generalize blockF (stmtsM kw val n) 1 s.adv = b at hQ sb h2
      refine ⟨hld h2, ?_⟩
      rw [show abslice H2 false 1 1 [.lst .nil 0 []] [(0, 1, lstA GStmt.cells b.1)] = some (.lst .full 1 [lstA GStmt.cells b.1], H2) from rfl]
      simp only [DoH_some]
      have hlen : done.length + s.toks.length ≤ 2000001 := by
        rcases hl with hl | hl
        · exact absurd (isW_hd hy).1 hl
        · exact hl
      refine ow2.app h2.kk.1 (m := 1) (news := [lstA GStmt.cells b.1]) rfl rfl rfl (by decide) (by omega) (by omega) fun x' H3 ow3 l3 => ?_
      have h3 := h2.left l3
      obtain ⟨hsx, hcx, hkx⟩ := own_scalar ow3
      rw [h3.a21.st (n := 1) (o := 1) (v := x') hkx (by rw [hcx]; rfl) (by rw [hcx]; simp [hsx]) (by simp), hcx]
      simp only [Do_of]
      rw [show setCells [L1, L2] 1 [x'] = [L1, x'] from rfl]
      have sb2 := sb.2.1
      refine ih _ b.2 x' (done ++ [b.1]) (cs ++ [lstA GStmt.cells b.1]) (h3.put L1 x') (sb.1 w.adv) (sb.few fa) ?_ ?_ ?_ ?_
      · by_cases hfk : b.2.fk = 0
        · exact .inr (by rw [List.length_append, List.length_singleton]; omega)
        · exact .inl hfk
      · rw [List.length_append, List.length_singleton]
        exact ow3.frame fun t a b ht => ht.set_ne (fun e => by subst e; have := ht.2.symm.trans h3.a21.2; cases this) _
      · rw [weaks_app, hcs, List.flatMap_append]
        simp only [AV.weaks, lstA_weak GStmt.weaks, List.flatMap_cons, List.flatMap_nil, thrCells, List.append_nil]
      · intro H'
        have := hQ H'
        rw [List.append_assoc]
        exact this
    · rw [isA_no hy] at h1
      exact out (n + 1) H1 s L2 done cs h1 ow1 hcs (by unfold thrsM; rw [if_neg hy]) hQ
/-- The variables. -/
theorem vars_loop (hT : Cl Φ S.tab_Lex) (hW : Wk Φ) (hkw : ∀ x, Val Φ K.lex_Keyword [.str x] (.bool (kw x))) (hv : NumV Φ val) (m : Nat) :
    ∀ (n : Nat) (H : AH) (s : PSt) (L1 : AV) (done : List GVar), PF H0 id i1 i3 i21 H s L1 (.lst .nil 0 []) → Wf s → Few n s → (s.fk ≠ 0 ∨ done.length + s.toks.length ≤ 2000001) → Few m s → OwnT H0.n H 7 L1 done.length (done.flatMap GVar.cells) →
    (∀ H', Q (progV (if (thrsM kw val m (varsM kw val n s).2).2.endM.fk ≠ 0 then (⟨[], []⟩, (thrsM kw val m (varsM kw val n s).2).2.endM.fl, (thrsM kw val m (varsM kw val n s).2).2.endM.fk) else (⟨done ++ (varsM kw val n s).1, (thrsM kw val m (varsM kw val n s).2).1⟩, 0, 0))) H') →
    LoopP (S.parse_Prog_l4 Φ (.ptr i1 0) (.ptr i3 0) (.ptr id 0) (.ptr i21 0) fun v H' => Q v.weak H') ([], H) := by
  have out : ∀ (n : Nat) (H : AH) (s : PSt) (L1 : AV) (done : List GVar), PF H0 id i1 i3 i21 H s L1 (.lst .nil 0 []) → Wf s → Few m s → OwnT H0.n H 7 L1 done.length (done.flatMap GVar.cells) → varsM kw val n s = ([], s) →
      (∀ H', Q (progV (if (thrsM kw val m (varsM kw val n s).2).2.endM.fk ≠ 0 then (⟨[], []⟩, (thrsM kw val m (varsM kw val n s).2).2.endM.fl, (thrsM kw val m (varsM kw val n s).2).2.endM.fk) else (⟨done ++ (varsM kw val n s).1, (thrsM kw val m (varsM kw val n s).2).1⟩, 0, 0))) H') →
      JoinP (S.parse_Prog_k3 Φ (.ptr i1 0) (.ptr i3 0) (.ptr id 0) (.ptr i21 0) fun v H' => Q v.weak H') [] H := by
    intro n H s L1 done h w f ow em hQ
    rw [em] at hQ
    simp only [List.append_nil] at hQ
    obtain ⟨hs, _, _⟩ := own_scalar ow
    have hw1 : L1.weak = lstA GVar.cells done := by
      have hs : AV.weaks (done.flatMap GVar.cells) = done.flatMap GVar.cells := by
        clear ow hQ h
        induction done with
        | nil => rfl
        | cons v r ih => rw [List.flatMap_cons, weaks_app, GVar.weaks, ih]
      rw [ow.weak hs]; rfl
    simp only [JoinP_def, S.parse_Prog_k3]
    exact thrs_loop hT (p_block hT hW hkw hv) hw1 hs m H s (.lst .nil 0 []) [] [] h w f (.inr (by have := h.ps.2.1; simp only [List.length_nil]; omega)) (OwnT.nil _ _ _) rfl hQ
  intro n
  induction n with
  | zero =>
    intro H s L1 done h w f _ fm ow hQ
    have hb := f.zero w
    refine LoopP.step ?_
    simp only [S.parse_Prog_l4]
    refine p_is hT h.ps fun H1 k1 p1 => ?_
    have hn : ¬ s.isW [118, 97, 114] = true := fun e => hb (isW_hd e).1
    simp only [Gd_true]
    rw [if_neg hn]
    rw [isA_no hn] at p1
    exact out 0 H1 s L1 done (h.call k1 p1) w fm (ow.keep h.hid k1) (by unfold varsM; rfl) hQ
  | succ n ih =>
    intro H s L1 done h w f hl fm ow hQ
    refine LoopP.step ?_
    simp only [S.parse_Prog_l4]
    refine p_is hT h.ps fun H1 k1 p1 => ?_
    have h1 := h.call k1 p1
    have ow1 := ow.keep h.hid k1
    simp only [Gd_true]
    refine ite_both (fun hy => ?_) (fun hy => ?_)
    · rw [isA_yes hy] at h1
      have fa := f.isW w hy (by decide)
      have em : varsM kw val (n + 1) s = (⟨s.adv.nameT kw, (typM kw val n 1 (s.adv.nameS kw)).1⟩ :: (varsM kw val n ((typM kw val n 1 (s.adv.nameS kw)).2.want [59])).1, (varsM kw val n ((typM kw val n 1 (s.adv.nameS kw)).2.want [59])).2) := by
        conv => lhs; unfold varsM
        rw [if_pos hy]
      rw [em] at hQ
      have hld : ∀ {H' : AH} {s'}, PF H0 id i1 i3 i21 H' s' L1 (.lst .nil 0 []) → aload H' 1 false (.ptr i21 0) = some L1 := fun h => by rw [h.a21.load]; rfl
      simp only [afaddr, Do_of, Nat.zero_add, hld h1]
      have ss := w.short (by rw [(isW_hd hy).2]; decide)
      refine p_name hT hkw h1.ps fun H2 k2 p2 => ?_
      have h2 := h1.call k2 p2
      have ow2 := ow1.keep h.hid k2
      refine ⟨hld h2, ?_⟩
      have sn := Sub.nameS kw s.adv
      have st := Sub.typ kw val n 1 (s.adv.nameS kw)
      refine p_typ hT hW hkw hv n _ _ _ _ _ h2.ps (sn.1 w.adv) (sn.few fa) fun H4 k4 p4 => ?_
      have h4 := h2.call k4 p4
      have ow4 := ow2.keep h.hid k4
      generalize typM kw val n 1 (s.adv.nameS kw) = t at hQ st h4
      refine ⟨hld h4, ?_⟩
      have hb : abuild [.str [], .int .i64 0, .int .i64 0, .bool false, .lst .nil 0 [], .int .i64 0, .lst .nil 0 []] [(0, 1, .str (s.adv.nameT kw)), (1, 6, .agg t.1.cells)] = some (.agg (GVar.cells ⟨s.adv.nameT kw, t.1⟩)) := by
        show abuild _ _ = some (.agg (.str (s.adv.nameT kw) :: t.1.cells))
        rw [GType.cells_eq]; rfl
      rw [hb]
      simp only [Do_of]
      rw [agg7_slice]
      simp only [DoH_some]
      have hlen : done.length + s.toks.length ≤ 2000001 := by
        rcases hl with hl | hl
        · exact absurd (isW_hd hy).1 hl
        · exact hl
      refine ow4.app h4.kk.1 (m := 1) (news := GVar.cells ⟨s.adv.nameT kw, t.1⟩) (by simp [acells, GVar.len]) (by rw [GVar.len]) (GVar.scalar _) (by decide) (by omega) (by omega) fun x' H3 ow3 l3 => ?_
      have h3 := h4.left l3
      obtain ⟨hsx, hcx, hkx⟩ := own_scalar ow3
      rw [h3.a21.st (n := 1) (o := 0) (v := x') hkx (by rw [hcx]; rfl) (by rw [hcx]; simp [hsx]) (by simp), hcx]
      simp only [Do_of]
      rw [show setCells [L1, AV.lst .nil 0 []] 0 [x'] = [x', .lst .nil 0 []] from rfl]
      have h5 := h3.put x' (.lst .nil 0 [])
      have ow5 : OwnT H0.n (H3.set i21 (.row [x', .lst .nil 0 []])) 7 x' (done.length + 1) (done.flatMap GVar.cells ++ GVar.cells ⟨s.adv.nameT kw, t.1⟩) := ow3.frame fun t a b ht => ht.set_ne (fun e => by subst e; have := ht.2.symm.trans h3.a21.2; cases this) _
      have sw := Sub.want t.2 [59]
      have sall := (sn.trans st).trans sw
      refine p_want hT h5.ps fun H6 k6 p6 => ?_
      refine ih _ (t.2.want [59]) x' (done ++ [⟨s.adv.nameT kw, t.1⟩]) (h5.call k6 p6) (sall.1 w.adv) (sall.few fa) ?_ (sall.few fm.adv) ?_ ?_
      · by_cases hfk : (t.2.want [59]).fk = 0
        · exact .inr (by have := sall.2.1; rw [List.length_append, List.length_singleton]; omega)
        · exact .inl hfk
      · rw [List.length_append, List.length_singleton, List.flatMap_append, List.flatMap_cons, List.flatMap_nil, List.append_nil]
        exact ow5.keep h.hid k6
      · intro H'
        have := hQ H'
        rw [List.append_assoc]
        exact this
    · rw [isA_no hy] at h1
      exact out (n + 1) H1 s L1 done h1 w fm ow1 (by unfold varsM; rw [if_neg hy]) hQ
end
theorem p_Prog (hT : Cl Φ S.tab_Lex) (hW : Wk Φ) (hkw : ∀ x, Val Φ K.lex_Keyword [.str x] (.bool (kw x))) (hv : NumV Φ val) {num : List UInt8 → Bool} (htok : ∀ s, Val Φ K.lex_Tokens [.str s] (lexV2 (lexM num s))) (s : List UInt8) {H : AH} {Q : Post} (hQ : ∀ H', Q (progV (parseP num kw val s)) H') : Φ K.parse_Prog [.str s] H Q := by
  refine hW _ _ _ _ (S.cl_parse_Prog hT ?_)
  unfold S.parse_Prog
  simp only [abox, if_true, DoH_some]
  have a1 : At ((H.push (.row [.lst .nil 0 [], .lst .nil 0 []])).push (.row [.int .i64 0, .int .i64 0])) H.n (.row [.lst .nil 0 [], .lst .nil 0 []]) := (At.new H _).push _
  have a3 : At ((H.push (.row [.lst .nil 0 [], .lst .nil 0 []])).push (.row [.int .i64 0, .int .i64 0])) (H.n + 1) (.row [.int .i64 0, .int .i64 0]) := At.new (H.push _) _
  have hn2 : (H.push (.row [.lst .nil 0 [], .lst .nil 0 []])).n = H.n + 1 := rfl
  have hn4 : ((H.push (.row [.lst .nil 0 [], .lst .nil 0 []])).push (.row [.int .i64 0, .int .i64 0])).n = H.n + 2 := rfl
  rw [hn2]
  generalize (H.push (.row [.lst .nil 0 [], .lst .nil 0 []])).push (.row [.int .i64 0, .int .i64 0]) = H4 at a1 a3 hn4
  refine p_begin hT htok s fun H6 x6 => ?_
  have b1 := a1.ext x6
  have b3 := a3.ext x6
  unfold parseP at hQ
  cases hM : lexM num s with
  | error e =>
    rw [hM] at hQ
    have hne : e.2 ≠ 0 := lexM_err hM
    simp only [aextract, List.getElem?_cons_zero, List.getElem?_cons_succ, Do_of]
    rw [store_new H6 _ _ 2 rfl rfl rfl]
    have l1 : aload (H6.push (.row [.int .i64 e.1, .int .i64 e.2])) 1 false (.ptr H6.n 1) = some (.int .i64 e.2) := by rw [load_push]; rfl
    have l2 : aload (H6.push (.row [.int .i64 e.1, .int .i64 e.2])) 2 true (.ptr H6.n 0) = some (.agg [.int .i64 e.1, .int .i64 e.2]) := by rw [load_push]; rfl
    have c1 := b1.push (.row [.int .i64 e.1, .int .i64 e.2])
    have c3 := b3.push (.row [.int .i64 e.1, .int .i64 e.2])
    have c9 := At.new H6 (.row [.int .i64 e.1, .int .i64 e.2])
    have hn6 : H.n + 1 < H6.n := b3.1
    simp only [Do_of, afaddr, Nat.zero_add, l1, abin_neq, Gd_true]
    rw [if_pos (by simpa using hne)]
    rw [show abuild [.lst .nil 0 [], .lst .nil 0 []] [] = some (.agg [.lst .nil 0 [], .lst .nil 0 []]) from rfl]
    simp only [Do_of, l2]
    generalize H6.push (.row [.int .i64 e.1, .int .i64 e.2]) = H7 at c1 c3 c9
    rw [c1.store, if_pos ⟨rfl, rfl, rfl, by simp⟩]
    simp only [Do_of]
    refine ⟨?_, ?_⟩
    · rw [(c9.set_ne (by omega) _).load]; rfl
    have e3 := c3.set_ne (i := H.n) (by omega) (.row (setCells [AV.lst .nil 0 [], .lst .nil 0 []] 0 (AV.agg [.lst .nil 0 [], .lst .nil 0 []]).cells))
    have e1 := c1.set (.row (setCells [AV.lst .nil 0 [], .lst .nil 0 []] 0 (AV.agg [.lst .nil 0 [], .lst .nil 0 []]).cells))
    rw [e3.store, if_pos ⟨rfl, rfl, rfl, by simp⟩]
    simp only [Do_of]
    rw [(e1.set_ne (by omega) _).load, (e3.set _).load]
    refine (Do_of _ _).2 ((Do_of _ _).2 ?_)
    show Q (AV.tup [AV.agg [.lst .nil 0 [], .lst .nil 0 []], AV.agg [.int .i64 e.1, .int .i64 e.2]]).weak _
    rw [progW (x := ⟨[], []⟩) _ _ _ _ rfl rfl]
    exact hQ _
  | ok ws =>
    rw [hM] at hQ
    intro id hid p6
    obtain ⟨hwf, hlen⟩ := begin_wf hM
    simp only [aextract, List.getElem?_cons_zero, List.getElem?_cons_succ, Do_of]
    rw [store_new H6 _ _ 2 rfl rfl rfl]
    have l1 : aload (H6.push (.row [.int .i64 0, .int .i64 0])) 1 false (.ptr H6.n 1) = some (.int .i64 0) := by rw [load_push]; rfl
    have c1 := b1.push (.row [.int .i64 0, .int .i64 0])
    have c3 := b3.push (.row [.int .i64 0, .int .i64 0])
    have p7 := p6.pushL (.row [.int .i64 0, .int .i64 0])
    simp only [Do_of, afaddr, Nat.zero_add, l1, abin_neq, Gd_true]
    rw [if_neg (by decide)]
    have hid6 := lt_of_ps p7
    generalize H6.push (.row [.int .i64 0, .int .i64 0]) = H7 at c1 c3 p7 hid6
    have pf : PF H7 id H.n (H.n + 1) H7.n (H7.push (.row [.lst .nil 0 [], .lst .nil 0 []])) (beginM ws) (.lst .nil 0 []) (.lst .nil 0 []) :=
      ⟨hid6, c1.1, c3.1, by omega, by omega, by omega, Nat.le_refl _, KeepP.push _ _ _, p7.pushL _, c1.push _, c3.push _, At.new _ _⟩
    have hlen' : (beginM ws).toks.length = ws.length + 1 := by show (ws ++ _).length = _; simp
    exact vars_loop hT hW hkw hv (beginM ws).toks.length (beginM ws).toks.length _ _ _ [] pf hwf (.inr (Nat.le_refl _)) (.inr (by rw [List.length_nil, hlen']; omega)) (.inr (Nat.le_refl _)) (OwnT.nil _ _ _) hQ
end
end Rb

/- The document's lexer: rabbetref08. -/
set_option linter.unusedVariables false
set_option linter.unusedSimpArgs false
set_option linter.unusedSectionVars false
namespace Rb
open Go

def sgn0 : List UInt8 := [123, 125, 91, 93, 40, 41, 59, 58, 44, 46, 43, 45, 42, 38, 124, 94]
def classM (c : UInt8) : Int := if isLet c = true then 1 else if isDig c = true then 2 else if c.toNat = 95 then 3 else if c.toNat = 61 ∨ c.toNat = 33 then 5 else if c.toNat = 60 ∨ c.toNat = 62 then 6 else if sgn0.contains c = true then 4 else 0
def top64 : List UInt8 := [49, 56, 52, 52, 54, 55, 52, 52, 48, 55, 51, 55, 48, 57, 53, 53, 49, 54, 49, 53]
def greatM (w : List UInt8) : Bool := decide (20 < w.length) || (decide (w.length = 20) && !(Op.bytesLess w top64 || w == top64))
/-- Numbers that may be, as the document says. -/
def NumG (num : List UInt8 → Bool) : Prop := ∀ w : List UInt8, w ≠ [] → (∀ c ∈ w, isDig c = true) → ¬ (1 < w.length ∧ w.head? = some 48) → num w = !greatM w
theorem isLet_iff (c : UInt8) : isLet c = true ↔ 97 ≤ c.toNat ∧ c.toNat ≤ 122 := by simp [isLet]
theorem isDig_iff (c : UInt8) : isDig c = true ↔ 48 ≤ c.toNat ∧ c.toNat ≤ 57 := by simp [isDig]
theorem u8_eq {a b : UInt8} : a = b ↔ a.toNat = b.toNat := ⟨fun h => by rw [h], fun h => UInt8.toNat_inj.1 h⟩
section
variable {Φ : Calls'} {H : AH} {Q : Post}
theorem r_class (hT : Cl Φ S.tab_Lex) {c : UInt8} (hQ : Q (.int .i64 (classM c)) H) : Φ K.rabbetref08_class [.int .u8 c.toNat] H Q := by
  refine S.cl_rabbetref08_class hT ?_
  unfold S.rabbetref08_class
  have loop : ∀ (ys : List UInt8) (i : Nat), sgn0.drop i = ys → Q (.int .i64 (if ys.contains c = true then 4 else 0)) H → LoopP (S.rabbetref08_class_l1 Φ (.int .u8 c.toNat) Q) ([.int .i64 i], H) := by
    intro ys
    induction ys with
    | nil =>
      intro i hi hq
      have : 16 ≤ i := by have := drop_nil_le hi; exact this
      refine LoopP.step ?_
      simp only [S.rabbetref08_class_l1, sl_zero, alen_str, abin_lss, Do_of, Gd_true]
      rw [if_neg (by simp only [decide_eq_true_eq]; simp; omega)]
      simpa using hq
    | cons y ys ih =>
      intro i hi hq
      obtain ⟨hlt, hy, hd'⟩ := drop_cons_lt hi
      have hlt' : i < 16 := hlt
      refine LoopP.step ?_
      simp only [S.rabbetref08_class_l1, sl_zero, alen_str, abin_lss, Do_of, Gd_true]
      rw [if_pos (by simp only [decide_eq_true_eq]; simp; omega)]
      have hx : aidxs (.str [123, 125, 91, 93, 40, 41, 59, 58, 44, 46, 43, 45, 42, 38, 124, 94]) (.int .i64 i) = some (.int .u8 y.toNat) := by
        show aidxs (.str sgn0) _ = _
        simp only [aidxs]; rw [if_pos (by omega)]; simp [hy]
      rw [hx]
      simp only [Do_of, abin_eql]
      refine ite_both (fun h => ?_) (fun h => ?_)
      · have hc : c = y := by
          have : (y.toNat : Int) = c.toNat := by simpa using h
          exact UInt8.toNat_inj.1 (by omega)
        rw [hc, if_pos (by simp)] at hq
        exact hq
      · have hc : ¬ (c == y) = true := by
          intro e
          refine h ?_
          rw [beq_iff_eq] at e
          rw [e]; simp
        simp only [abin_add, Do_of]
        rw [wrap_i64 (by omega) (by omega), show ((i : Int) + 1) = ((i + 1 : Nat) : Int) by simp]
        refine ih (i + 1) hd' ?_
        rw [List.contains_cons] at hq
        simp only [Bool.not_eq_true] at hc
        rw [hc, Bool.false_or] at hq
        exact hq
  have fin : ∀ z : Int, z = classM c → Q (.int .i64 z) H := fun z h => by rw [h]; exact hQ
  have k6 : ∀ b : Bool, b = isLet c → JoinP (S.rabbetref08_class_k6 Φ (.int .u8 c.toNat) Q) [.bool b] H := by
    intro b hb
    simp only [JoinP_def, S.rabbetref08_class_k6, sl_zero, Gd_true]
    refine ite_both (fun h => ?_) (fun h => ?_)
    · exact fin 1 (by unfold classM; rw [if_pos (by rw [← hb]; exact h)])
    have hl : ¬ isLet c = true := by rw [← hb]; exact h
    have k5 : ∀ b : Bool, b = isDig c → JoinP (S.rabbetref08_class_k5 Φ (.int .u8 c.toNat) Q) [.bool b] H := by
      intro b hb
      simp only [JoinP_def, S.rabbetref08_class_k5, sl_zero, Gd_true]
      refine ite_both (fun h => ?_) (fun h => ?_)
      · exact fin 2 (by unfold classM; rw [if_neg hl, if_pos (by rw [← hb]; exact h)])
      have hd : ¬ isDig c = true := by rw [← hb]; exact h
      simp only [abin_eql, Do_of]
      refine ite_both (fun h => ?_) (fun h => ?_)
      · exact fin 3 (by unfold classM; rw [if_neg hl, if_neg hd, if_pos (by simp at h; omega)])
      have h95 : ¬ c.toNat = 95 := fun e => h (by rw [e]; rfl)
      have k4 : ∀ b : Bool, (b = true ↔ c.toNat = 61 ∨ c.toNat = 33) → JoinP (S.rabbetref08_class_k4 Φ (.int .u8 c.toNat) Q) [.bool b] H := by
        intro b hb
        simp only [JoinP_def, S.rabbetref08_class_k4, sl_zero, Gd_true]
        refine ite_both (fun h => ?_) (fun h => ?_)
        · exact fin 5 (by unfold classM; rw [if_neg hl, if_neg hd, if_neg h95, if_pos (hb.1 h)])
        have h5 : ¬ (c.toNat = 61 ∨ c.toNat = 33) := fun e => h (hb.2 e)
        have k3 : ∀ b : Bool, (b = true ↔ c.toNat = 60 ∨ c.toNat = 62) → JoinP (S.rabbetref08_class_k3 Φ (.int .u8 c.toNat) Q) [.bool b] H := by
          intro b hb
          simp only [JoinP_def, S.rabbetref08_class_k3, sl_zero, Gd_true]
          refine ite_both (fun h => ?_) (fun h => ?_)
          · exact fin 6 (by unfold classM; rw [if_neg hl, if_neg hd, if_neg h95, if_neg h5, if_pos (hb.1 h)])
          have h6 : ¬ (c.toNat = 60 ∨ c.toNat = 62) := fun e => h (hb.2 e)
          simp only [S.rabbetref08_class_k2]
          exact loop sgn0 0 rfl (fin _ (by unfold classM; rw [if_neg hl, if_neg hd, if_neg h95, if_neg h5, if_neg h6]))
        simp only [abin_eql, Do_of, Gd3_false]
        refine ite_both (fun h => ?_) (fun h => ?_)
        · refine k3 _ ⟨fun e => .inr (by simp at e; omega), fun e => ?_⟩
          rcases e with e | e
          · rw [e] at h; exact absurd h (by decide)
          · rw [e]; rfl
        · refine k3 _ ⟨fun e => .inl (by simp at h; omega), fun e => rfl⟩
      simp only [abin_eql, Do_of, Gd3_false]
      refine ite_both (fun h => ?_) (fun h => ?_)
      · refine k4 _ ⟨fun e => .inr (by simp at e; omega), fun e => ?_⟩
        rcases e with e | e
        · rw [e] at h; exact absurd h (by decide)
        · rw [e]; rfl
      · refine k4 _ ⟨fun e => .inl (by simp at h; omega), fun e => rfl⟩
    simp only [abin_geq, abin_leq, Do_of, Gd3_true]
    refine ite_both (fun h => ?_) (fun h => ?_)
    · refine k5 _ ?_
      have h' : 48 ≤ c.toNat := by simp only [ge_iff_le, decide_eq_true_eq] at h; omega
      rw [Bool.eq_iff_iff]; simp [isDig, h']; omega
    · refine k5 _ ?_
      have h' : ¬ 48 ≤ c.toNat := by simp only [ge_iff_le, decide_eq_true_eq] at h; omega
      simp [isDig, h']
  simp only [abin_geq, abin_leq, Do_of, Gd3_true]
  refine ite_both (fun h => ?_) (fun h => ?_)
  · refine k6 _ ?_
    have h' : 97 ≤ c.toNat := by simp only [ge_iff_le, decide_eq_true_eq] at h; omega
    rw [Bool.eq_iff_iff]; simp [isLet, h']; omega
  · refine k6 _ ?_
    have h' : ¬ 97 ≤ c.toNat := by simp only [ge_iff_le, decide_eq_true_eq] at h; omega
    simp [isLet, h']
theorem r_great (hT : Cl Φ S.tab_Lex) {w : List UInt8} (hQ : Q (.bool (greatM w)) H) : Φ K.rabbetref08_great [.str w] H Q := by
  have fin : ∀ b : Bool, b = greatM w → Q (.bool b) H := fun b h => by rw [h]; exact hQ
  refine S.cl_rabbetref08_great hT ?_
  unfold S.rabbetref08_great
  have e20 : ([49, 56, 52, 52, 54, 55, 52, 52, 48, 55, 51, 55, 48, 57, 53, 53, 49, 54, 49, 53] : List UInt8) = top64 := rfl
  have l20 : top64.length = 20 := rfl
  rw [e20]
  simp only [alen_str, l20, abin_gtr, Do_of, Gd3_false]
  refine ite_both (fun h => ?_) (fun h => ?_)
  · have h1 : ¬ 20 < w.length := by
      intro e
      have : decide ((w.length : Int) > (20 : Nat)) = true := by rw [decide_eq_true_eq]; omega
      rw [this] at h; cases h
    simp only [abin_eql, Do_of, Gd3_true]
    refine ite_both (fun h2 => ?_) (fun h2 => ?_)
    · have h3 : w.length = 20 := by simp at h2; omega
      show Do (abinStr .gtr w top64) _
      simp only [abinStr, Do_of]
      exact fin _ (by unfold greatM; rw [decide_eq_false h1, decide_eq_true h3]; simp)
    · have h3 : ¬ w.length = 20 := fun e => h2 (by rw [e]; rfl)
      exact fin _ (by unfold greatM; rw [decide_eq_false h1, decide_eq_false h3]; rfl)
  · have h1 : 20 < w.length := by
      have : decide ((w.length : Int) > (20 : Nat)) = true := by simpa using h
      rw [decide_eq_true_eq] at this; omega
    exact fin _ (by unfold greatM; rw [decide_eq_true h1]; rfl)
theorem class_part (c : UInt8) : isPart c = true ↔ 1 ≤ classM c ∧ classM c ≤ 3 := by
  unfold isPart classM
  by_cases h1 : isLet c = true
  · simp [h1]
  rw [if_neg h1]
  by_cases h2 : isDig c = true
  · simp [h2]
  rw [if_neg h2]
  by_cases h3 : c.toNat = 95
  · rw [if_pos h3]; simp [h3]
  rw [if_neg h3]
  simp only [Bool.not_eq_true] at h1 h2
  rw [h1, h2, decide_eq_false h3]
  constructor
  · intro h; cases h
  · intro h
    exfalso
    revert h
    repeat' split
    all_goals omega
theorem class_dig (c : UInt8) : isDig c = true ↔ classM c = 2 := by
  unfold classM
  by_cases h1 : isLet c = true
  · rw [if_pos h1]
    rw [isLet_iff] at h1
    rw [isDig_iff]; omega
  rw [if_neg h1]
  by_cases h2 : isDig c = true
  · simp [h2]
  rw [if_neg h2]
  constructor
  · intro h; exact absurd h h2
  · intro h
    exfalso
    revert h
    repeat' split
    all_goals omega
theorem idx_at {s : List UInt8} {n : Nat} {y : UInt8} {r : List UInt8} (h : s.drop n = y :: r) : aidxs (.str s) (.int .i64 n) = some (.int .u8 y.toNat) := by
  obtain ⟨hlt, hy, _⟩ := drop_cons_lt h
  simp only [aidxs]; rw [if_pos (by omega)]; simp [hy]
theorem sgn_eq (c : UInt8) : sgn1.contains c = (sgn0.contains c || decide (c.toNat = 95) || decide (c.toNat = 61) || decide (c.toNat = 60)) := by
  rw [Bool.eq_iff_iff]
  simp only [sgn1, sgn0, List.contains_iff_mem, List.mem_cons, List.not_mem_nil, or_false, Bool.or_eq_true, decide_eq_true_eq, u8_eq]
  simp only [show (123 : UInt8).toNat = 123 from rfl, show (125 : UInt8).toNat = 125 from rfl, show (91 : UInt8).toNat = 91 from rfl, show (93 : UInt8).toNat = 93 from rfl, show (40 : UInt8).toNat = 40 from rfl, show (41 : UInt8).toNat = 41 from rfl, show (59 : UInt8).toNat = 59 from rfl, show (58 : UInt8).toNat = 58 from rfl, show (44 : UInt8).toNat = 44 from rfl, show (46 : UInt8).toNat = 46 from rfl, show (95 : UInt8).toNat = 95 from rfl, show (61 : UInt8).toNat = 61 from rfl, show (43 : UInt8).toNat = 43 from rfl, show (45 : UInt8).toNat = 45 from rfl, show (42 : UInt8).toNat = 42 from rfl, show (38 : UInt8).toNat = 38 from rfl, show (124 : UInt8).toNat = 124 from rfl, show (94 : UInt8).toNat = 94 from rfl, show (60 : UInt8).toNat = 60 from rfl]
  omega
theorem two_eq (c : UInt8) : two c = if c.toNat = 60 then some 60 else if c.toNat = 62 then some 62 else if c.toNat = 61 then some 61 else if c.toNat = 33 then some 61 else none := by
  unfold two
  simp only [u8_eq]
  rfl

theorem dw_head {p : UInt8 → Bool} {z : UInt8} {zs : List UInt8} : ∀ {r : List UInt8}, r.dropWhile p = z :: zs → p z = false
  | [], h => by cases h
  | x :: r, h => by
    rw [List.dropWhile_cons] at h
    split at h
    · exact dw_head h
    · rename_i hx
      injection h with h1 h2
      subst h1
      simpa using hx
theorem r_one (hT : Cl Φ S.tab_Lex) {num : List UInt8 → Bool} (hn : NumG num) {s : List UInt8} {at_ : Nat} {y : UInt8} {r : List UInt8} (hd : s.drop at_ = y :: r) (hl : s.length ≤ 1048576)
    (hQ : Q (.int .i64 (match wordM num (y :: r) with | none => 0 | some k => (k : Int))) H) : Φ K.rabbetref08_one [.str s, .int .i64 at_] H Q := by
  obtain ⟨hlt, hy, hd1⟩ := drop_cons_lt hd
  have fin : ∀ z : Int, z = (match wordM num (y :: r) with | none => 0 | some k => (k : Int)) → Q (.int .i64 z) H := fun z h => by rw [h]; exact hQ
  have hlen : (y :: r).length = s.length - at_ := by rw [← hd, List.length_drop]
  have tot : at_ + 1 + r.length = s.length := by simp only [List.length_cons] at hlen; omega
  have hrl : ∀ p : UInt8 → Bool, (r.takeWhile p).length ≤ r.length := fun p => (List.takeWhile_prefix p).length_le
  have w64 : ∀ n : Nat, n ≤ 2000000 → IntKind.wrap .i64 ((at_ : Int) + n) = ((at_ + n : Nat) : Int) := fun n hn => by rw [wrap_i64 (by omega) (by omega)]; omega
  refine S.cl_rabbetref08_one hT ?_
  unfold S.rabbetref08_one
  rw [idx_at hd]
  refine (Do_of _ _).2 ?_
  refine r_class hT ?_
  simp only [abin_eql, Do_of, Gd_true]
  refine ite_both (fun h1 => ?_) (fun h1 => ?_)
  · -- letters
    have hy1 : isLet y = true := by
      by_cases h : isLet y = true
      · exact h
      · exfalso
        have h1' : classM y = 1 := by simpa using h1
        revert h1'
        unfold classM
        rw [if_neg h]
        repeat' split
        all_goals omega
    have hp : isPart y = true := by simp [isPart, hy1]
    have hw : wordM num (y :: r) = if 16 < (r.takeWhile isPart).length + 1 then none else some ((r.takeWhile isPart).length + 1) := by
      rw [wordM_cons, if_pos hy1, List.takeWhile_cons, if_pos hp, List.length_cons]
    have k2 : JoinP (S.rabbetref08_one_k2 Φ Q) [.int .i64 (((r.takeWhile isPart).length + 1 : Nat) : Int)] H := by
      simp only [JoinP_def, S.rabbetref08_one_k2, sl_zero, abin_gtr, Do_of, Gd_true]
      refine ite_both (fun h => fin _ ?_) (fun h => fin _ ?_)
      · rw [hw, if_pos (by simp only [decide_eq_true_eq] at h; omega)]
      · rw [hw, if_neg (by simp only [decide_eq_true_eq] at h; omega)]
    have main : ∀ (ys : List UInt8) (n : Nat), s.drop (at_ + n) = ys → 1 ≤ n → n + ys.length = r.length + 1 → n + (ys.takeWhile isPart).length = (r.takeWhile isPart).length + 1 → LoopP (S.rabbetref08_one_l5 Φ (.str s) (.int .i64 at_) Q) ([.int .i64 n], H) := by
      intro ys
      induction ys with
      | nil =>
        intro n hdn hn hnl he
        have hle := drop_nil_le hdn
        refine LoopP.step ?_
        simp only [S.rabbetref08_one_l5, sl_zero, abin_add, Do_of, alen_str, abin_lss, Gd3_true]
        rw [w64 n (by have := hrl isPart; simp at he; omega), if_neg (by simp only [decide_eq_true_eq]; omega)]
        simp only [JoinP_def, S.rabbetref08_one_k4, sl_zero, Gd3_true, Bool.false_eq_true, if_false, S.rabbetref08_one_k3, Gd_true]
        simp only [List.takeWhile_nil, List.length_nil, Nat.add_zero] at he
        rw [he]; exact k2
      | cons z zs ih =>
        intro n hdn hn hnl he
        obtain ⟨hlt', hz, hd'⟩ := drop_cons_lt hdn
        simp only [List.length_cons] at hnl
        have hx := idx_at hdn
        refine LoopP.step ?_
        simp only [S.rabbetref08_one_l5, sl_zero, abin_add, Do_of, alen_str, abin_lss, Gd3_true]
        rw [w64 n (by omega), if_pos (by simp only [decide_eq_true_eq]; omega), hx]
        refine (Do_of _ _).2 ?_
        refine r_class hT ?_
        simp only [abin_geq, Do_of]
        rw [List.takeWhile_cons] at he
        have next : isPart z = true → LoopP (S.rabbetref08_one_l5 Φ (.str s) (.int .i64 at_) Q) ([.int .i64 ((n + 1 : Nat) : Int)], H) := by
          intro hp
          rw [if_pos hp] at he
          refine ih (n + 1) hd' (by omega) (by omega) ?_
          simp only [List.length_cons] at he
          omega
        have stop : ¬ isPart z = true → JoinP (S.rabbetref08_one_k2 Φ Q) [.int .i64 n] H := by
          intro hp
          rw [if_neg hp] at he
          simp only [List.length_nil, Nat.add_zero] at he
          rw [he]; exact k2
        have k3 : ∀ b : Bool, b = isPart z → JoinP (S.rabbetref08_one_k3 Φ ([.int .i64 n], H) (LoopP (S.rabbetref08_one_l5 Φ (.str s) (.int .i64 at_) Q)) Q) [.bool b] H := by
          intro b hb
          simp only [JoinP_def, S.rabbetref08_one_k3, sl_zero, Gd_true]
          refine ite_both (fun h => ?_) (fun h => ?_)
          · simp only [S.rabbetref08_one_k1, sl_zero, abin_add, Do_of]
            rw [wrap_i64 (by omega) (by omega), show ((n : Int) + 1) = ((n + 1 : Nat) : Int) by simp]
            exact next (by rw [← hb]; exact h)
          · exact stop (by rw [← hb]; exact h)
        have hc := class_part z
        simp only [JoinP_def, S.rabbetref08_one_k4, sl_zero, Gd3_true]
        refine ite_both (fun h => ?_) (fun h => ?_)
        · have h1 : 1 ≤ classM z := by simpa using h
          simp only [abin_add, Do_of]
          rw [w64 n (by omega), hx]
          refine (Do_of _ _).2 ?_
          refine r_class hT ?_
          simp only [abin_leq, Do_of]
          refine k3 _ ?_
          rw [Bool.eq_iff_iff, decide_eq_true_eq, hc]
          exact ⟨fun h => ⟨h1, h⟩, fun h => h.2⟩
        · refine k3 _ ?_
          have h1 : ¬ 1 ≤ classM z := by simpa using h
          symm
          rw [← Bool.not_eq_true, hc]
          exact fun h => h1 h.1
    exact main r 1 hd1 (Nat.le_refl _) (by omega) (by omega)
  have hnl : ¬ isLet y = true := by
    intro h
    refine h1 ?_
    unfold classM
    rw [if_pos h]; rfl
  clear h1
  refine ite_both (fun h1 => ?_) (fun h1 => ?_)
  · -- digits
    have hy2 : isDig y = true := (class_dig y).2 (by simpa using h1)
    have htw : (y :: r).takeWhile isDig = y :: r.takeWhile isDig := by rw [List.takeWhile_cons, if_pos hy2]
    have hdw : (y :: r).dropWhile isDig = r.dropWhile isDig := by rw [List.dropWhile_cons, if_pos hy2]
    have hw : wordM num (y :: r) = if (num (y :: r.takeWhile isDig) = true ∧ ¬ (1 < (r.takeWhile isDig).length + 1 ∧ y = 48)) ∧ restOk (r.dropWhile isDig) = true then some ((r.takeWhile isDig).length + 1) else none := by
      rw [wordM_cons, if_neg hnl, if_pos hy2, htw, hdw, List.length_cons]
    -- behind the digits
    generalize hwd : y :: r.takeWhile isDig = wd at hw
    have hwl : wd.length = (r.takeWhile isDig).length + 1 := by rw [← hwd, List.length_cons]
    have hwh : wd.head? = some y := by rw [← hwd]; rfl
    have hwn : wd ≠ [] := by rw [← hwd]; simp
    have hwa : ∀ c ∈ wd, isDig c = true := by
      intro c hc
      rw [← hwd] at hc
      rcases List.mem_cons.1 hc with rfl | hc
      · exact hy2
      · exact mem_tw hc
    have hcut := congrArg (List.drop (r.takeWhile isDig).length) (List.takeWhile_append_dropWhile (p := isDig) (l := r))
    rw [List.drop_left] at hcut
    have htake := congrArg (List.take (r.takeWhile isDig).length) (List.takeWhile_append_dropWhile (p := isDig) (l := r))
    rw [List.take_left] at htake
    have hnr : (r.takeWhile isDig).length + 1 ≤ r.length + 1 := by have := hrl isDig; omega
    have htext : (s.take (at_ + ((r.takeWhile isDig).length + 1))).drop at_ = wd := by
      rw [List.drop_take, hd, show at_ + ((r.takeWhile isDig).length + 1) - at_ = (r.takeWhile isDig).length + 1 by omega, List.take_succ_cons, ← htake, hwd]
    have hrest : s.drop (at_ + ((r.takeWhile isDig).length + 1)) = r.dropWhile isDig := by
      rw [hcut, show at_ + ((r.takeWhile isDig).length + 1) = at_ + 1 + (r.takeWhile isDig).length by omega, ← List.drop_drop, hd1]
    have k10 : JoinP (S.rabbetref08_one_k10 Φ (.str s) (.int .i64 at_) (.int .u8 y.toNat) Q) [.int .i64 (((r.takeWhile isDig).length + 1 : Nat) : Int)] H := by
      have hdrop : ∀ z zs, r.dropWhile isDig = z :: zs → isDig z = false := fun z zs h => dw_head h
      generalize (r.takeWhile isDig).length + 1 = n at hw hnr htext hrest hwl
      generalize r.dropWhile isDig = rest at hw hrest hdrop
      have hP : (num wd = true ∧ ¬ (1 < n ∧ y = 48)) ↔ ¬ ((1 < n ∧ y = 48) ∨ greatM wd = true) := by
        by_cases h0 : 1 < n ∧ y = 48
        · exact ⟨fun h => absurd h0 h.2, fun h => absurd (.inl h0) h⟩
        · have := hn wd hwn hwa (by rw [hwl, hwh]; simpa using h0)
          rw [this]
          simp [h0]
      have k7 : ∀ b : Bool, (b = true ↔ ¬ ((num wd = true ∧ ¬ (1 < n ∧ y = 48)) ∧ restOk rest = true)) → JoinP (S.rabbetref08_one_k7 Φ [.int .i64 (n : Int)] Q) [.bool b] H := by
        intro b hb
        simp only [JoinP_def, S.rabbetref08_one_k7, sl_zero, Gd_true]
        refine ite_both (fun h => fin _ ?_) (fun h => fin _ ?_)
        · rw [hw, if_neg (hb.1 h)]
        · rw [hw, if_pos (Decidable.not_not.1 fun e => h (hb.2 e))]
      have k8 : ∀ b : Bool, (b = true ↔ (1 < n ∧ y = 48) ∨ greatM wd = true) → JoinP (S.rabbetref08_one_k8 Φ (.str s) (.int .i64 at_) [.int .i64 (n : Int)] Q) [.bool b] H := by
        intro b hb
        simp only [JoinP_def, S.rabbetref08_one_k8, sl_zero, Gd3_false]
        refine ite_both (fun h => ?_) (fun h => ?_)
        · have hbf : ¬ ((1 < n ∧ y = 48) ∨ greatM wd = true) := fun e => by rw [hb.2 e] at h; cases h
          have hPt := hP.2 hbf
          simp only [abin_add, Do_of, alen_str, abin_lss, Gd3_true]
          rw [w64 n (by omega)]
          cases rest with
          | nil =>
            have := drop_nil_le hrest
            rw [if_neg (by simp only [decide_eq_true_eq]; omega)]
            exact k7 false ⟨fun e => (by cases e), fun e => absurd ⟨hPt, rfl⟩ e⟩
          | cons z zs =>
            obtain ⟨hlt', _, _⟩ := drop_cons_lt hrest
            have hx := idx_at hrest
            have hnd : ¬ classM z = 2 := fun e => by have h1 := hdrop z zs rfl; rw [(class_dig z).2 e] at h1; cases h1
            have hpz := class_part z
            have hro : restOk (z :: zs) = !isPart z := rfl
            rw [if_pos (by simp only [decide_eq_true_eq]; omega), hx]
            refine (Do_of _ _).2 ?_
            refine r_class hT ?_
            simp only [abin_eql, Do_of, Gd3_false]
            refine ite_both (fun h1 => ?_) (fun h1 => ?_)
            · have c1 : ¬ classM z = 1 := by simpa using h1
              refine r_class hT ?_
              simp only [abin_eql, Do_of]
              refine k7 _ ⟨fun e => ?_, fun e => ?_⟩
              · have c3 : classM z = 3 := by simpa using e
                rintro ⟨_, h2⟩
                rw [hro, hpz.2 (by omega)] at h2; cases h2
              · have : isPart z = true := by
                  cases hq : isPart z with
                  | true => rfl
                  | false => exact absurd ⟨hPt, by rw [hro, hq]; rfl⟩ e
                have := hpz.1 this
                have c3 : classM z = 3 := by omega
                rw [c3]; rfl
            · have c1 : classM z = 1 := by simpa using h1
              refine k7 true ⟨fun _ => ?_, fun _ => rfl⟩
              rintro ⟨_, h2⟩
              rw [hro, hpz.2 (by omega)] at h2; cases h2
        · have hbt : (1 < n ∧ y = 48) ∨ greatM wd = true := hb.1 (by simpa using h)
          refine k7 true ⟨fun _ => ?_, fun _ => rfl⟩
          rintro ⟨h2, _⟩
          exact hP.1 h2 hbt
      have k9 : ∀ b : Bool, (b = true ↔ (1 < n ∧ y = 48)) → JoinP (S.rabbetref08_one_k9 Φ (.str s) (.int .i64 at_) [.int .i64 (n : Int)] Q) [.bool b] H := by
        intro b hb
        simp only [JoinP_def, S.rabbetref08_one_k9, sl_zero, Gd3_false]
        refine ite_both (fun h => ?_) (fun h => ?_)
        · have hbf : ¬ (1 < n ∧ y = 48) := fun e => by rw [hb.2 e] at h; cases h
          simp only [abin_add, Do_of]
          rw [w64 n (by omega), sslice_str (by omega) (by omega)]
          refine (Do_of _ _).2 ?_
          rw [htext]
          refine r_great hT ?_
          exact k8 _ ⟨fun e => .inr e, fun e => e.resolve_left hbf⟩
        · exact k8 true ⟨fun _ => .inl (hb.1 (by simpa using h)), fun _ => rfl⟩
      simp only [JoinP_def, S.rabbetref08_one_k10, sl_zero, abin_gtr, abin_eql, Do_of, Gd3_true]
      refine ite_both (fun h => ?_) (fun h => ?_)
      · have h1 : 1 < n := by simp only [decide_eq_true_eq] at h; omega
        refine k9 _ ⟨fun e => ⟨h1, ?_⟩, fun e => ?_⟩
        · have : (y.toNat : Int) = 48 := by simpa using e
          exact UInt8.toNat_inj.1 (by show y.toNat = 48; omega)
        · rw [e.2]; rfl
      · have h1 : ¬ 1 < n := by simp only [decide_eq_true_eq] at h; omega
        exact k9 false ⟨fun e => (by cases e), fun e => absurd e.1 h1⟩
    have main : ∀ (ys : List UInt8) (n : Nat), s.drop (at_ + n) = ys → 1 ≤ n → n + ys.length = r.length + 1 → n + (ys.takeWhile isDig).length = (r.takeWhile isDig).length + 1 → LoopP (S.rabbetref08_one_l12 Φ (.str s) (.int .i64 at_) (.int .u8 y.toNat) Q) ([.int .i64 n], H) := by
      intro ys
      induction ys with
      | nil =>
        intro n hdn hn hnl he
        have hle := drop_nil_le hdn
        refine LoopP.step ?_
        simp only [S.rabbetref08_one_l12, sl_zero, abin_add, Do_of, alen_str, abin_lss, Gd3_true]
        rw [w64 n (by have := hrl isDig; simp at he; omega), if_neg (by simp only [decide_eq_true_eq]; omega)]
        simp only [JoinP_def, S.rabbetref08_one_k11, sl_zero, Gd_true, Bool.false_eq_true, if_false]
        simp only [List.takeWhile_nil, List.length_nil, Nat.add_zero] at he
        rw [he]; exact k10
      | cons z zs ih =>
        intro n hdn hn hnl he
        obtain ⟨hlt', hz, hd'⟩ := drop_cons_lt hdn
        simp only [List.length_cons] at hnl
        have hx := idx_at hdn
        refine LoopP.step ?_
        simp only [S.rabbetref08_one_l12, sl_zero, abin_add, Do_of, alen_str, abin_lss, Gd3_true]
        rw [w64 n (by omega), if_pos (by simp only [decide_eq_true_eq]; omega), hx]
        refine (Do_of _ _).2 ?_
        refine r_class hT ?_
        simp only [abin_eql, Do_of]
        rw [List.takeWhile_cons] at he
        simp only [JoinP_def, S.rabbetref08_one_k11, sl_zero, Gd_true]
        refine ite_both (fun h => ?_) (fun h => ?_)
        · have hp : isDig z = true := (class_dig z).2 (by simpa using h)
          rw [if_pos hp] at he
          simp only [S.rabbetref08_one_k6, sl_zero, abin_add, Do_of]
          rw [wrap_i64 (by omega) (by omega), show ((n : Int) + 1) = ((n + 1 : Nat) : Int) by simp]
          refine ih (n + 1) hd' (by omega) (by omega) ?_
          simp only [List.length_cons] at he
          omega
        · have hp : ¬ isDig z = true := fun e => h (by rw [(class_dig z).1 e]; rfl)
          rw [if_neg hp] at he
          simp only [List.length_nil, Nat.add_zero] at he
          rw [he]; exact k10
    exact main r 1 hd1 (Nat.le_refl _) (by omega) (by omega)
  have hnd : ¬ isDig y = true := by
    intro h
    exact h1 (by rw [(class_dig y).1 h]; rfl)
  clear h1
  have hw : wordM num (y :: r) = if two y ≠ none ∧ r.head? = two y then some 2 else if sgn1.contains y = true then some 1 else none := by
    rw [wordM_cons, if_neg hnl, if_neg hnd]
  have hcl : classM y = if y.toNat = 95 then 3 else if y.toNat = 61 ∨ y.toNat = 33 then 5 else if y.toNat = 60 ∨ y.toNat = 62 then 6 else if sgn0.contains y = true then 4 else 0 := by
    unfold classM; rw [if_neg hnl, if_neg hnd]
  have hsg := sgn_eq y
  have htw := two_eq y
  have one64 : IntKind.wrap .i64 ((at_ : Int) + 1) = ((at_ + 1 : Nat) : Int) := by rw [wrap_i64 (by omega) (by omega)]; omega
  have no0 : sgn0.contains y = true → y.toNat ≠ 33 ∧ y.toNat ≠ 62 := by
    intro h
    simp only [sgn0, List.contains_iff_mem, List.mem_cons, List.not_mem_nil, or_false] at h
    rcases h with h | h | h | h | h | h | h | h | h | h | h | h | h | h | h | h <;> (subst h; decide)
  refine ite_both (fun h5 => ?_) (fun h5 => ?_)
  · have c5 : classM y = 5 := by simpa using h5
    have hy5 : y.toNat = 61 ∨ y.toNat = 33 := by
      rw [hcl] at c5
      revert c5
      repeat' split
      all_goals first | (intro; assumption) | omega
    have ht : two y = some 61 := by rw [htw]; rcases hy5 with h | h <;> rw [h] <;> rfl
    have k13 : ¬ r.head? = some 61 → JoinP (S.rabbetref08_one_k13 Φ (.int .u8 y.toNat) Q) [] H := by
      intro hne
      simp only [JoinP_def, S.rabbetref08_one_k13, abin_eql, Do_of, Gd_true]
      refine ite_both (fun h => fin _ ?_) (fun h => fin _ ?_)
      · have h33 : y.toNat = 33 := by simp at h; omega
        have : ¬ sgn1.contains y = true := by
          rw [hsg]
          intro e
          simp only [Bool.or_eq_true, decide_eq_true_eq] at e
          rcases e with ((e | e) | e) | e
          · exact (no0 e).1 h33
          all_goals omega
        rw [hw, ht, if_neg (fun e => hne e.2), if_neg this]
      · have h61 : y.toNat = 61 := hy5.resolve_right fun e => h (by rw [e]; rfl)
        have : sgn1.contains y = true := by rw [hsg, decide_eq_true h61]; simp
        rw [hw, ht, if_neg (fun e => hne e.2), if_pos this]; rfl
    have k14 : ∀ b : Bool, (b = true ↔ r.head? = some 61) → JoinP (S.rabbetref08_one_k14 Φ (.int .u8 y.toNat) Q) [.bool b] H := by
      intro b hb
      simp only [JoinP_def, S.rabbetref08_one_k14, sl_zero, Gd_true]
      refine ite_both (fun h => fin _ ?_) (fun h => ?_)
      · rw [hw, ht, if_pos ⟨by simp, hb.1 h⟩]; rfl
      · exact k13 fun e => h (hb.2 e)
    simp only [abin_add, Do_of, alen_str, abin_lss, Gd3_true]
    rw [one64]
    cases r with
    | nil =>
      have := drop_nil_le hd1
      rw [if_neg (by simp only [decide_eq_true_eq]; omega)]
      exact k14 false ⟨fun e => (by cases e), fun e => by cases e⟩
    | cons z zs =>
      obtain ⟨hlt', _, _⟩ := drop_cons_lt hd1
      rw [if_pos (by simp only [decide_eq_true_eq]; omega), idx_at hd1]
      simp only [abin_eql, Do_of]
      refine k14 _ ⟨fun e => ?_, fun e => ?_⟩
      · have : (z.toNat : Int) = 61 := by simpa using e
        have : z = 61 := UInt8.toNat_inj.1 (by show z.toNat = 61; omega)
        rw [this]; rfl
      · have : z = 61 := by simpa using e
        rw [this]; rfl
  refine ite_both (fun h6 => ?_) (fun h6 => ?_)
  · have c6 : classM y = 6 := by simpa using h6
    have hy6 : y.toNat = 60 ∨ y.toNat = 62 := by
      rw [hcl] at c6
      revert c6
      repeat' split
      all_goals first | (intro; assumption) | omega
    have ht : two y = some y := by
      rw [htw]
      rcases hy6 with h | h
      · rw [if_pos h]; exact congrArg some (UInt8.toNat_inj.1 (by rw [h]; rfl))
      · rw [if_neg (by omega), if_pos h]; exact congrArg some (UInt8.toNat_inj.1 (by rw [h]; rfl))
    have k15 : ¬ r.head? = some y → JoinP (S.rabbetref08_one_k15 Φ (.int .u8 y.toNat) Q) [] H := by
      intro hne
      simp only [JoinP_def, S.rabbetref08_one_k15, abin_eql, Do_of, Gd_true]
      refine ite_both (fun h => fin _ ?_) (fun h => fin _ ?_)
      · have h62 : y.toNat = 62 := by simp at h; omega
        have : ¬ sgn1.contains y = true := by
          rw [hsg]
          intro e
          simp only [Bool.or_eq_true, decide_eq_true_eq] at e
          rcases e with ((e | e) | e) | e
          · exact (no0 e).2 h62
          all_goals omega
        rw [hw, ht, if_neg (fun e => hne e.2), if_neg this]
      · have h60 : y.toNat = 60 := hy6.resolve_right fun e => h (by rw [e]; rfl)
        have : sgn1.contains y = true := by rw [hsg, decide_eq_true h60]; simp
        rw [hw, ht, if_neg (fun e => hne e.2), if_pos this]; rfl
    have k16 : ∀ b : Bool, (b = true ↔ r.head? = some y) → JoinP (S.rabbetref08_one_k16 Φ (.int .u8 y.toNat) Q) [.bool b] H := by
      intro b hb
      simp only [JoinP_def, S.rabbetref08_one_k16, sl_zero, Gd_true]
      refine ite_both (fun h => fin _ ?_) (fun h => ?_)
      · rw [hw, ht, if_pos ⟨by simp, hb.1 h⟩]; rfl
      · exact k15 fun e => h (hb.2 e)
    simp only [abin_add, Do_of, alen_str, abin_lss, Gd3_true]
    rw [one64]
    cases r with
    | nil =>
      have := drop_nil_le hd1
      rw [if_neg (by simp only [decide_eq_true_eq]; omega)]
      exact k16 false ⟨fun e => (by cases e), fun e => by cases e⟩
    | cons z zs =>
      obtain ⟨hlt', _, _⟩ := drop_cons_lt hd1
      rw [if_pos (by simp only [decide_eq_true_eq]; omega), idx_at hd1]
      simp only [abin_eql, Do_of]
      refine k16 _ ⟨fun e => ?_, fun e => ?_⟩
      · have : (z.toNat : Int) = y.toNat := by simpa using e
        have : z = y := UInt8.toNat_inj.1 (by omega)
        rw [this]; rfl
      · have : z = y := by simpa using e
        rw [this]; simp
  have n5 : ¬ (y.toNat = 61 ∨ y.toNat = 33) := by
    intro e
    refine h5 ?_
    rw [hcl, if_neg (by omega), if_pos e]; rfl
  have n6 : ¬ (y.toNat = 60 ∨ y.toNat = 62) := by
    intro e
    refine h6 ?_
    rw [hcl, if_neg (by omega), if_neg n5, if_pos e]; rfl
  have ht : two y = none := by
    rw [htw, if_neg (by omega), if_neg (by omega), if_neg (by omega), if_neg (by omega)]
  rw [ht] at hw
  simp only [ne_eq, not_true_eq_false, false_and, if_false] at hw
  rw [if_neg n5, if_neg n6] at hcl
  refine ite_both (fun h => fin _ ?_) (fun h => fin _ ?_)
  · have c0 : classM y = 0 := by simpa using h
    have : ¬ sgn1.contains y = true := by
      rw [hsg]
      intro e
      simp only [Bool.or_eq_true, decide_eq_true_eq] at e
      rcases e with ((e | e) | e) | e
      · rw [hcl] at c0
        revert c0
        split
        · omega
        · first | omega | (rw [if_pos e]; omega)
      · rw [hcl, if_pos e] at c0; omega
      all_goals omega
    rw [hw, if_neg this]
  · have c0 : ¬ classM y = 0 := fun e => h (by rw [e]; rfl)
    have : sgn1.contains y = true := by
      rw [hsg]
      by_cases h95 : y.toNat = 95
      · rw [decide_eq_true h95]; simp
      · by_cases hs : sgn0.contains y = true
        · rw [hs]; rfl
        · exfalso
          rw [hcl, if_neg h95, if_neg hs] at c0
          exact c0 rfl
    rw [hw, if_pos this]; rfl
end
end Rb

/- The document's words are the lexer's. -/
set_option linter.unusedVariables false
set_option linter.unusedSimpArgs false
set_option linter.unusedSectionVars false
namespace Rb
open Go
section
variable {Φ : Calls'}
theorem r_Words (hT : Cl Φ S.tab_Lex) {num : List UInt8 → Bool} (hn : NumG num) (s : List UInt8) {H : AH} {Q : Post} (hQ : ∀ v H', v.weak = lexV (lexM num s) → Q v H') : Φ K.rabbetref08_Words [.str s] H Q := by
  refine S.cl_rabbetref08_Words hT ?_
  unfold S.rabbetref08_Words
  simp only [abox, if_true, DoH_some, alen_str, Do_of, abin_gtr, Gd_true]
  have at1 := At.new H (.row [.int .i64 0, .int .i64 0])
  generalize H.push (.row [.int .i64 0, .int .i64 0]) = H2 at *
  generalize H.n = id1 at *
  have out : ∀ (x : AV) (p q : Int) (H1 : AH), At H1 id1 (.row [.int .i64 0, .int .i64 0]) → (AV.tup [x, .agg [.int .i64 p, .int .i64 q]]).weak = lexV (lexM num s) → Do (astore H1 2 (.ptr id1 0) (.agg [.int .i64 p, .int .i64 q])) fun H33 => Do (aload H33 2 true (.ptr id1 0)) fun x34 => Q (.tup [x, x34]) H33 := by
    intro x p q H1 ha he
    rw [ha.store, if_pos ⟨rfl, rfl, rfl, by simp [AV.cells]⟩]
    simp only [Do_of]
    rw [(ha.set _).load]
    rw [show takeCells (setCells [AV.int .i64 0, .int .i64 0] 0 (AV.agg [.int .i64 p, .int .i64 q]).cells) 0 2 true = some (.agg [.int .i64 p, .int .i64 q]) from rfl]
    simp only [Do_of]
    exact hQ _ _ he
  refine ite_both (fun hg => ?_) (fun hg => ?_)
  · have hg' : 1048576 < s.length := by simp only [decide_eq_true_eq] at hg; omega
    rw [show abuild [.int .i64 0, .int .i64 0] [(1, 1, .int .i64 12)] = some (.agg [.int .i64 0, .int .i64 12]) from rfl]
    simp only [Do_of]
    refine out _ 0 12 H2 at1 ?_
    unfold lexM
    rw [if_pos hg']; rfl
  · have hl : s.length ≤ 1048576 := by simp only [decide_eq_true_eq] at hg; omega
    have hM : lexM num s = match toks num s.length s 1 with | .ok ws => .ok ws | .error l => .error (l, 3) := lexM_small hl
    have main : ∀ (n a : Nat) (line : Int) (ws : List (List UInt8 × Int)) (x : AV) (H1 : AH), s.length - a ≤ n → a ≤ s.length → ws.length ≤ a → 1 ≤ line → line ≤ a + 1 → Lst H2 H1 2 x ws.length (ws.flatMap tokC) → At H1 id1 (.row [.int .i64 0, .int .i64 0]) →
        (match toks num n (s.drop a) line with | .error l => toks num s.length s 1 = .error l | .ok r => toks num s.length s 1 = .ok (ws ++ r)) →
        LoopP (S.rabbetref08_Words_l5 Φ (.str s) (.ptr id1 0) Q) ([x, .int .i64 line, .int .i64 a], H1) := by
      intro n
      induction n with
      | zero =>
        intro a line ws x H1 hn' ha hw hl1 hl2 hls hat hfin
        have hd : s.drop a = [] := List.drop_eq_nil_of_le (by omega)
        rw [hd, toks_nil] at hfin
        simp only [List.append_nil] at hfin
        refine LoopP.step ?_
        simp only [S.rabbetref08_Words_l5, sl_zero, sl_succ, alen_str, Do_of, abin_lss, Gd_true]
        rw [if_neg (by simp only [decide_eq_true_eq]; omega)]
        simp only [JoinP_def, S.rabbetref08_Words_k4, sl_zero]
        rw [show abuild [.int .i64 0, .int .i64 0] [] = some (.agg [.int .i64 0, .int .i64 0]) from rfl]
        simp only [Do_of]
        refine out x 0 0 H1 hat ?_
        rw [hM, hfin]
        obtain ⟨_, tk, rfl, _⟩ := hls
        simp only [AV.weak, AV.weaks, tokC_weak, lexV, lstA]
      | succ n ih =>
        intro a line ws x H1 hn' ha hw hl1 hl2 hls hat hfin
        by_cases hend : a = s.length
        · have hd : s.drop a = [] := List.drop_eq_nil_of_le (by omega)
          rw [hd, toks_nil] at hfin
          refine ih a line ws x H1 (by omega) ha hw hl1 hl2 hls hat ?_
          rw [hd, toks_nil]; exact hfin
        · have hlt : a < s.length := by omega
          obtain ⟨y, r, hd⟩ : ∃ y r, s.drop a = y :: r := by
            cases hc : s.drop a with
            | nil => rw [List.drop_eq_nil_iff] at hc; omega
            | cons y r => exact ⟨y, r, rfl⟩
          have hd' := (drop_cons_lt hd).2.2
          have hrl : r.length = s.length - (a + 1) := by rw [← hd', List.length_drop]
          have hx := idx_at hd
          rw [hd, toks] at hfin
          refine LoopP.step ?_
          simp only [S.rabbetref08_Words_l5, sl_zero, sl_succ, alen_str, Do_of, abin_lss, Gd_true]
          rw [if_pos (by simp only [decide_eq_true_eq]; omega), hx]
          simp only [Do_of, abin_eql]
          have h10 : (((y.toNat : Int) == 10) = true) ↔ y = 10 := by
            constructor
            · intro e
              have e' : (y.toNat : Int) = 10 := by simpa using e
              exact UInt8.toNat_inj.1 (by show y.toNat = 10; omega)
            · intro e; rw [e]; rfl
          have h32 : (((y.toNat : Int) == 32) = true) ↔ y = 32 := by
            constructor
            · intro e
              have e' : (y.toNat : Int) = 32 := by simpa using e
              exact UInt8.toNat_inj.1 (by show y.toNat = 32; omega)
            · intro e; rw [e]; rfl
          have e1 : IntKind.wrap .i64 ((a : Int) + 1) = ((a + 1 : Nat) : Int) := by rw [wrap_i64 (by omega) (by omega)]; omega
          -- behind the line
          have k2 : ∀ (l : Int) (b : Bool), l = (if y = 10 then line + 1 else line) → (b = true ↔ (y = 10 ∨ y = 32)) → JoinP (S.rabbetref08_Words_k2 Φ (.str s) (.ptr id1 0) ([x, .int .i64 line, .int .i64 a], H1) (LoopP (S.rabbetref08_Words_l5 Φ (.str s) (.ptr id1 0) Q)) [.int .i64 l] Q) [.bool b] H1 := by
            intro l b hl' hb
            simp only [JoinP_def, S.rabbetref08_Words_k2, sl_zero, sl_succ, Gd_true]
            refine ite_both (fun h => ?_) (fun h => ?_)
            · simp only [abin_add, Do_of, e1]
              by_cases c10 : y = 10
              · rw [if_pos c10] at hfin hl'
                subst hl'
                refine ih (a + 1) (line + 1) ws x H1 (by omega) (by omega) (by omega) (by omega) (by omega) hls hat ?_
                rw [hd']; exact hfin
              · have c32 : y = 32 := (hb.1 h).resolve_left c10
                rw [if_neg c10, if_pos c32] at hfin
                rw [if_neg c10] at hl'
                rw [hl']
                refine ih (a + 1) line ws x H1 (by omega) (by omega) (by omega) (by omega) (by omega) hls hat ?_
                rw [hd']; exact hfin
            · have c : ¬ (y = 10 ∨ y = 32) := fun e => h (hb.2 e)
              have c10 : ¬ y = 10 := fun e => c (.inl e)
              have c32 : ¬ y = 32 := fun e => c (.inr e)
              rw [if_neg c10, if_neg c32] at hfin
              rw [if_neg c10] at hl'
              rw [hl']
              simp only [S.rabbetref08_Words_k1, sl_zero]
              refine r_one hT hn hd hl ?_
              cases hw2 : wordM num (y :: r) with
              | none =>
                rw [hw2] at hfin
                simp only at hfin
                simp only [abin_eql, Do_of, Gd_true]
                rw [if_pos (by decide)]
                rw [show abuild [.int .i64 0, .int .i64 0] [(0, 1, .int .i64 line), (1, 1, .int .i64 3)] = some (.agg [.int .i64 line, .int .i64 3]) from rfl]
                simp only [Do_of]
                refine out _ line 3 H1 hat ?_
                rw [hM, hfin]; rfl
              | some k =>
                rw [hw2] at hfin
                obtain ⟨k1, k2⟩ := wordM_pos hw2
                simp only [List.length_cons] at k2
                simp only [abin_eql, Do_of, Gd_true]
                have hk0 : ¬ (((k : Nat) : Int) == 0) = true := by
                  intro e
                  have : (k : Int) = 0 := by simpa using e
                  omega
                rw [if_neg hk0]
                have ek : IntKind.wrap .i64 ((a : Int) + k) = ((a + k : Nat) : Int) := by rw [wrap_i64 (by omega) (by omega)]; omega
                simp only [abin_add, Do_of, ek]
                rw [sslice_str (by omega) (by omega)]
                have htx : (s.take (a + k)).drop a = (y :: r).take k := by
                  rw [List.drop_take, hd, show a + k - a = k by omega]
                rw [htx]
                simp only [Do_of]
                rw [show abuild [.str [], .int .i64 0] [(0, 1, .str ((y :: r).take k)), (1, 1, .int .i64 line)] = some (.agg (tokC ((y :: r).take k, line))) from rfl]
                simp only [Do_of]
                rw [show abslice H1 false 2 1 [.str [], .int .i64 0] [(0, 2, .agg (tokC ((y :: r).take k, line)))] = some (.lst .full 1 (tokC ((y :: r).take k, line)), H1) from rfl]
                simp only [DoH_some]
                refine hls.app2 (m := 1) (news := tokC ((y :: r).take k, line)) rfl rfl rfl (by decide) (by omega) (by omega) fun x' H3 ls3 fr => ?_
                refine ih (a + k) line (ws ++ [((y :: r).take k, line)]) x' H3 (by omega) (by omega) (by rw [List.length_append, List.length_singleton]; omega) hl1 (by omega) ?_ (fr _ _ hat (fun _ _ e => by cases e)) ?_
                · rw [List.length_append, List.length_singleton, List.flatMap_append, List.flatMap_cons, List.flatMap_nil, List.append_nil]
                  exact ls3
                · have hdk : s.drop (a + k) = (y :: r).drop k := by rw [← hd, List.drop_drop]
                  rw [hdk]
                  simp only at hfin
                  cases ht : toks num n ((y :: r).drop k) line with
                  | error l => rw [ht] at hfin; exact hfin
                  | ok r2 => rw [ht] at hfin; simp only at hfin ⊢; rw [hfin]; simp
          have k3 : ∀ l : Int, l = (if y = 10 then line + 1 else line) → JoinP (S.rabbetref08_Words_k3 Φ (.str s) (.ptr id1 0) ([x, .int .i64 line, .int .i64 a], H1) (LoopP (S.rabbetref08_Words_l5 Φ (.str s) (.ptr id1 0) Q)) Q) [.int .i64 l] H1 := by
            intro l hl'
            simp only [JoinP_def, S.rabbetref08_Words_k3, sl_zero, sl_succ, hx, Do_of, abin_eql, Gd3_false]
            refine ite_both (fun h => ?_) (fun h => ?_)
            · have c10 : ¬ y = 10 := fun e => by rw [h10.2 e] at h; cases h
              exact k2 l _ hl' ⟨fun e => .inr (h32.1 e), fun e => h32.2 (e.resolve_left c10)⟩
            · have c10 : y = 10 := h10.1 (by simpa using h)
              exact k2 l true hl' ⟨fun _ => .inl c10, fun _ => rfl⟩
          refine ite_both (fun h => ?_) (fun h => ?_)
          · simp only [abin_add, Do_of]
            rw [wrap_i64 (by omega) (by omega)]
            exact k3 _ (by rw [if_pos (h10.1 h)])
          · exact k3 _ (by rw [if_neg (fun e => h (h10.2 e))])
    refine main s.length 0 1 [] (.lst .nil 0 []) H2 (by omega) (by omega) (by simp) (by omega) (by omega) (Lst.nil H2 2) at1 ?_
    rw [List.drop_zero]
    cases toks num s.length s 1 with
    | error l => rfl
    | ok r => rfl
end
end Rb

/- Package parse: the same words on other lines come to the same, but for lines. -/
set_option linter.unusedVariables false
set_option linter.unusedSimpArgs false
set_option linter.unusedSectionVars false
namespace Rb
open Go

/-- The same words on other lines. -/
structure LR (g : Int → Int) (s t : PSt) : Prop where
  toks : t.toks = s.toks.map fun w => (w.1, g w.2)
  ne : s.toks ≠ []
  fk : t.fk = s.fk
  fl : s.fk ≠ 0 → t.fl = g s.fl
section
variable {g : Int → Int} {s t : PSt}
theorem LR.len (l : LR g s t) : t.toks.length = s.toks.length := by rw [l.toks, List.length_map]
theorem LR.hd (l : LR g s t) : t.hd = (s.hd.1, g s.hd.2) := by
  unfold PSt.hd
  rw [l.toks]
  have := l.ne
  cases hc : s.toks with
  | nil => exact absurd hc this
  | cons a r => rfl
theorem LR.hd1 (l : LR g s t) : t.hd.1 = s.hd.1 := by rw [l.hd]
theorem LR.hd2 (l : LR g s t) : t.hd.2 = g s.hd.2 := by rw [l.hd]
theorem LR.fail (l : LR g s t) (e : Int) : LR g (s.fail e) (t.fail e) := by
  unfold PSt.fail
  rw [l.fk]
  split
  · exact ⟨l.toks, l.ne, rfl, fun _ => l.hd2⟩
  · exact l
theorem LR.adv (l : LR g s t) : LR g s.adv t.adv := by
  have hl := l.len
  have hn := PSt.adv_ne l.ne
  unfold PSt.adv at hn ⊢
  rw [hl]
  split at hn
  · rename_i h
    rw [if_pos h, if_pos h]
    exact ⟨by show t.toks.drop 1 = (s.toks.drop 1).map _; rw [l.toks, List.map_drop], hn, l.fk, l.fl⟩
  · rename_i h
    rw [if_neg h, if_neg h]; exact l
theorem LR.isW (l : LR g s t) (w : List UInt8) : t.isW w = s.isW w := by unfold PSt.isW; rw [l.fk, l.hd1]
theorem LR.isA (l : LR g s t) (w : List UInt8) : LR g (s.isA w) (t.isA w) := by
  unfold PSt.isA; rw [l.isW]; split
  · exact l.adv
  · exact l
theorem LR.want (l : LR g s t) (w : List UInt8) : LR g (s.want w) (t.want w) := by
  unfold PSt.want; rw [l.fk, l.hd1]; split
  · exact l
  · split
    · exact l.adv
    · exact l.fail 4
theorem LR.deep (l : LR g s t) (d : Int) : LR g (s.deep d) (t.deep d) := by
  unfold PSt.deep; split
  · exact l.fail 5
  · exact l
/-- A reader that lines mean nothing to. -/
def LE {α : Type} (g : Int → Int) (F : PSt → α × PSt) : Prop := ∀ s t, LR g s t → (F t).1 = (F s).1 ∧ LR g (F s).2 (F t).2
theorem LR.order (l : LR g s t) : (orderM t).1 = (orderM s).1 ∧ LR g (orderM s).2 (orderM t).2 := by
  unfold orderM
  simp only [l.isW]
  repeat' split
  all_goals first | exact ⟨rfl, l.adv⟩ | exact ⟨rfl, l.fail 4⟩
section
variable (kw : List UInt8 → Bool) (val : List UInt8 → Int)
theorem LR.nameW (l : LR g s t) : t.nameW kw = s.nameW kw := by unfold PSt.nameW; rw [l.fk, l.hd1]
theorem LR.nameT (l : LR g s t) : t.nameT kw = s.nameT kw := by unfold PSt.nameT; rw [l.nameW, l.hd1]
theorem LR.nameS (l : LR g s t) : LR g (s.nameS kw) (t.nameS kw) := by
  unfold PSt.nameS; rw [l.nameW]; split
  · exact l.adv
  · exact l.fail 4
theorem LR.num (l : LR g s t) (most : Int) : (t.num val most).1 = (s.num val most).1 ∧ LR g (s.num val most).2 (t.num val most).2 := by
  unfold PSt.num
  rw [l.fk, l.hd1]
  split
  · exact ⟨rfl, l.fail 4⟩
  · split
    · exact ⟨rfl, l.fail 9⟩
    · exact ⟨rfl, l.adv⟩
theorem LR.field {ty : Int → PSt → GType × PSt} (h : ∀ d, LE g (ty d)) (d : Int) (l : LR g s t) : (fieldM kw val ty d t).1 = (fieldM kw val ty d s).1 ∧ LR g (fieldM kw val ty d s).2 (fieldM kw val ty d t).2 := by
  unfold fieldM
  dsimp only
  simp only [l.isW, (l.isA [95]).nameT kw]
  generalize (if s.isW [95] = true then ([] : List UInt8) else (s.isA [95]).nameT kw) = nm
  have h1 : LR g (if s.isW [95] = true then s.isA [95] else (s.isA [95]).nameS kw) (if s.isW [95] = true then t.isA [95] else (t.isA [95]).nameS kw) := by
    split
    · exact l.isA _
    · exact (l.isA _).nameS kw
  revert h1
  generalize (if s.isW [95] = true then s.isA [95] else (s.isA [95]).nameS kw) = s1
  generalize (if s.isW [95] = true then t.isA [95] else (t.isA [95]).nameS kw) = t1
  intro h1
  obtain ⟨e1, l1⟩ := h (x64 (d + 1)) s1 t1 h1
  rw [e1, l1.hd1]
  split
  · obtain ⟨e2, l2⟩ := (l1.want [58]).num val 1073741824
    exact ⟨by rw [e2], l2.want [59]⟩
  · exact ⟨rfl, l1.want [59]⟩
theorem LR.typs : ∀ n : Nat, (∀ d, LE g (typM kw val n d)) ∧ ∀ d, LE g (fldsM kw val n d) := by
  intro n
  induction n with
  | zero => exact ⟨fun d s t l => by unfold typM; exact ⟨rfl, l⟩, fun d s t l => by unfold fldsM; exact ⟨rfl, l⟩⟩
  | succ n ih =>
    refine ⟨fun d s t l => ?_, fun d s t l => ?_⟩
    · unfold typM
      dsimp only
      have l1 := l.deep d
      generalize s.deep d = s1 at l1 ⊢
      generalize t.deep d = t1 at l1 ⊢
      rw [l1.fk, l1.hd1]
      by_cases hb : s1.fk ≠ 0
      · rw [if_pos hb, if_pos hb]; exact ⟨rfl, l1⟩
      rw [if_neg hb, if_neg hb]
      cases scalarM s1.hd.1 with
      | some p => exact ⟨rfl, l1.adv⟩
      | none =>
        dsimp only
        split
        · exact ⟨rfl, l1.fail 4⟩
        · split
          · obtain ⟨e2, l2⟩ := l1.adv.num val 1073741824
            obtain ⟨e3, l3⟩ := ih.1 (x64 (d + 1)) _ _ (l2.want [93])
            exact ⟨by rw [e2, e3], l3⟩
          · obtain ⟨e3, l3⟩ := ih.2 d _ _ ((l1.adv.isA [112, 97, 99, 107, 101, 100]).want [123])
            exact ⟨by rw [e3, l1.adv.isW], l3⟩
    · unfold fldsM
      rw [l.fk, l.isW]
      split
      · exact ⟨rfl, l⟩
      · split
        · exact ⟨rfl, l.adv⟩
        · obtain ⟨e1, l1⟩ := LR.field kw val (ty := fun d s => typM kw val n d s) (fun d => ih.1 d) d l
          obtain ⟨e2, l2⟩ := ih.2 d _ _ l1
          exact ⟨by dsimp only; rw [e1, e2], l2⟩
theorem LR.bin {ex : Int → PSt → GExpr × PSt} (h : ∀ d, LE g (ex d)) (d : Int) (l : LR g s t) : (binM ex d t).1 = (binM ex d s).1 ∧ LR g (binM ex d s).2 (binM ex d t).2 := by
  unfold binM
  dsimp only
  obtain ⟨e1, l1⟩ := h (x64 (d + 1)) s t l
  generalize ex (x64 (d + 1)) s = a at e1 l1 ⊢
  generalize ex (x64 (d + 1)) t = b at e1 l1 ⊢
  rw [e1, l1.fk, l1.hd1]
  have l2 : LR g (if a.2.fk = 0 ∧ operM a.2.hd.1 = 0 then a.2.fail 4 else a.2) (if a.2.fk = 0 ∧ operM a.2.hd.1 = 0 then b.2.fail 4 else b.2) := by
    split
    · exact l1.fail 4
    · exact l1
  revert l2
  generalize (if a.2.fk = 0 ∧ operM a.2.hd.1 = 0 then a.2.fail 4 else a.2) = a2
  generalize (if a.2.fk = 0 ∧ operM a.2.hd.1 = 0 then b.2.fail 4 else b.2) = b2
  intro l2
  rw [l2.fk]
  have l3 : LR g (if a2.fk = 0 then a2.adv else a2) (if a2.fk = 0 then b2.adv else b2) := by
    split
    · exact l2.adv
    · exact l2
  obtain ⟨e4, l4⟩ := h (x64 (d + 1)) _ _ l3
  exact ⟨by rw [e4], l4.want [41]⟩
theorem LR.kids {ex : Int → PSt → GExpr × PSt} (h : ∀ d, LE g (ex d)) (d : Int) : ∀ (k : Nat), LE g (kidsM ex d k)
  | 0, s, t, l => ⟨rfl, l⟩
  | k + 1, s, t, l => by
    obtain ⟨e1, l1⟩ := h (x64 (d + 1)) s t l
    obtain ⟨e2, l2⟩ := LR.kids h d k _ _ l1
    refine ⟨?_, l2⟩
    show (ex (x64 (d + 1)) t).1 :: _ = (ex (x64 (d + 1)) s).1 :: _
    rw [e1, e2]
theorem LR.place {pa : Int → PSt → List GPart × PSt} (h : ∀ d, LE g (pa d)) (d : Int) : LE g (placeM' kw pa d) := by
  intro s t l
  obtain ⟨e2, l2⟩ := h d _ _ (l.nameS kw)
  refine ⟨?_, l2⟩
  unfold placeM'
  dsimp only
  rw [e2, l.nameT kw]
theorem LR.acc {ex : Int → PSt → GExpr × PSt} {pa : Int → PSt → List GPart × PSt} (h : ∀ d, LE g (ex d)) (k : ∀ d, LE g (pa d)) (kind : Int) (m : Nat) (d : Int) : LE g (accM kw ex pa kind m d) := by
  intro s t l
  unfold accM
  dsimp only
  have l1 : (if kind = 4 then (0, t) else orderM t).1 = (if kind = 4 then (0, s) else orderM s).1 ∧ LR g (if kind = 4 then (0, s) else orderM s).2 (if kind = 4 then (0, t) else orderM t).2 := by
    split
    · exact ⟨rfl, l⟩
    · exact l.order
  revert l1
  generalize (if kind = 4 then (0, s) else orderM s) = a
  generalize (if kind = 4 then (0, t) else orderM t) = b
  rintro ⟨e1, l1⟩
  obtain ⟨e2, l2⟩ := LR.place kw k d _ _ l1
  obtain ⟨e3, l3⟩ := LR.kids h d m _ _ l2
  exact ⟨by rw [e1, e2, e3], l3⟩
theorem LR.exprs : ∀ n : Nat, (∀ d, LE g (exprM kw val n d)) ∧ ∀ d, LE g (partsM kw val n d) := by
  intro n
  induction n with
  | zero => exact ⟨fun d s t l => by unfold exprM; exact ⟨rfl, l⟩, fun d s t l => by unfold partsM; exact ⟨rfl, l⟩⟩
  | succ n ih =>
    refine ⟨fun d s t l => ?_, fun d s t l => ?_⟩
    · unfold exprM
      dsimp only
      have l1 := l.deep d
      generalize s.deep d = s1 at l1 ⊢
      generalize t.deep d = t1 at l1 ⊢
      simp only [l1.isW]
      rw [l1.fk, l1.hd1]
      repeat' split
      all_goals first
        | exact ⟨rfl, l1⟩
        | exact ⟨by rw [(l1.num val 18446744073709551615).1], (l1.num val 18446744073709551615).2⟩
        | exact ⟨rfl, l1.adv⟩
        | exact ⟨rfl, l1.fail 4⟩
        | exact LR.bin (ex := fun d s => exprM kw val n d s) (fun d => ih.1 d) d l1.adv
        | exact LR.acc kw (ex := fun d s => exprM kw val n d s) (pa := fun d s => partsM kw val n d s) (fun d => ih.1 d) (fun d => ih.2 d) _ _ d _ _ l1.adv
    · unfold partsM
      simp only [l.isW]
      rw [l.fk]
      split
      · exact ⟨rfl, l⟩
      · split
        · obtain ⟨e2, l2⟩ := ih.2 d _ _ (l.adv.nameS kw)
          exact ⟨by dsimp only; rw [e2, l.adv.nameT kw], l2⟩
        · split
          · obtain ⟨e1, l1⟩ := ih.1 (x64 (d + 1)) _ _ l.adv
            obtain ⟨e2, l2⟩ := ih.2 d _ _ (l1.want [93])
            exact ⟨by dsimp only; rw [e1, e2], l2⟩
          · exact ⟨rfl, l⟩
end
end

mutual
/-- A statement on other lines. -/
def GStmt.mapL (g : Int → Int) : GStmt → GStmt
  | .mk kind line name name2 order place exprs thn els => .mk kind (g line) name name2 order place exprs (GStmt.mapsL g thn) (GStmt.mapsL g els)
def GStmt.mapsL (g : Int → Int) : List GStmt → List GStmt
  | [] => []
  | x :: r => GStmt.mapL g x :: GStmt.mapsL g r
end
theorem GStmt.mapsL_eq (g : Int → Int) : ∀ xs : List GStmt, GStmt.mapsL g xs = xs.map (GStmt.mapL g)
  | [] => by rw [GStmt.mapsL, List.map_nil]
  | x :: r => by rw [GStmt.mapsL, GStmt.mapsL_eq g r, List.map_cons]
theorem GStmt.mapL_line (g : Int → Int) (x : GStmt) : (x.mapL g).line = g x.line := by cases x; rw [GStmt.mapL]
section
variable {g : Int → Int} (kw : List UInt8 → Bool) (val : List UInt8 → Int)
def LS (g : Int → Int) (F : PSt → List GStmt × PSt) : Prop := ∀ s t, LR g s t → (F t).1 = GStmt.mapsL g (F s).1 ∧ LR g (F s).2 (F t).2
theorem LR.block {ss : Int → PSt → List GStmt × PSt} (h : ∀ d, LS g (ss d)) (d : Int) : LS g (blockF ss d) := by
  intro s t l
  unfold blockF
  dsimp only
  have l1 := l.deep d
  rw [l1.fk]
  split
  · exact ⟨by rw [GStmt.mapsL], l1⟩
  · exact h d _ _ (l1.want [123])
theorem LR.value {ex : Int → PSt → GExpr × PSt} (h : ∀ d, LE g (ex d)) (d : Int) : LE g (valueF ex d) := fun s t l => h _ _ _ (l.want [61])
theorem LR.control {ex : Int → PSt → GExpr × PSt} {ss : Int → PSt → List GStmt × PSt} (h : ∀ d, LE g (ex d)) (k : ∀ d, LS g (ss d)) (x y : GStmt) (hx : y = x.mapL g) (d : Int) (s t : PSt) (l : LR g s t) :
    (controlF ex ss y d t).1 = (controlF ex ss x d s).1.mapL g ∧ LR g (controlF ex ss x d s).2 (controlF ex ss y d t).2 := by
  subst hx
  cases x
  unfold controlF
  dsimp only
  simp only [l.isW]
  split
  · obtain ⟨e1, l1⟩ := h (x64 (d + 1)) _ _ l.adv
    obtain ⟨e2, l2⟩ := LR.block k (x64 (d + 1)) _ _ l1
    rw [l2.isW]
    split
    · obtain ⟨e3, l3⟩ := LR.block k (x64 (d + 1)) _ _ l2.adv
      exact ⟨by simp only [GStmt.mapL, e1, e2, e3], l3⟩
    · exact ⟨by simp only [GStmt.mapL, e1, e2], l2⟩
  · split
    · obtain ⟨e1, l1⟩ := h (x64 (d + 1)) _ _ l.adv
      obtain ⟨e2, l2⟩ := LR.block k (x64 (d + 1)) _ _ l1
      exact ⟨by simp only [GStmt.mapL, e1, e2], l2⟩
    · exact ⟨rfl, l.fail 4⟩
theorem LR.stmt {ex : Int → PSt → GExpr × PSt} {pa : Int → PSt → List GPart × PSt} {ss : Int → PSt → List GStmt × PSt} (h : ∀ d, LE g (ex d)) (j : ∀ d, LE g (pa d)) (k : ∀ d, LS g (ss d)) (d : Int) (s t : PSt) (l : LR g s t) :
    (stmtF kw ex pa ss d t).1 = (stmtF kw ex pa ss d s).1.mapL g ∧ LR g (stmtF kw ex pa ss d s).2 (stmtF kw ex pa ss d t).2 := by
  have hz : stZ t.hd.2 = (stZ s.hd.2).mapL g := by rw [l.hd2]; simp only [stZ, GStmt.mapL, GStmt.mapsL]
  unfold stmtF
  dsimp only
  simp only [l.isW]
  have la := l.adv
  split
  · obtain ⟨e1, l1⟩ := LR.value h d _ _ (la.nameS kw)
    exact ⟨by simp only [stZ, GStmt.mapL, GStmt.mapsL, e1, la.nameT, l.hd2], l1.want _⟩
  split
  · obtain ⟨e1, l1⟩ := LR.value h d _ _ (la.nameS kw)
    exact ⟨by simp only [stZ, GStmt.mapL, GStmt.mapsL, e1, la.nameT, l.hd2], l1.want _⟩
  split
  · obtain ⟨e1, l1⟩ := LR.place kw j d _ _ la
    obtain ⟨e2, l2⟩ := LR.value h d _ _ l1
    exact ⟨by simp only [stZ, GStmt.mapL, GStmt.mapsL, e1, e2, l.hd2], l2.want _⟩
  split
  · obtain ⟨e0, l0⟩ := la.order
    obtain ⟨e1, l1⟩ := LR.place kw j d _ _ l0
    obtain ⟨e2, l2⟩ := LR.value h d _ _ l1
    exact ⟨by simp only [stZ, GStmt.mapL, GStmt.mapsL, e0, e1, e2, l.hd2], l2.want _⟩
  split
  · obtain ⟨e0, l0⟩ := la.order
    obtain ⟨e1, l1⟩ := LR.place kw j d _ _ l0
    exact ⟨by simp only [stZ, GStmt.mapL, GStmt.mapsL, e0, e1, l1.nameT, (l1.nameS kw).nameT, l.hd2], ((l1.nameS kw).nameS kw).want _⟩
  split
  · obtain ⟨e0, l0⟩ := la.order
    obtain ⟨e1, l1⟩ := LR.place kw j d _ _ l0
    obtain ⟨e2, l2⟩ := LR.value h d _ _ l1
    obtain ⟨e3, l3⟩ := h (x64 (d + 1)) _ _ (l2.want [44])
    exact ⟨by simp only [stZ, GStmt.mapL, GStmt.mapsL, e0, e1, e2, e3, l.hd2], l3.want _⟩
  split
  · obtain ⟨e0, l0⟩ := la.order
    exact ⟨by simp only [stZ, GStmt.mapL, GStmt.mapsL, e0, l.hd2], l0.want _⟩
  split
  · obtain ⟨e3, l3⟩ := h (x64 (d + 1)) _ _ la
    exact ⟨by simp only [stZ, GStmt.mapL, GStmt.mapsL, e3, l.hd2], l3.want _⟩
  exact LR.control h k _ _ hz d s t l
theorem LR.stmts : ∀ (n : Nat) (d : Int), LS g (stmtsM kw val n d)
  | 0, d, s, t, l => by unfold stmtsM; exact ⟨by rw [GStmt.mapsL], l⟩
  | n + 1, d, s, t, l => by
    unfold stmtsM
    rw [l.fk, l.isW]
    split
    · exact ⟨by rw [GStmt.mapsL], l⟩
    · split
      · exact ⟨by rw [GStmt.mapsL], l.adv⟩
      · obtain ⟨e1, l1⟩ := LR.stmt kw (ex := exprM kw val n) (pa := partsM kw val n) (ss := fun d s => stmtsM kw val n d s) (LR.exprs kw val n).1 (LR.exprs kw val n).2 (fun d => LR.stmts n d) d s t l
        obtain ⟨e2, l2⟩ := LR.stmts n d _ _ l1
        exact ⟨by dsimp only; rw [e1, e2, GStmt.mapsL], l2⟩
theorem LR.vars : ∀ (n : Nat), LE g (varsM kw val n)
  | 0, s, t, l => by unfold varsM; exact ⟨rfl, l⟩
  | n + 1, s, t, l => by
    unfold varsM
    rw [l.isW]
    split
    · obtain ⟨e1, l1⟩ := (LR.typs kw val n).1 1 _ _ (l.adv.nameS kw)
      obtain ⟨e2, l2⟩ := LR.vars n _ _ (l1.want [59])
      exact ⟨by dsimp only; rw [e1, e2, l.adv.nameT kw], l2⟩
    · exact ⟨rfl, l⟩
theorem LR.thrs : ∀ (n : Nat) (s t : PSt), LR g s t → (thrsM kw val n t).1 = (thrsM kw val n s).1.map (GStmt.mapsL g) ∧ LR g (thrsM kw val n s).2 (thrsM kw val n t).2
  | 0, s, t, l => by unfold thrsM; exact ⟨rfl, l⟩
  | n + 1, s, t, l => by
    unfold thrsM
    rw [l.isW]
    split
    · obtain ⟨e1, l1⟩ := LR.block (ss := stmtsM kw val n) (LR.stmts kw val n) 1 _ _ l.adv
      obtain ⟨e2, l2⟩ := LR.thrs n _ _ l1
      exact ⟨by dsimp only; rw [e1, e2, List.map_cons], l2⟩
    · exact ⟨rfl, l⟩
theorem LR.endM {s t : PSt} (l : LR g s t) : LR g s.endM t.endM := by
  unfold PSt.endM
  rw [l.fk, l.len]
  split
  · exact l.fail 4
  · exact l
/-- A program on other lines. -/
theorem LR.parse {s t : PSt} (l : LR g s t) :
    (parseM kw val t).1.vars = (parseM kw val s).1.vars ∧ (parseM kw val t).1.threads = (parseM kw val s).1.threads.map (GStmt.mapsL g) ∧ (parseM kw val t).2.2 = (parseM kw val s).2.2 ∧
      ((parseM kw val s).2.2 ≠ 0 → (parseM kw val t).2.1 = g (parseM kw val s).2.1) ∧ ((parseM kw val s).2.2 = 0 → (parseM kw val s).2.1 = 0 ∧ (parseM kw val t).2.1 = 0) := by
  unfold parseM
  dsimp only
  rw [l.len]
  obtain ⟨e1, l1⟩ := LR.vars kw val s.toks.length _ _ l
  obtain ⟨e2, l2⟩ := LR.thrs kw val s.toks.length _ _ l1
  have l3 := l2.endM
  rw [e1, e2, l3.fk]
  split
  · rename_i h
    exact ⟨rfl, rfl, rfl, fun _ => l3.fl h, fun h0 => absurd h0 h⟩
  · exact ⟨rfl, rfl, rfl, fun h0 => absurd rfl h0, fun _ => ⟨rfl, rfl⟩⟩
end
end Rb

/- Law 9: plain laws. -/
set_option linter.unusedVariables false
set_option linter.unusedSimpArgs false
set_option linter.unusedSectionVars false
namespace Rb
open Go

/-! Numbers in digits. -/
def dvF (a : Nat) (c : UInt8) : Nat := a * 10 + (c.toNat - 48)
def dv (a : Nat) (w : List UInt8) : Nat := w.foldl dvF a
theorem dv_nil (a : Nat) : dv a [] = a := rfl
theorem dv_cons (a : Nat) (c : UInt8) (r : List UInt8) : dv a (c :: r) = dv (a * 10 + (c.toNat - 48)) r := by simp only [dv, List.foldl_cons, dvF]
theorem dv_le (w : List UInt8) : ∀ (a : Nat), a ≤ dv a w := by
  induction w with
  | nil => intro a; rw [dv_nil]; exact Nat.le_refl _
  | cons c r ih =>
    intro a
    have := ih (a * 10 + (c.toNat - 48))
    rw [dv_cons]; omega
theorem dv_acc : ∀ (w : List UInt8) (a : Nat), dv a w = a * 10 ^ w.length + dv 0 w
  | [], a => by rw [dv_nil, dv_nil]; simp
  | c :: r, a => by
    rw [dv_cons, dv_cons, dv_acc r, dv_acc r (0 * 10 + (c.toNat - 48)), List.length_cons, Nat.pow_succ, Nat.add_mul, Nat.zero_mul, Nat.zero_add, Nat.mul_assoc, Nat.mul_comm 10, Nat.add_assoc]
theorem dv_lt : ∀ (w : List UInt8), (∀ c ∈ w, isDig c = true) → dv 0 w < 10 ^ w.length
  | [], _ => by rw [dv_nil]; simp
  | c :: r, h => by
    have hc := (isDig_iff c).1 (h c (by simp))
    have := dv_lt r fun c hc => h c (by simp [hc])
    rw [dv_cons, dv_acc, List.length_cons, Nat.pow_succ, Nat.zero_mul, Nat.zero_add]
    have : c.toNat - 48 ≤ 9 := by omega
    have := Nat.mul_le_mul_right (10 ^ r.length) this
    omega
theorem parseM_ok : ∀ (w : List UInt8) (a : Nat), (∀ c ∈ w, isDig c = true) → a ≤ 18446744073709551615 → ((∃ v, Go.Lib.parseUintM 18446744073709551615 a w = .ok v) ↔ dv a w ≤ 18446744073709551615)
  | [], a, _, ha => by
    unfold Go.Lib.parseUintM
    rw [dv_nil]
    exact ⟨fun _ => ha, fun _ => ⟨a, rfl⟩⟩
  | c :: r, a, h, ha => by
    have hc := (isDig_iff c).1 (h c (by simp))
    have hr := dv_le r (a * 10 + (c.toNat - 48))
    unfold Go.Lib.parseUintM
    rw [if_pos hc, dv_cons]
    split
    · constructor
      · rintro ⟨v, h⟩; cases h
      · intro h; omega
    · split
      · constructor
        · rintro ⟨v, h⟩; cases h
        · intro h; omega
      · exact parseM_ok r _ (fun c hc => h c (by simp [hc])) (by omega)
theorem less_dv : ∀ (a b : List UInt8), a.length = b.length → (∀ c ∈ a, isDig c = true) → (∀ c ∈ b, isDig c = true) → (Op.bytesLess a b = true ↔ dv 0 a < dv 0 b) ∧ (a = b ↔ dv 0 a = dv 0 b)
  | [], [], _, _, _ => by simp [Op.bytesLess]
  | [], _ :: _, h, _, _ => by simp at h
  | _ :: _, [], h, _, _ => by simp at h
  | c :: x, d :: y, h, ha, hb => by
    simp only [List.length_cons, Nat.add_right_cancel_iff] at h
    have hc := (isDig_iff c).1 (ha c (by simp))
    have hd := (isDig_iff d).1 (hb d (by simp))
    obtain ⟨i1, i2⟩ := less_dv x y h (fun c hc => ha c (by simp [hc])) (fun c hc => hb c (by simp [hc]))
    have hx := dv_lt x (fun c hc => ha c (by simp [hc]))
    have hy := dv_lt y (fun c hc => hb c (by simp [hc]))
    have e1 : dv 0 (c :: x) = (c.toNat - 48) * 10 ^ x.length + dv 0 x := by rw [dv_cons, dv_acc]; simp
    have e2 : dv 0 (d :: y) = (d.toNat - 48) * 10 ^ x.length + dv 0 y := by rw [dv_cons, dv_acc, h]; simp
    rw [← h] at hy
    rw [e1, e2]
    rcases Nat.lt_trichotomy c.toNat d.toNat with hlt | heq | hgt
    · have hm : (c.toNat - 48 + 1) * 10 ^ x.length ≤ (d.toNat - 48) * 10 ^ x.length := Nat.mul_le_mul_right _ (by omega)
      rw [Nat.add_mul, Nat.one_mul] at hm
      have hcd : c ≠ d := fun e => by rw [e] at hlt; omega
      have l1 : c < d := UInt8.lt_iff_toNat_lt.2 hlt
      refine ⟨?_, ?_⟩
      · simp only [Op.bytesLess, l1, decide_true, Bool.true_or, true_iff]; omega
      · constructor
        · intro e; injection e with e1 e2; exact absurd e1 hcd
        · intro e; omega
    · have hcd : c = d := UInt8.toNat_inj.1 heq
      subst hcd
      have l1 : ¬ c < c := fun h => by have := UInt8.lt_iff_toNat_lt.1 h; omega
      refine ⟨?_, ?_⟩
      · simp only [Op.bytesLess, l1, decide_false, Bool.false_or, beq_self_eq_true, Bool.true_and, i1]; omega
      · constructor
        · intro e; injection e with _ e2; rw [i2.1 e2]
        · intro e; rw [i2.2 (by omega)]
    · have hm : (d.toNat - 48 + 1) * 10 ^ x.length ≤ (c.toNat - 48) * 10 ^ x.length := Nat.mul_le_mul_right _ (by omega)
      rw [Nat.add_mul, Nat.one_mul] at hm
      have hcd : c ≠ d := fun e => by rw [e] at hgt; omega
      have l1 : ¬ c < d := fun h => by have := UInt8.lt_iff_toNat_lt.1 h; omega
      have l2 : (c == d) = false := by simpa using hcd
      refine ⟨?_, ?_⟩
      · simp only [Op.bytesLess, l1, decide_false, Bool.false_or, l2, Bool.false_and]
        constructor
        · intro h; cases h
        · intro h; omega
      · constructor
        · intro e; injection e with e1 e2; exact absurd e1 hcd
        · intro e; omega
theorem numG : NumG numX := by
  intro w hne hdig h0
  have hX : numX w = true ↔ dv 0 w ≤ 18446744073709551615 := by
    rw [← parseM_ok w 0 hdig (by decide)]
    unfold numX Go.Lib.parseUintB
    rw [if_neg hne]
    show (match Go.Lib.parseUintM 18446744073709551615 0 w with | .ok _ => true | _ => false) = true ↔ _
    generalize Go.Lib.parseUintM 18446744073709551615 0 w = e
    cases e
    · rename_i v; exact ⟨fun _ => ⟨v, rfl⟩, fun _ => rfl⟩
    · exact ⟨fun h => (by cases h), fun ⟨v, h⟩ => (by cases h)⟩
    · exact ⟨fun h => (by cases h), fun ⟨v, h⟩ => (by cases h)⟩
  have htop : dv 0 top64 = 18446744073709551615 := by decide
  have hG : greatM w = true ↔ 18446744073709551615 < dv 0 w := by
    unfold greatM
    rcases Nat.lt_trichotomy w.length 20 with hl | hl | hl
    · rw [decide_eq_false (by omega), decide_eq_false (by omega)]
      have h1 := dv_lt w hdig
      have : 10 ^ w.length ≤ 10 ^ 19 := Nat.pow_le_pow_right (by omega) (by omega)
      constructor
      · intro h; cases h
      · intro h; omega
    · rw [decide_eq_false (by omega), decide_eq_true hl]
      obtain ⟨i1, i2⟩ := less_dv w top64 (by rw [hl]; rfl) hdig (by decide)
      rw [htop] at i1 i2
      simp only [Bool.false_or, Bool.true_and, Bool.not_eq_true', Bool.or_eq_false_iff]
      constructor
      · rintro ⟨h1, h2⟩
        have n1 : ¬ dv 0 w < 18446744073709551615 := fun e => by rw [i1.2 e] at h1; cases h1
        have n2 : ¬ dv 0 w = 18446744073709551615 := fun e => by rw [i2.2 e] at h2; simp at h2
        omega
      · intro h
        refine ⟨?_, ?_⟩
        · cases hq : Op.bytesLess w top64 with
          | false => rfl
          | true => have := i1.1 hq; omega
        · rw [beq_eq_false_iff_ne]
          intro e; have := i2.1 e; omega
    · rw [decide_eq_true hl]
      simp only [Bool.true_or, true_iff]
      cases w with
      | nil => exact absurd rfl hne
      | cons c r =>
        have hc := (isDig_iff c).1 (hdig c (by simp))
        have hc48 : c.toNat ≠ 48 := fun e => h0 ⟨by omega, by
          show some c = some 48
          exact congrArg some (UInt8.toNat_inj.1 e)⟩
        simp only [List.length_cons] at hl
        have e : dv 0 (c :: r) = (c.toNat - 48) * 10 ^ r.length + dv 0 r := by rw [dv_cons, dv_acc]; simp
        have h1 : 10 ^ 20 ≤ 10 ^ r.length := Nat.pow_le_pow_right (by omega) (by omega)
        have h2 : 1 * 10 ^ r.length ≤ (c.toNat - 48) * 10 ^ r.length := Nat.mul_le_mul_right _ (by omega)
        omega
  cases h1 : numX w with
  | true =>
    cases h2 : greatM w with
    | false => rfl
    | true => have a := hX.1 h1; have b := hG.1 h2; omega
  | false =>
    cases h2 : greatM w with
    | true => rfl
    | false =>
      exfalso
      have a : ¬ dv 0 w ≤ 18446744073709551615 := fun e => by rw [hX.2 e] at h1; cases h1
      have b : ¬ 18446744073709551615 < dv 0 w := fun e => by rw [hG.2 e] at h2; cases h2
      omega

/-! Words on lines of their own. -/
def wides (ws : List (List UInt8)) : List UInt8 := ws.flatMap fun w => w ++ [10, 10, 32]
theorem toks_wide {num : List UInt8 → Bool} : ∀ (ws : List (List UInt8)) (n : Nat) (line : Int), (∀ w ∈ ws, WOK num w) → (wides ws).length ≤ n → ∃ ls, toks num n (wides ws) line = .ok ls ∧ ls.map (·.1) = ws
  | [], n, line, _, _ => ⟨[], toks_nil n line, rfl⟩
  | w :: r, n, line, h, hn => by
    obtain ⟨g1, g2, x, l, rfl, h1, h2, hw⟩ := h w (by simp)
    have e : wides ((x :: l) :: r) = x :: (l ++ 10 :: (10 :: 32 :: wides r)) := by simp [wides]
    rw [e] at hn ⊢
    simp only [List.length_cons, List.length_append] at hn
    cases n with
    | zero => omega
    | succ n =>
      rw [toks, if_neg h1, if_neg h2, wordM_stop (.inl rfl), hw]
      simp only
      have d1 : (x :: (l ++ 10 :: (10 :: 32 :: wides r))).drop (x :: l).length = 10 :: (10 :: 32 :: wides r) := by
        rw [← List.cons_append, List.drop_left]
      have d2 : (x :: (l ++ 10 :: (10 :: 32 :: wides r))).take (x :: l).length = x :: l := by
        rw [← List.cons_append, List.take_left]
      rw [d1, d2]
      rcases n with _ | _ | _ | n
      · omega
      · omega
      · omega
      rw [toks, if_pos rfl, toks, if_pos rfl, toks, if_neg (by decide), if_pos rfl]
      obtain ⟨ls, h3, h4⟩ := toks_wide r n (line + 1 + 1) (fun w hw => h w (by simp [hw])) (by omega)
      rw [h3]
      exact ⟨(x :: l, line) :: ls, rfl, by rw [List.map_cons, h4]⟩
theorem wides_len {num : List UInt8 → Bool} : ∀ (ws : List (List UInt8)), (∀ w ∈ ws, WOK num w) → (wides ws).length ≤ ws.length * 23
  | [], _ => by simp [wides]
  | w :: r, h => by
    have := wides_len r fun w hw => h w (by simp [hw])
    have h1 := (h w (by simp)).2.1
    have e : (wides (w :: r)).length = w.length + 3 + (wides r).length := by
      show ((w ++ [10, 10, 32]) ++ wides r).length = _
      rw [List.length_append, List.length_append]; rfl
    rw [e, List.length_cons]
    omega

/-! The parser on the same words. -/
theorem LR_begin (g : Int → Int) {ls : List (List UInt8 × Int)} (h : ls ≠ []) : LR g (beginM ls) (beginM (ls.map fun w => (w.1, g w.2))) := by
  have e : lastL (ls.map fun w => (w.1, g w.2)) = g (lastL ls) := by
    unfold lastL
    rw [List.getLast?_map]
    cases hg : ls.getLast? with
    | none => exact absurd (List.getLast?_eq_none_iff.1 hg) h
    | some w => rfl
  refine ⟨?_, ?_, rfl, fun h => absurd rfl h⟩
  · show _ ++ [([], lastL _)] = (ls ++ [([], lastL ls)]).map _
    rw [List.map_append, e]; rfl
  · show ls ++ _ ≠ []
    simp
section
variable {kw : List UInt8 → Bool} {val : List UInt8 → Int} {num : List UInt8 → Bool}
/-- What two texts of the same words come to. -/
def SameP (r q : GProg × Int × Int) : Prop := q.1.vars = r.1.vars ∧ q.1.threads.length = r.1.threads.length ∧ q.2.2 = r.2.2
theorem SameP.of {g : Int → Int} {s t : PSt} (l : LR g s t) : SameP (parseM kw val s) (parseM kw val t) := by
  obtain ⟨h1, h2, h3, _, _⟩ := LR.parse kw val l
  exact ⟨h1, by rw [h2, List.length_map], h3⟩
theorem parse_mt : parseM kw val (beginM []) = (⟨[], []⟩, 0, 0) := rfl
theorem words_law (hnum : ∀ w, num w = true → ¬ (1 < w.length ∧ w.head? = some 48) → w.length ≤ 20) {s : List UInt8} {ws : List (List UInt8 × Int)} (h : lexM num s = .ok ws) (hl : ws.length ≤ 3000) :
    SameP (parseP num kw val s) (parseP num kw val (blanks (ws.map (·.1)))) ∧ SameP (parseP num kw val s) (parseP num kw val (10 :: wides (ws.map (·.1)))) ∧ ((parseP num kw val (blanks (ws.map (·.1)))).2.2 ≠ 0 → (parseP num kw val (blanks (ws.map (·.1)))).2.1 ≤ 1) := by
  have ht := lexM_ok h
  have hw : ∀ w ∈ ws.map (·.1), WOK num w := by
    intro w hw
    obtain ⟨x, hx, rfl⟩ := List.mem_map.1 hw
    exact toks_wok hnum _ _ _ _ ht x hx
  have hb := blanks_len (ws.map (·.1)) hw
  have hwl := wides_len (ws.map (·.1)) hw
  rw [List.length_map] at hb hwl
  have l1 : lexM num (blanks (ws.map (·.1))) = .ok (ws.map fun w => (w.1, (1 : Int))) := by
    rw [lexM_small (by omega), toks_back _ _ _ hw (Nat.le_refl _), List.map_map]
    rfl
  obtain ⟨ls, l2, l3⟩ : ∃ ls, lexM num (10 :: wides (ws.map (·.1))) = .ok ls ∧ ls.map (·.1) = ws.map (·.1) := by
    rw [lexM_small (by simp only [List.length_cons]; omega)]
    obtain ⟨ls, h3, h4⟩ := toks_wide (ws.map (·.1)) (wides (ws.map (·.1))).length (1 + 1) hw (Nat.le_refl _)
    refine ⟨ls, ?_, h4⟩
    rw [List.length_cons, toks, if_pos rfl, h3]
  have p0 : parseP num kw val s = parseM kw val (beginM ws) := by unfold parseP; rw [h]
  have p1 : parseP num kw val (blanks (ws.map (·.1))) = parseM kw val (beginM (ws.map fun w => (w.1, (1 : Int)))) := by unfold parseP; rw [l1]
  have p2 : parseP num kw val (10 :: wides (ws.map (·.1))) = parseM kw val (beginM ls) := by unfold parseP; rw [l2]
  rw [p0, p1, p2]
  by_cases hz : ws = []
  · subst hz
    have : ls = [] := by simpa using l3
    subst this
    exact ⟨⟨rfl, rfl, rfl⟩, ⟨rfl, rfl, rfl⟩, fun h => absurd rfl h⟩
  · have hz2 : ls ≠ [] := by
      intro e; subst e
      exact hz (by simpa using l3.symm)
    have a := LR_begin (fun _ => 1) hz
    have b := LR_begin (fun _ => 1) hz2
    have e : (ls.map fun w => (w.1, (1 : Int))) = ws.map fun w => (w.1, (1 : Int)) := by
      have : ∀ l : List (List UInt8 × Int), (l.map fun w => (w.1, (1 : Int))) = (l.map (·.1)).map fun x => (x, (1 : Int)) := fun l => by rw [List.map_map]; rfl
      rw [this, this, l3]
    rw [e] at b
    have c1 := SameP.of (kw := kw) (val := val) a
    have c2 := SameP.of (kw := kw) (val := val) b
    refine ⟨c1, ⟨c2.1.symm.trans c1.1, c2.2.1.symm.trans c1.2.1, c2.2.2.symm.trans c1.2.2⟩, fun hf => ?_⟩
    obtain ⟨_, _, h3, h4, _⟩ := LR.parse kw val a
    have := h4 (by rw [← h3]; exact hf)
    rw [this]; exact Int.le_refl _

/-! Lines ahead. -/
def ahead : Nat → List UInt8
  | 0 => []
  | k + 1 => ahead k ++ [32, 10]
theorem ahead_len : ∀ k, (ahead k).length = 2 * k
  | 0 => rfl
  | k + 1 => by rw [ahead, List.length_append, ahead_len k]; rfl
theorem toks_ahead : ∀ (k n : Nat) (t : List UInt8) (line : Int), toks num (n + 2 * k) (ahead k ++ t) line = toks num n t (line + k)
  | 0, n, t, line => by
    show toks num n t line = toks num n t (line + ((0 : Nat) : Int))
    rw [show line + ((0 : Nat) : Int) = line by omega]
  | k + 1, n, t, line => by
    rw [ahead, List.append_assoc, show n + 2 * (k + 1) = (n + 2) + 2 * k by omega, toks_ahead k (n + 2)]
    show toks num (n + 2) (32 :: 10 :: t) (line + k) = _
    rw [toks, if_neg (by decide), if_pos rfl, toks, if_pos rfl, show line + (k : Int) + 1 = line + ((k + 1 : Nat) : Int) by omega]
theorem moves_law {s : List UInt8} {k : Nat} (hs : s.length ≤ 100000) (hk : k ≤ 8) :
    (parseP num kw val (ahead k ++ s)).1.threads = (parseP num kw val s).1.threads.map (GStmt.mapsL (· + (k : Int))) ∧ (parseP num kw val (ahead k ++ s)).2.2 = (parseP num kw val s).2.2 ∧ ((parseP num kw val s).2.2 ≠ 0 → (parseP num kw val (ahead k ++ s)).2.1 = (parseP num kw val s).2.1 + k) := by
  have hl : (ahead k ++ s).length = s.length + 2 * k := by rw [List.length_append, ahead_len]; omega
  have e : lexM num (ahead k ++ s) = match toks num s.length s (1 + k) with | .ok ws => .ok ws | .error l => .error (l, 3) := by
    rw [lexM_small (by omega), hl, toks_ahead]
    all_goals (cases toks num s.length s (1 + ↑k) <;> rfl)
  rw [toks_shift] at e
  have e0 : lexM num s = match toks num s.length s 1 with | .ok ws => .ok ws | .error l => .error (l, 3) := lexM_small (by omega)
  unfold parseP
  cases ht : toks num s.length s 1 with
  | error l =>
    rw [ht] at e e0
    rw [e, e0]
    exact ⟨rfl, rfl, fun _ => rfl⟩
  | ok ws =>
    rw [ht] at e e0
    rw [e, e0]
    simp only [shift]
    by_cases hz : ws = []
    · subst hz
      exact ⟨rfl, rfl, fun h => absurd rfl h⟩
    · obtain ⟨h1, h2, h3, h4, h5⟩ := LR.parse kw val (LR_begin (· + (k : Int)) hz)
      exact ⟨h2, h3, h4⟩
/-- Lines are small. -/
theorem lines_law {s : List UInt8} (hs : s.length ≤ 100000) : ((parseP num kw val s).2.2 ≠ 0 → 0 ≤ (parseP num kw val s).2.1 ∧ (parseP num kw val s).2.1 ≤ 200000) ∧ ∀ t ∈ (parseP num kw val s).1.threads, ∀ x ∈ t, 0 ≤ x.line ∧ x.line ≤ 200000 := by
  have e0 : lexM num s = match toks num s.length s 1 with | .ok ws => .ok ws | .error l => .error (l, 3) := lexM_small (by omega)
  unfold parseP
  cases ht : toks num s.length s 1 with
  | error l =>
    rw [ht] at e0
    rw [e0]
    refine ⟨fun _ => ?_, fun t ht => by cases ht⟩
    have : ∀ (n : Nat) (s : List UInt8) (line l : Int), toks num n s line = .error l → line ≤ l ∧ l ≤ line + s.length := by
      intro n
      induction n with
      | zero => intro s line l h; rw [toks] at h; cases h
      | succ n ih =>
        intro s line l h
        cases s with
        | nil => rw [toks] at h; cases h
        | cons x r =>
          rw [toks] at h
          simp only [List.length_cons]
          split at h
          · have := ih _ _ _ h; omega
          · split at h
            · have := ih _ _ _ h; omega
            · cases hk : wordM num (x :: r) with
              | none => rw [hk] at h; cases h; omega
              | some k =>
                rw [hk] at h
                simp only at h
                cases ht : toks num n ((x :: r).drop k) line with
                | error l2 =>
                  rw [ht] at h; cases h
                  have h1 := ih _ _ _ ht
                  have h2 : ((x :: r).drop k).length ≤ (x :: r).length := by rw [List.length_drop]; omega
                  simp only [List.length_cons] at h2
                  omega
                | ok a => rw [ht] at h; cases h
    have := this _ _ _ _ ht
    show 0 ≤ l ∧ l ≤ 200000
    omega
  | ok ws =>
    rw [ht] at e0
    rw [e0]
    simp only
    by_cases hz : ws = []
    · subst hz
      exact ⟨fun h => absurd rfl h, fun t ht => by cases ht⟩
    · have hli := toks_lines _ _ _ _ ht
      have hg : (ws.map fun w => (w.1, max 0 (min w.2 200000))) = ws := by
        conv => rhs; rw [← List.map_id ws]
        refine List.map_congr_left fun w hw => ?_
        have := hli w hw
        show (w.1, max 0 (min w.2 200000)) = w
        rw [show max 0 (min w.2 200000) = w.2 by omega]
      have l := LR_begin (fun x => max 0 (min x 200000)) hz
      rw [hg] at l
      obtain ⟨h1, h2, h3, h4, h5⟩ := LR.parse kw val l
      refine ⟨fun hf => ?_, fun t ht x hx => ?_⟩
      · have := h4 hf; omega
      · have : ∀ (ts : List (List GStmt)), ts = ts.map (GStmt.mapsL fun x => max 0 (min x 200000)) → ∀ t ∈ ts, ∀ x ∈ t, 0 ≤ x.line ∧ x.line ≤ 200000 := by
          intro ts he t ht x hx
          have a : t = GStmt.mapsL (fun x => max 0 (min x 200000)) t := by
            obtain ⟨i, hi, rfl⟩ := List.mem_iff_getElem.1 ht
            have := congrArg (fun l => l[i]?) he
            simp only [List.getElem?_map, List.getElem?_eq_getElem hi, Option.map_some, Option.some.injEq] at this
            exact this
          rw [GStmt.mapsL_eq] at a
          have b : x = x.mapL (fun x => max 0 (min x 200000)) := by
            obtain ⟨i, hi, rfl⟩ := List.mem_iff_getElem.1 hx
            have := congrArg (fun l => l[i]?) a
            simp only [List.getElem?_map, List.getElem?_eq_getElem hi, Option.map_some, Option.some.injEq] at this
            exact this
          have := congrArg GStmt.line b
          rw [GStmt.mapL_line] at this
          omega
        exact this _ h2 t ht x hx
theorem stmts_size : ∀ (n : Nat) (d : Int) (s : PSt), (stmtsM kw val n d s).1.length ≤ n
  | 0, d, s => by unfold stmtsM; exact Nat.le_refl _
  | n + 1, d, s => by
    unfold stmtsM
    split
    · exact Nat.zero_le _
    · split
      · exact Nat.zero_le _
      · have := stmts_size n d (stmtF kw (exprM kw val n) (partsM kw val n) (fun d s => stmtsM kw val n d s) d s).2
        simp only [List.length_cons]; omega
theorem thrs_size : ∀ (n : Nat) (s : PSt), (thrsM kw val n s).1.length ≤ n ∧ ∀ t ∈ (thrsM kw val n s).1, t.length ≤ n
  | 0, s => by unfold thrsM; exact ⟨Nat.le_refl _, fun t h => by cases h⟩
  | n + 1, s => by
    unfold thrsM
    split
    · obtain ⟨h1, h2⟩ := thrs_size n (blockF (stmtsM kw val n) 1 s.adv).2
      refine ⟨by simp only [List.length_cons]; omega, fun t ht => ?_⟩
      rcases List.mem_cons.1 ht with rfl | ht
      · unfold blockF
        dsimp only
        split
        · exact Nat.zero_le _
        · have := stmts_size (kw := kw) (val := val) n 1 ((s.adv.deep 1).want [123]); omega
      · have := h2 t ht; omega
    · exact ⟨Nat.zero_le _, fun t h => by cases h⟩
theorem size_law (s : List UInt8) : (parseP num kw val s).1.threads.length ≤ 2000000 ∧ ∀ t ∈ (parseP num kw val s).1.threads, t.length ≤ 2000000 := by
  unfold parseP
  cases h : lexM num s with
  | error e => exact ⟨Nat.zero_le _, fun t h => by cases h⟩
  | ok ws =>
    obtain ⟨_, hl⟩ := begin_wf h
    have hlen : (beginM ws).toks.length = ws.length + 1 := by show (ws ++ _).length = _; simp
    unfold parseM
    dsimp only
    obtain ⟨h1, h2⟩ := thrs_size (kw := kw) (val := val) (beginM ws).toks.length (varsM kw val (beginM ws).toks.length (beginM ws)).2
    split
    · exact ⟨Nat.zero_le _, fun t h => by cases h⟩
    · exact ⟨by show (thrsM _ _ _ _).1.length ≤ _; omega, fun t ht => by have := h2 t ht; omega⟩
end
end Rb
