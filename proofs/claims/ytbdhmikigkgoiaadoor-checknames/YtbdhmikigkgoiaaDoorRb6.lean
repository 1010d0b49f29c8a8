/- For every program p: one variable more, that nobody speaks of, changes nothing of what check says, but that there may be too many, or too many bytes (law CheckNames of chapter 11 returns true and leaves its arguments). No condition beyond the card's own. -/
import Derived.Test.YtbdhmikigkgoiaaDoorRb5
import Derived.Test.YtbdhmikigkgoiaaDoorRb4
import Derived.SizedLaws
import Derived.Test.YtbdhmikigkgoiaaDoorRb3
import Derived.Test.YtbdhmikigkgoiaaDoorRb2
import Derived.Test.YtbdhmikigkgoiaaDoorTie
import Derived.Test.YtbdhmikigkgoiaaDoorCards
/- Law 11: CheckParts, CheckNames. -/
set_option linter.unusedVariables false
set_option linter.unusedSimpArgs false
set_option linter.unusedSectionVars false
namespace Rb
open Go

theorem slice_one {α : Type} {c : α → AV} {xs : List α} {i : Nat} {x : α} (hx : xs[i]? = some x) : aslice 1 (lstA (fun x => [c x]) xs) (some (.int .i64 i)) (some (.int .i64 ((i + 1 : Nat) : Int))) none = some (lstA (fun x => [c x]) [x]) := by
  have hlt := (List.getElem?_eq_some_iff.1 hx).1
  have hl : (xs.flatMap fun x => [c x]).length = xs.length * 1 := flatMap_len (sz := 1) (fun _ => rfl) xs
  simp only [lstA, aslice, abound]
  rw [if_pos (by omega)]
  rw [if_pos (by omega)]
  simp only [Option.map_none]
  rw [if_pos ⟨by omega, by omega, hl⟩]
  have ht : ((xs.flatMap fun x => [c x]).take ((i + 1) * 1)).drop (i * 1) = [c x] := by
    rw [flatMap_take (sz := 1) (fun _ => rfl), flatMap_drop (sz := 1) (fun _ => rfl)]
    have : (xs.take (i + 1)).drop i = [x] := by
      rw [List.take_add_one, hx, List.drop_append, List.length_take, Nat.min_eq_left (by omega), List.drop_of_length_le (by rw [List.length_take]; omega)]
      simp
    rw [this]; rfl
  by_cases h : i = 0 ∧ xs.length = i + 1
  · obtain ⟨rfl, h2⟩ := h
    obtain ⟨y, rfl⟩ := List.length_eq_one_iff.1 h2
    simp at hx
    subst hx
    rfl
  · have e1 : ((i : Int)).toNat = i := by omega
    have e2 : (((i + 1 : Nat) : Int)).toNat = i + 1 := by omega
    rw [e1, e2, if_neg (by omega), ht]
    have : i + 1 - i = 1 := by omega
    rw [this]
    split <;> rfl

section
variable {C : Ctx} (hGT : GTok C) (hT : Cl (ACall C) S.tab_Chk) {kw : List UInt8 → Bool} (hkw : ∀ x, Val (ACall C) K.lex_Keyword [.str x] (.bool (kw x))) (haw : Val (ACall C) K.rabbetlaw11_awake [] (.bool true))
include hGT hT hkw haw

theorem pbox (p : GProg) (H : AH) : aboxv H false 2 (.agg p.cells) = some (.fptr p.cells, H) := by unfold aboxv; rw [if_pos ⟨rfl, rfl⟩]; rfl

theorem CheckParts_spec {p : GProg} (hp : p.ok) {n : Int} (h0 : 0 ≤ n) (h1 : n ≤ 255) {H : AH} {Q : Post} (hQ : ∀ H', Q (.bool true) H') : S.rabbetlaw11_CheckParts (ACall C) (.agg p.cells) (.int .u8 n) H Q := by
  have pl0 : ∀ H, aload H 1 false (.fptr (p.cells.drop 0)) = some (lstA GVar.cells p.vars) := fun _ => rfl
  have pl1 : ∀ H, aload H 1 false (.fptr (p.cells.drop 1)) = some (lstA thrCells p.threads) := fun _ => rfl
  have pall : ∀ H, aload H 2 true (.fptr p.cells) = some (.agg p.cells) := fun _ => takeCells_whole rfl
  have hbox := pbox hGT hT hkw haw p H
  unfold S.rabbetlaw11_CheckParts
  simp only [hbox, DoH_some, pall, Do_of]
  refine prog_val hGT hT hkw p hp _ _ ?_
  simp only [abox, if_true, DoH_some, progV]
  rw [store_new _ _ _ 2 rfl rfl rfl]
  simp only [Do_of, afaddr, pl1, lstA_len', abin_eql, Gd3_false, Nat.zero_add]
  have at6 := At.new H (.row [.int .i64 (progM kw p).1, .int .i64 (progM kw p).2])
  generalize H.push (.row [.int .i64 (progM kw p).1, .int .i64 (progM kw p).2]) = H8 at *
  generalize H.n = id6 at *
  have l6 : ∀ H', At H' id6 (.row [.int .i64 (progM kw p).1, .int .i64 (progM kw p).2]) → aload H' 1 false (.ptr id6 1) = some (.int .i64 (progM kw p).2) := fun H' ha => by rw [ha.load]; rfl
  have hvl := hp.1.1
  have k7 : ¬ (p.threads.length = 0 ∨ 8 < p.threads.length) → JoinP (S.rabbetlaw11_CheckParts_k7 (ACall C) (.int .u8 n) (.fptr p.cells) (.ptr id6 0) Q) [] H8 := by
    intro hn
    have hall := parts_all kw p hn
    simp only [JoinP_def, S.rabbetlaw11_CheckParts_k7]
    have main : ∀ (r : List (List GStmt)) (i : Nat) (all : Bool) (H1 : AH), p.threads.drop i = r → At H1 id6 (.row [.int .i64 (progM kw p).1, .int .i64 (progM kw p).2]) → all = (p.threads.take i).all (fun t => (progM kw ⟨p.vars, [t]⟩).2 == 0) →
        LoopP (S.rabbetlaw11_CheckParts_l6 (ACall C) (.int .u8 n) (.fptr p.cells) (.ptr id6 0) Q) ([.bool all, .int .i64 i], H1) := by
      intro r
      induction r with
      | nil =>
        intro i all H1 hd ha he
        have hle := drop_nil_le hd
        refine LoopP.step ?_
        simp only [S.rabbetlaw11_CheckParts_l6, sl_zero, sl_succ, afaddr, pl1, Do_of, lstA_len', abin_lss, Gd_true]
        rw [if_neg (by simp only [decide_eq_true_eq]; omega)]
        rw [List.take_of_length_le hle] at he
        have hiff : all = ((progM kw p).2 == 0) := by
          rw [he, Bool.eq_iff_iff, List.all_eq_true]
          simp only [beq_iff_eq]
          exact hall
        simp only [JoinP_def, S.rabbetlaw11_CheckParts_k5, sl_zero]
        refine haw _ _ ?_
        simp only [aun_not, Do_of, Bool.not_true, Gd3_false, if_true, afaddr, Nat.zero_add, l6 _ ha, abin_eql, abeq_def]
        rw [← hiff]
        simp only [beq_self_eq_true, Bool.not_true, JoinP_def, S.rabbetlaw11_CheckParts_k4, sl_zero, Gd3_false, if_true, aun_not, Do_of, S.rabbetlaw11_CheckParts_k3, Gd_true]
        refine ite_both (fun h => ?_) (fun h => ?_)
        · refine haw _ _ ?_
          simp only [Gd3_true, if_true, afaddr, Nat.zero_add, Do_of, l6 _ ha, abin_eql, abeq_def, Bool.false_eq_true, if_false]
          rw [← hiff]
          simpa using hQ H1
        · -- statements left out
          have ht : all = true := by simpa using h
          rw [ht] at hiff
          have hz : (progM kw p).2 = 0 := by simpa using hiff.symm
          obtain ⟨t, r, htr⟩ : ∃ t r, p.threads = t :: r := by
            cases hc : p.threads with
            | nil => rw [hc] at hn; simp at hn
            | cons t r => exact ⟨t, r, rfl⟩
          have htok := hp.2.2 t (by rw [htr]; simp)
          have hx0 : p.threads[0]? = some t := by rw [htr]; rfl
          simp only [JoinP_def, S.rabbetlaw11_CheckParts_k2, afaddr, pl0, pl1, Do_of]
          have ha0 : aiaddr none 1 (lstA thrCells p.threads) (.int .i64 0) = some (elA thrCells 1 p.threads 0) := lstA_addr (by rw [htr]; simp)
          rw [ha0]
          have hld : aload H1 1 false (elA thrCells 1 p.threads 0) = some (lstA GStmt.cells t) := one_load (c := fun l => lstA GStmt.cells l) H1 hx0
          simp only [Do_of, hld, aconv_int, lstA_len', abin_add]
          rw [wrap_i64 (n := n) (by omega) (by omega)]
          have hk : ∃ k : Nat, k ≤ t.length ∧ IntKind.wrap .i64 ((t.length : Int) + 1) ≠ 0 ∧ n.tmod (IntKind.wrap .i64 ((t.length : Int) + 1)) = k := by
            have hm := i64max
            by_cases hb : t.length = 9223372036854775807
            · have e : IntKind.wrap .i64 ((t.length : Int) + 1) = -9223372036854775808 := by rw [hb]; rfl
              refine ⟨n.toNat, by omega, by rw [e]; decide, ?_⟩
              rw [e, Int.tmod_neg, Int.tmod_eq_of_lt h0 (by omega)]; omega
            · have e : IntKind.wrap .i64 ((t.length : Int) + 1) = ((t.length + 1 : Nat) : Int) := by
                have := htok.1
                rw [wrap_i64 (by omega) (by omega)]; simp
              refine ⟨n.toNat % (t.length + 1), ?_, by rw [e]; omega, ?_⟩
              · have := Nat.mod_lt n.toNat (show 0 < t.length + 1 by omega); omega
              · rw [e, Int.tmod_eq_emod_of_nonneg h0]
                have : n = ((n.toNat : Nat) : Int) := by omega
                rw [this]; rfl
          obtain ⟨k, hk1, hk2, hk3⟩ := hk
          rw [abin_rem _ _ _ hk2, hk3]
          simp only [Do_of]
          rw [slice_take GStmt.len hk1]
          simp only [Do_of]
          rw [show abslice H1 false 1 1 [.lst .nil 0 []] [(0, 1, lstA GStmt.cells (t.take k))] = some (.lst .full 1 [lstA GStmt.cells (t.take k)], H1) from rfl]
          simp only [DoH_some]
          rw [show abuild [.lst .nil 0 [], .lst .nil 0 []] [(0, 1, lstA GVar.cells p.vars), (1, 1, .lst .full 1 [lstA GStmt.cells (t.take k)])] = some (.agg [lstA GVar.cells p.vars, .lst .full 1 [lstA GStmt.cells (t.take k)]]) from rfl]
          simp only [Do_of, abox, if_true, DoH_some]
          refine ⟨trivial, ?_⟩
          rw [store_new _ _ _ 2 rfl rfl rfl]
          simp only [Do_of, load_push]
          rw [takeCells_whole (n := 2) rfl]
          simp only [Do_of]
          have hs : (GProg.mk p.vars [t.take k]).ok := by
            refine ⟨hp.1, ?_, fun t' ht' => ?_⟩
            · show 1 ≤ maxLen; rw [i64max]; omega
            · simp at ht'
              subst ht'
              exact ⟨by have := htok.1; rw [List.length_take]; omega, fun y hy => htok.2 y (List.mem_of_mem_take hy)⟩
          refine ACall.weak_args ?_
          have hw : AV.weaks [AV.agg [lstA GVar.cells p.vars, .lst .full 1 [lstA GStmt.cells (t.take k)]]] = [.agg (GProg.mk p.vars [t.take k]).cells] := by
            simp only [AV.weaks, AV.weak, lstA_weak GVar.weakC, lstA_weak GStmt.weakC]; rfl
          rw [hw]
          refine prog_val hGT hT hkw _ hs _ _ ?_
          have hpz := parts_short kw p htr hz k
          simp only [progV, afield]
          rw [show takeCells [.int .i64 (progM kw ⟨p.vars, [t.take k]⟩).1, .int .i64 (progM kw ⟨p.vars, [t.take k]⟩).2] 1 1 false = some (.int .i64 (progM kw ⟨p.vars, [t.take k]⟩).2) from rfl]
          simp only [Do_of, abin_eql, hpz]
          simpa using hQ _
      | cons t r ih =>
        intro i all H1 hd ha he
        obtain ⟨hlt, hx, hd'⟩ := drop_cons_lt hd
        have htok := hp.2.2 t (List.mem_of_getElem? hx)
        have hlen : p.threads.length ≤ 8 := by omega
        refine LoopP.step ?_
        simp only [S.rabbetlaw11_CheckParts_l6, sl_zero, sl_succ, afaddr, pl0, pl1, Do_of, lstA_len', abin_lss, Gd_true]
        rw [if_pos (by simp only [decide_eq_true_eq]; omega)]
        simp only [abin_add, Do_of]
        rw [wrap_i64 (by omega) (by omega), show ((i : Int) + 1) = ((i + 1 : Nat) : Int) by simp]
        have hsl : aslice 1 (lstA thrCells p.threads) (some (.int .i64 i)) (some (.int .i64 ((i + 1 : Nat) : Int))) none = some (lstA thrCells [t]) := slice_one (c := fun l => lstA GStmt.cells l) hx
        rw [hsl]
        simp only [Do_of]
        rw [show abuild [.lst .nil 0 [], .lst .nil 0 []] [(0, 1, lstA GVar.cells p.vars), (1, 1, lstA thrCells [t])] = some (.agg (GProg.mk p.vars [t]).cells) from rfl]
        simp only [Do_of, abox, if_true, DoH_some]
        refine ⟨trivial, trivial, ?_⟩
        rw [store_new _ _ _ 2 rfl rfl rfl]
        have a2 := ha.push (.row (GProg.mk p.vars [t]).cells)
        have hld : aload (H1.push (.row (GProg.mk p.vars [t]).cells)) 2 true (.ptr H1.n 0) = some (.agg (GProg.mk p.vars [t]).cells) := by rw [load_push]; exact takeCells_whole rfl
        simp only [Do_of, hld]
        have next : ∀ (b : Bool), b = ((p.threads.take (i + 1)).all (fun t => (progM kw ⟨p.vars, [t]⟩).2 == 0)) →
            JoinP (S.rabbetlaw11_CheckParts_k1 (ACall C) ([.bool all, .int .i64 i], H1) (LoopP (S.rabbetlaw11_CheckParts_l6 (ACall C) (.int .u8 n) (.fptr p.cells) (.ptr id6 0) Q)) Q) [.bool b] (H1.push (.row (GProg.mk p.vars [t]).cells)) := by
          intro b hb
          simp only [JoinP_def, S.rabbetlaw11_CheckParts_k1, sl_zero, sl_succ, abin_add, Do_of]
          rw [wrap_i64 (by omega) (by omega), show ((i : Int) + 1) = ((i + 1 : Nat) : Int) by simp]
          exact ih (i + 1) b _ hd' a2 hb
        have hta : (p.threads.take (i + 1)).all (fun t => (progM kw ⟨p.vars, [t]⟩).2 == 0) = (all && (progM kw ⟨p.vars, [t]⟩).2 == 0) := by
          rw [List.take_add_one, hx, List.all_append, ← he]
          simp
        rw [hta] at next
        generalize H1.push (.row (GProg.mk p.vars [t]).cells) = H2 at *
        simp only [Gd3_true]
        refine ite_bool (fun h => ?_) (fun h => ?_)
        · have hs : (GProg.mk p.vars [t]).ok := ⟨hp.1, by show 1 ≤ maxLen; rw [i64max]; omega, fun t' ht' => by simp at ht'; subst ht'; exact htok⟩
          refine prog_val hGT hT hkw _ hs _ _ ?_
          simp only [progV, afield]
          rw [show takeCells [.int .i64 (progM kw ⟨p.vars, [t]⟩).1, .int .i64 (progM kw ⟨p.vars, [t]⟩).2] 1 1 false = some (.int .i64 (progM kw ⟨p.vars, [t]⟩).2) from rfl]
          simp only [Do_of, abin_eql]
          exact next _ (by rw [h]; rfl)
        · exact next _ (by rw [h]; rfl)
    exact main p.threads 0 true H8 rfl at6 rfl
  have k8 : ∀ b : Bool, (b = true ↔ (p.threads.length = 0 ∨ 8 < p.threads.length)) → JoinP (S.rabbetlaw11_CheckParts_k8 (ACall C) (.int .u8 n) (.fptr p.cells) (.ptr id6 0) Q) [.bool b] H8 := by
    intro b hb
    simp only [JoinP_def, S.rabbetlaw11_CheckParts_k8, sl_zero, Gd_true]
    refine ite_both (fun h => ?_) (fun h => ?_)
    · refine haw _ _ ?_
      simp only [Gd3_true, if_true, afaddr, Nat.zero_add, Do_of, l6 _ at6, abin_eql, parts_cap kw p (hb.1 h)]
      simpa using hQ _
    · exact k7 fun y => h (hb.2 y)
  refine ite_boolf (fun h => ?_) (fun h => ?_)
  · simp only [abin_gtr, Do_of]
    refine k8 _ ?_
    simp only [beq_eq_false_iff_ne, ne_eq] at h
    simp only [decide_eq_true_eq, gt_iff_lt]; omega
  · refine k8 _ ?_
    simp only [beq_iff_eq] at h
    simp only [true_iff]; omega
end

/-- How many statements, up to so many. -/
theorem places_spec {p : List (List GStmt)} (hl : p.length ≤ 9223372036854775807) (ht : ∀ t ∈ p, t.length ≤ 9223372036854775807) (hne : ∃ t ∈ p, t ≠ []) {Φ : Calls'} {H : AH} {Q : Post} (hQ : ∀ n : Int, n ≠ 0 → Q (.int .i64 n) H) :
    S.rabbetlaw11_places Φ (lstA thrCells p) (.int .i64 200) H Q := by
  unfold S.rabbetlaw11_places
  have main : ∀ (r : List (List GStmt)) (i : Nat) (n : Int), p.drop i = r → 0 ≤ n → n ≤ 200 → (n = 0 → ∃ t ∈ r, t ≠ []) → LoopP (S.rabbetlaw11_places_l5 Φ (lstA thrCells p) (.int .i64 200) Q) ([.int .i64 n, .int .i64 i], H) := by
    intro r
    induction r with
    | nil =>
      intro i n hd h0 h1 hn
      have hle := drop_nil_le hd
      refine LoopP.step ?_
      simp only [S.rabbetlaw11_places_l5, sl_zero, sl_succ, lstA_len', Do_of, abin_lss, Gd_true]
      rw [if_neg (by simp only [decide_eq_true_eq]; omega)]
      refine hQ n fun e => ?_
      obtain ⟨t, h, _⟩ := hn e
      cases h
    | cons t r ih =>
      intro i n hd h0 h1 hn
      obtain ⟨hlt, hx, hd'⟩ := drop_cons_lt hd
      have htl := ht t (List.mem_of_getElem? hx)
      refine LoopP.step ?_
      simp only [S.rabbetlaw11_places_l5, sl_zero, sl_succ, lstA_len', Do_of, abin_lss, Gd_true]
      rw [if_pos (by simp only [decide_eq_true_eq]; omega)]
      have inner : ∀ (q : List GStmt) (j : Nat) (m : Int), t.drop j = q → 0 ≤ m → m ≤ 200 → (m = 0 → (∃ t ∈ q :: r, t ≠ [])) →
          LoopP (S.rabbetlaw11_places_l4 Φ (lstA thrCells p) (.int .i64 200) ([.int .i64 n, .int .i64 i], H) (LoopP (S.rabbetlaw11_places_l5 Φ (lstA thrCells p) (.int .i64 200) Q)) Q) ([.int .i64 m, .int .i64 j], H) := by
        intro q
        induction q with
        | nil =>
          intro j m hd3 h0 h1 hm
          have hle := drop_nil_le hd3
          refine LoopP.step ?_
          simp only [S.rabbetlaw11_places_l4, sl_zero, sl_succ]
          rw [lstA_addr hlt]
          have hld : aload H 1 false (elA thrCells 1 p i) = some (lstA GStmt.cells t) := one_load (c := fun l => lstA GStmt.cells l) H hx
          simp only [Do_of, hld, lstA_len', abin_lss, Gd3_true]
          rw [if_neg (by simp only [decide_eq_true_eq]; omega)]
          simp only [JoinP_def, S.rabbetlaw11_places_k3, sl_zero, Gd_true, Bool.false_eq_true, if_false, S.rabbetlaw11_places_k2, sl_succ, abin_add, Do_of]
          rw [wrap_i64 (by omega) (by omega), show ((i : Int) + 1) = ((i + 1 : Nat) : Int) by simp]
          refine ih (i + 1) m hd' h0 h1 fun e => ?_
          obtain ⟨t', h, hne⟩ := hm e
          rcases List.mem_cons.1 h with rfl | h
          · exact absurd rfl hne
          · exact ⟨t', h, hne⟩
        | cons y q ih2 =>
          intro j m hd3 h0 h1 hm
          obtain ⟨hlt3, hx3, hd3'⟩ := drop_cons_lt hd3
          refine LoopP.step ?_
          simp only [S.rabbetlaw11_places_l4, sl_zero, sl_succ]
          rw [lstA_addr hlt]
          have hld : aload H 1 false (elA thrCells 1 p i) = some (lstA GStmt.cells t) := one_load (c := fun l => lstA GStmt.cells l) H hx
          simp only [Do_of, hld, lstA_len', abin_lss, Gd3_true]
          rw [if_pos (by simp only [decide_eq_true_eq]; omega)]
          simp only [JoinP_def, S.rabbetlaw11_places_k3, sl_zero, Gd_true]
          refine ite_both (fun h => ?_) (fun h => ?_)
          · have h' : m < 200 := by simpa using h
            simp only [S.rabbetlaw11_places_k1, sl_zero, sl_succ, abin_add, Do_of]
            rw [wrap_i64 (n := m + 1) (by omega) (by omega), wrap_i64 (n := (j : Int) + 1) (by omega) (by omega), show ((j : Int) + 1) = ((j + 1 : Nat) : Int) by simp]
            exact ih2 (j + 1) (m + 1) hd3' (by omega) (by omega) fun e => by omega
          · have h' : ¬ m < 200 := by simpa using h
            simp only [S.rabbetlaw11_places_k2, sl_zero, sl_succ, abin_add, Do_of]
            rw [wrap_i64 (by omega) (by omega), show ((i : Int) + 1) = ((i + 1 : Nat) : Int) by simp]
            exact ih (i + 1) m hd' h0 h1 fun e => by omega
      refine inner t 0 n rfl h0 h1 fun e => ?_
      exact hn e
  exact main p 0 0 rfl (by omega) (by omega) fun _ => hne

section
variable {C : Ctx} (hGT : GTok C) (hT : Cl (ACall C) S.tab_Chk) {kw : List UInt8 → Bool} (hkw : ∀ x, Val (ACall C) K.lex_Keyword [.str x] (.bool (kw x))) (haw : Val (ACall C) K.rabbetlaw11_awake [] (.bool true))
include hGT hT hkw haw
theorem CheckNames_spec {p : GProg} (hp : p.ok) (hz : kw z5 = false) (hsz : p.vars.length * 96 ≤ 140737488351232) {H : AH} {Q : Post} (hQ : ∀ H', Q (.bool true) H') : S.rabbetlaw11_CheckNames (ACall C) (.agg p.cells) H Q := by
  have pl0 : ∀ H, aload H 1 false (.fptr (p.cells.drop 0)) = some (lstA GVar.cells p.vars) := fun _ => rfl
  have pl1 : ∀ H, aload H 1 false (.fptr (p.cells.drop 1)) = some (lstA thrCells p.threads) := fun _ => rfl
  have pall : ∀ H, aload H 2 true (.fptr p.cells) = some (.agg p.cells) := fun _ => takeCells_whole rfl
  have hbox := pbox hGT hT hkw haw p H
  have hm := i64max
  unfold S.rabbetlaw11_CheckNames
  simp only [hbox, DoH_some, pall, Do_of]
  refine prog_val hGT hT hkw p hp _ _ ?_
  simp only [abox, if_true, DoH_some, progV]
  rw [store_new _ _ _ 2 rfl rfl rfl]
  have at6 := At.new H (.row [.int .i64 (progM kw p).1, .int .i64 (progM kw p).2])
  generalize H.push (.row [.int .i64 (progM kw p).1, .int .i64 (progM kw p).2]) = H8 at *
  generalize H.n = id6 at *
  simp only [Do_of, afaddr, pl0, pl1]
  rw [show abslice H8 false 7 0 [.str [], .int .i64 0, .int .i64 0, .bool false, .lst .nil 0 [], .int .i64 0, .lst .nil 0 []] [] = some (.lst .full 0 [], H8) from rfl]
  simp only [DoH_some, Do_of]
  rw [show abuild [.int .i64 0, .int .i64 0, .bool false, .lst .nil 0 [], .int .i64 0, .lst .nil 0 []] [(0, 1, .int .i64 1), (1, 1, .int .i64 1)] = some (.agg [.int .i64 1, .int .i64 1, .bool false, .lst .nil 0 [], .int .i64 0, .lst .nil 0 []]) from rfl]
  simp only [DoH_some, Do_of]
  rw [show abuild [.str [], .int .i64 0, .int .i64 0, .bool false, .lst .nil 0 [], .int .i64 0, .lst .nil 0 []] [(0, 1, .str [122, 122, 122, 122, 122]), (1, 6, .agg [.int .i64 1, .int .i64 1, .bool false, .lst .nil 0 [], .int .i64 0, .lst .nil 0 []])] = some (.agg [.str [122, 122, 122, 122, 122], .int .i64 1, .int .i64 1, .bool false, .lst .nil 0 [], .int .i64 0, .lst .nil 0 []]) from rfl]
  simp only [DoH_some, Do_of]
  rw [show abslice H8 false 7 1 [.str [], .int .i64 0, .int .i64 0, .bool false, .lst .nil 0 [], .int .i64 0, .lst .nil 0 []] [(0, 7, .agg [.str [122, 122, 122, 122, 122], .int .i64 1, .int .i64 1, .bool false, .lst .nil 0 [], .int .i64 0, .lst .nil 0 []])] = some (.lst .full 1 [.str [122, 122, 122, 122, 122], .int .i64 1, .int .i64 1, .bool false, .lst .nil 0 [], .int .i64 0, .lst .nil 0 []], H8) from rfl]
  simp only [DoH_some, Do_of]
  have hcl : (p.vars.flatMap GVar.cells).length = p.vars.length * 7 := flatMap_len GVar.len p.vars
  have hcs : (p.vars.flatMap GVar.cells).all AV.scalar = true := by
    rw [List.all_eq_true]
    intro c hc
    obtain ⟨v, _, hv⟩ := List.mem_flatMap.1 hc
    exact List.all_eq_true.1 v.scalar c hv
  -- the first append
  have key : ∃ l1 H20, aappend H8 false 7 96 (.lst .full 0 []) (lstA GVar.cells p.vars) = some (l1, H20) ∧ At H20 id6 (.row [.int .i64 (progM kw p).1, .int .i64 (progM kw p).2]) ∧
      ∃ tk, l1 = .lst tk p.vars.length (p.vars.flatMap GVar.cells) ∧ (tk = .full ∨ ∃ t, tk = .own t ∧ t < H20.n ∧ H20.o t = .tok (p.vars.length * 7) 7) := by
    have hy : acells H8 7 (lstA GVar.cells p.vars) = some (p.vars.length, p.vars.flatMap GVar.cells) := by
      simp only [lstA, acells]; rw [if_pos hcl]
    by_cases h0 : p.vars.length = 0
    · refine ⟨.lst .full 0 [], H8, ?_, at6, .full, ?_, .inl rfl⟩
      · simp only [aappend, hy, hcs, not_true_eq_false, if_false]
        rw [if_pos h0]
      · rw [List.length_eq_zero_iff.1 h0]; rfl
    · refine ⟨.lst (.own H8.n) (0 + p.vars.length) ([] ++ p.vars.flatMap GVar.cells), H8.push (.tok ((0 + p.vars.length) * 7) 7), ?_, at6.push _, .own H8.n, ?_, .inr ⟨H8.n, rfl, Nat.lt_succ_self _, ?_⟩⟩
      · simp only [aappend, hy, hcs, not_true_eq_false, if_false]
        rw [if_neg h0, if_neg (by simp only [Decidable.not_not]; exact ⟨rfl, by omega, by omega⟩)]
      · simp
      · rw [AH.push_self]; simp
  obtain ⟨l1, H20, e1, at20, tk, rfl, htk⟩ := key
  rw [e1]
  simp only [DoH_some, Do_of]
  refine ⟨trivial, ?_⟩
  have key2 : ∃ t2 H22, aappend H20 false 7 96 (.lst tk p.vars.length (p.vars.flatMap GVar.cells)) (.lst .full 1 [.str [122, 122, 122, 122, 122], .int .i64 1, .int .i64 1, .bool false, .lst .nil 0 [], .int .i64 0, .lst .nil 0 []]) =
        some (.lst (.own t2) (p.vars.length + 1) (p.vars.flatMap GVar.cells ++ [.str [122, 122, 122, 122, 122], .int .i64 1, .int .i64 1, .bool false, .lst .nil 0 [], .int .i64 0, .lst .nil 0 []]), H22) ∧ At H22 id6 (.row [.int .i64 (progM kw p).1, .int .i64 (progM kw p).2]) := by
    have hy : acells H20 7 (.lst .full 1 [.str [122, 122, 122, 122, 122], .int .i64 1, .int .i64 1, .bool false, .lst .nil 0 [], .int .i64 0, .lst .nil 0 []]) = some (1, [.str [122, 122, 122, 122, 122], .int .i64 1, .int .i64 1, .bool false, .lst .nil 0 [], .int .i64 0, .lst .nil 0 []]) := rfl
    have hs : [AV.str [122, 122, 122, 122, 122], .int .i64 1, .int .i64 1, .bool false, .lst .nil 0 [], .int .i64 0, .lst .nil 0 []].all AV.scalar = true := rfl
    rcases htk with rfl | ⟨t, rfl, h1, h2⟩
    · refine ⟨H20.n, H20.push (.tok ((p.vars.length + 1) * 7) 7), ?_, at20.push _⟩
      simp only [aappend, hy, hs, not_true_eq_false, if_false]
      rw [if_neg (by decide), if_neg (by simp only [Decidable.not_not]; exact ⟨hcl, by omega, by omega⟩)]
    · refine ⟨H20.n, (H20.set t .gone).push (.tok ((p.vars.length + 1) * 7) 7), ?_, ?_⟩
      · simp only [aappend, hy, hs, not_true_eq_false, if_false, h2]
        rw [if_neg (by decide), if_neg (by simp only [Decidable.not_not]; exact ⟨hcl, by omega, by omega⟩), if_pos (by simp)]
      · refine (at20.set_ne (fun e => ?_) _).push _
        subst e
        rw [at20.2] at h2; cases h2
  obtain ⟨t2, H22, e2, at22⟩ := key2
  rw [e2]
  simp only [DoH_some, Do_of]
  refine ⟨trivial, ?_⟩
  generalize hq : [AV.lst (.own t2) (p.vars.length + 1) (p.vars.flatMap GVar.cells ++ [.str [122, 122, 122, 122, 122], .int .i64 1, .int .i64 1, .bool false, .lst .nil 0 [], .int .i64 0, .lst .nil 0 []]), lstA thrCells p.threads] = qc
  have hbq : abuild [.lst .nil 0 [], .lst .nil 0 []] [(0, 1, .lst (.own t2) (p.vars.length + 1) (p.vars.flatMap GVar.cells ++ [.str [122, 122, 122, 122, 122], .int .i64 1, .int .i64 1, .bool false, .lst .nil 0 [], .int .i64 0, .lst .nil 0 []])), (1, 1, lstA thrCells p.threads)] = some (.agg qc) := by rw [← hq]; rfl
  have hqw : AV.weaks [AV.agg qc] = [.agg (GProg.mk (p.vars ++ [zVar]) p.threads).cells] := by
    rw [← hq]
    have hv : AV.weaks (p.vars.flatMap GVar.cells) = p.vars.flatMap GVar.cells := by
      have := lstA_weak GVar.weakC p.vars
      simp only [lstA, AV.weak] at this
      exact AV.lst.inj this |>.2.2
    simp only [AV.weaks, AV.weak, weaks_app, hv, lstA_weak thr_weak]
    simp only [GProg.cells, lstA, List.length_append, List.length_singleton, List.flatMap_append, List.flatMap_cons, List.flatMap_nil, List.append_nil]
    rfl
  have hql : qc.length = 2 := by rw [← hq]; rfl
  have hqs : qc.all AV.scalar = true := by rw [← hq]; rfl
  have hq0 : takeCells qc 0 1 false = some (.lst (.own t2) (p.vars.length + 1) (p.vars.flatMap GVar.cells ++ [.str [122, 122, 122, 122, 122], .int .i64 1, .int .i64 1, .bool false, .lst .nil 0 [], .int .i64 0, .lst .nil 0 []])) := by rw [← hq]; rfl
  rw [hbq]
  simp only [DoH_some, Do_of]
  refine ⟨trivial, trivial, ?_⟩
  rw [store_new _ _ _ 2 hql hqs rfl]
  simp only [Do_of]
  have at24 := At.new H22 (.row qc)
  have at6' := at22.push (.row qc)
  generalize H22.push (.row qc) = H26 at *
  generalize H22.n = id24 at *
  have main : ∀ (r : List GVar) (i : Nat), p.vars.drop i = r → (∀ v ∈ p.vars.take i, v.name ≠ z5) → LoopP (S.rabbetlaw11_CheckNames_l5 (ACall C) (.fptr p.cells) (.ptr id6 0) (.ptr id24 0) Q) ([.int .i64 i], H26) := by
    intro r
    induction r with
    | nil =>
      intro i hd hn
      have hle := drop_nil_le hd
      rw [List.take_of_length_le hle] at hn
      refine LoopP.step ?_
      simp only [S.rabbetlaw11_CheckNames_l5, sl_zero, afaddr, pl0, Do_of, lstA_len', abin_lss, Gd_true]
      rw [if_neg (by simp only [decide_eq_true_eq]; omega)]
      simp only [JoinP_def, S.rabbetlaw11_CheckNames_k4]
      rw [at24.load, takeCells_whole hql]
      simp only [Do_of]
      refine ACall.weak_args ?_
      rw [hqw]
      have hqok : (GProg.mk (p.vars ++ [zVar]) p.threads).ok := by
        refine ⟨⟨?_, fun v hv => ?_⟩, hp.2⟩
        · show (p.vars ++ [zVar]).length ≤ maxLen
          rw [List.length_append, List.length_singleton, i64max]; omega
        · rcases List.mem_append.1 hv with h | h
          · exact hp.1.2 v h
          · simp at h
            subst h
            refine ⟨by show 5 ≤ maxLen; rw [i64max]; omega, ⟨by decide, by decide⟩, ⟨by decide, by decide⟩, by show 0 ≤ maxLen; omega, trivial, ⟨by decide, by decide⟩, by show 0 ≤ maxLen; omega, trivial⟩
      refine prog_val hGT hT hkw _ hqok _ _ ?_
      have law := names_law kw hz p hn
      generalize progM kw ⟨p.vars ++ [zVar], p.threads⟩ = g at *
      obtain ⟨g1, g2⟩ := g
      simp only [progV, abox, if_true, DoH_some]
      rw [store_new _ _ _ 2 rfl rfl rfl]
      have at47 := At.new H26 (.row [.int .i64 g1, .int .i64 g2])
      have b6 := at6'.push (.row [.int .i64 g1, .int .i64 g2])
      have b24 := at24.push (.row [.int .i64 g1, .int .i64 g2])
      generalize H26.push (.row [.int .i64 g1, .int .i64 g2]) = H49 at *
      generalize H26.n = id47 at *
      have m1 : aload H49 1 false (.ptr id47 1) = some (.int .i64 g2) := by rw [at47.load]; rfl
      have m0 : aload H49 1 false (.ptr id47 0) = some (.int .i64 g1) := by rw [at47.load]; rfl
      have mall : aload H49 2 true (.ptr id47 0) = some (.agg [.int .i64 g1, .int .i64 g2]) := by rw [at47.load]; exact takeCells_whole rfl
      have f1 : aload H49 1 false (.ptr id6 1) = some (.int .i64 (progM kw p).2) := by rw [b6.load]; rfl
      have fall : aload H49 2 true (.ptr id6 0) = some (.agg [.int .i64 (progM kw p).1, .int .i64 (progM kw p).2]) := by rw [b6.load]; exact takeCells_whole rfl
      have q0 : aload H49 1 false (.ptr id24 0) = some (.lst (.own t2) (p.vars.length + 1) (p.vars.flatMap GVar.cells ++ [.str [122, 122, 122, 122, 122], .int .i64 1, .int .i64 1, .bool false, .lst .nil 0 [], .int .i64 0, .lst .nil 0 []])) := by rw [b24.load]; exact hq0
      have k1 : (progM kw p = (g1, g2) ∨ ((progM kw p).2 = 6 ∧ ∃ t ∈ p.threads, t ≠ [])) → JoinP (S.rabbetlaw11_CheckNames_k1 (ACall C) (.fptr p.cells) (.ptr id6 0) (.ptr id47 0) Q) [] H49 := by
        intro hl
        simp only [JoinP_def, S.rabbetlaw11_CheckNames_k1]
        refine haw _ _ ?_
        simp only [Gd3_true, if_true, fall, mall, Do_of]
        have he : aeqAgg false [.n, .n] (.agg [.int .i64 (progM kw p).1, .int .i64 (progM kw p).2]) (.agg [.int .i64 g1, .int .i64 g2]) = some (.bool ((progM kw p).1 == g1 && (progM kw p).2 == g2)) := by
          simp [aeqAgg, eqCells]
        rw [he]
        simp only [Do_of, Gd3_false]
        refine ite_boolf (fun h => ?_) (fun h => ?_)
        · rcases hl with hl | ⟨hl, hne⟩
          · rw [hl] at h; simp at h
          · simp only [afaddr, Nat.zero_add, f1, Do_of, abin_eql, hl, Gd3_true, pl1]
            rw [if_pos (by decide)]
            refine S.cl_rabbetlaw11_places hT (places_spec (by have := hp.2.1; omega) (fun t ht => by have := (hp.2.2 t ht).1; omega) hne fun n hn => ?_)
            simp only [abin_neq, Do_of]
            have : (n != 0) = true := by simpa using hn
            rw [this]
            exact hQ _
        · exact hQ _
      have k2 : ∀ b : Bool, (b = false → (progM kw p = (g1, g2) ∨ ((progM kw p).2 = 6 ∧ ∃ t ∈ p.threads, t ≠ []))) → JoinP (S.rabbetlaw11_CheckNames_k2 (ACall C) (.fptr p.cells) (.ptr id6 0) (.ptr id47 0) Q) [.bool b] H49 := by
        intro b hb
        simp only [JoinP_def, S.rabbetlaw11_CheckNames_k2, sl_zero, Gd_true]
        refine ite_bool (fun h => ?_) (fun h => ?_)
        · exact haw _ _ (hQ _)
        · exact k1 (hb h)
      have k3 : ∀ b : Bool, (b = false → ((g2 = 9 ∧ g1 = 0) ∨ progM kw p = (g1, g2) ∨ ((progM kw p).2 = 6 ∧ ∃ t ∈ p.threads, t ≠ []))) → JoinP (S.rabbetlaw11_CheckNames_k3 (ACall C) (.fptr p.cells) (.ptr id6 0) (.ptr id47 0) Q) [.bool b] H49 := by
        intro b hb
        simp only [JoinP_def, S.rabbetlaw11_CheckNames_k3, sl_zero, Gd3_false, afaddr, Nat.zero_add, Nat.add_zero, m1, m0, Do_of, abin_eql, Gd3_true]
        refine ite_boolf (fun h => ?_) (fun h => ?_)
        · refine ite_bool (fun h9 => ?_) (fun h9 => ?_)
          · refine k2 _ fun hf => ?_
            rcases hb h with ⟨_, h1⟩ | h1
            · rw [h1] at hf; cases hf
            · exact h1
          · refine k2 _ fun _ => ?_
            rcases hb h with ⟨h1, _⟩ | h1
            · rw [h1] at h9; cases h9
            · exact h1
        · exact k2 _ fun hf => by cases hf
      simp only [Do_of, afaddr, Nat.zero_add, Nat.add_zero, m1, abin_eql, Gd3_true]
      refine ite_bool (fun h => ?_) (fun h => ?_)
      · simp only [q0, Do_of]
        have ln : ∀ tk n cs, alen false (.lst tk n cs) = some (.int .i64 n) := fun _ _ _ => rfl
        rw [ln]
        simp only [Do_of, abin_gtr]
        refine k3 _ fun hf => ?_
        rcases law with ⟨_, h2⟩ | h2 | h2
        · simp only [decide_eq_false_iff_not, gt_iff_lt] at hf
          omega
        · exact .inl h2
        · exact .inr h2
      · refine k3 _ fun _ => ?_
        rcases law with ⟨h1, _⟩ | h2 | h2
        · simp only at h1
          rw [h1] at h; cases h
        · exact .inl h2
        · exact .inr h2
    | cons v r ih =>
      intro i hd hn
      obtain ⟨hlt, hx, hd'⟩ := drop_cons_lt hd
      refine LoopP.step ?_
      simp only [S.rabbetlaw11_CheckNames_l5, sl_zero, afaddr, pl0, Do_of, lstA_len', abin_lss, Gd_true]
      rw [if_pos (by simp only [decide_eq_true_eq]; omega), lstA_addr hlt]
      have hname : aload H26 1 false (.fptr (((p.vars.flatMap GVar.cells).drop (i * 7)).drop 0)) = some (.str v.name) := by
        show takeCells _ 0 1 false = _
        rw [List.drop_zero, flatMap_drop GVar.len]
        have hd2 : p.vars.drop i = v :: p.vars.drop (i + 1) := by rw [hd, hd']
        rw [hd2, List.flatMap_cons, GVar.cells]
        rfl
      simp only [Do_of, elA, afaddr, hname, abin_streq', Gd_true]
      refine ite_both (fun h => ?_) (fun h => ?_)
      · exact haw _ _ (hQ _)
      · simp only [abin_add, Do_of]
        rw [wrap_i64 (by omega) (by omega), show ((i : Int) + 1) = ((i + 1 : Nat) : Int) by simp]
        refine ih (i + 1) hd' fun w hw => ?_
        rw [List.take_add_one, hx] at hw
        rcases List.mem_append.1 hw with hw | hw
        · exact hn w hw
        · simp at hw
          subst hw
          intro e
          rw [e] at h
          exact h (by decide)
  exact main p.vars 0 rfl fun v hv => by simp at hv
end
end Rb

/- Which texts are keywords. -/
set_option linter.unusedVariables false
set_option linter.unusedSimpArgs false
set_option linter.unusedSectionVars false
namespace Rb
open Go
def kwTextX : List UInt8 := [118, 97, 114, 32, 116, 104, 114, 101, 97, 100, 32, 115, 116, 114, 117, 99, 116, 32, 117, 110, 105, 111, 110, 32, 112, 97, 99, 107, 101, 100, 32, 117, 56, 32, 117, 49, 54, 32, 117, 51, 50, 32, 117, 54, 52, 32, 97, 56, 32, 97, 49, 54, 32, 97, 51, 50, 32, 97, 54, 52, 32, 97, 49, 50, 56, 32, 108, 101, 116, 32, 115, 101, 116, 32, 119, 114, 105, 116, 101, 32, 115, 116, 111, 114, 101, 32, 108, 111, 97, 100, 50, 32, 115, 116, 111, 114, 101, 50, 32, 102, 101, 110, 99, 101, 32, 105, 102, 32, 101, 108, 115, 101, 32, 119, 104, 105, 108, 101, 32, 112, 114, 105, 110, 116, 32, 114, 101, 97, 100, 32, 108, 111, 97, 100, 32, 97, 100, 100, 32, 115, 119, 97, 112, 32, 99, 97, 115, 32, 114, 108, 120, 32, 97, 99, 113, 32, 114, 101, 108, 32, 115, 99]
def kwsX : List (List UInt8) := [[118, 97, 114], [116, 104, 114, 101, 97, 100], [115, 116, 114, 117, 99, 116], [117, 110, 105, 111, 110], [112, 97, 99, 107, 101, 100], [117, 56], [117, 49, 54], [117, 51, 50], [117, 54, 52], [97, 56], [97, 49, 54], [97, 51, 50], [97, 54, 52], [97, 49, 50, 56], [108, 101, 116], [115, 101, 116], [119, 114, 105, 116, 101], [115, 116, 111, 114, 101], [108, 111, 97, 100, 50], [115, 116, 111, 114, 101, 50], [102, 101, 110, 99, 101], [105, 102], [101, 108, 115, 101], [119, 104, 105, 108, 101], [112, 114, 105, 110, 116], [114, 101, 97, 100], [108, 111, 97, 100], [97, 100, 100], [115, 119, 97, 112], [99, 97, 115], [114, 108, 120], [97, 99, 113], [114, 101, 108], [115, 99]]
def kwX (s : List UInt8) : Bool := kwsX.any fun x => s == x
theorem kwX_z5 : kwX z5 = false := by rfl
section
variable {C : Ctx} (hGT : GTok C) (hT : Cl (ACall C) S.tab_Chk)
include hGT hT
theorem Keyword_val (hF : ∀ (H : AH) (Q : Post), Q (.lst .dead 34 (kwsX.map .str)) H → ACall C K.strings_Fields [.str kwTextX] H Q) (s : List UInt8) : Val (ACall C) K.lex_Keyword [.str s] (.bool (kwX s)) := by
  intro H Q hQ
  refine S.cl_lex_Keyword hT ?_
  unfold S.lex_Keyword
  refine hF _ _ ?_
  refine Contains_gen hT (xs := kwsX) rfl (fun i x hx => ?_) (by decide) hQ
  have hlt := (List.getElem?_eq_some_iff.1 hx).1
  refine ⟨.fptr ((kwsX.map AV.str).drop (i * 1)), ?_, ?_⟩
  · simp only [aiaddr]
    have hl : kwsX.length = 34 := rfl
    rw [if_pos ⟨by omega, by omega⟩]
    simp
  · show takeCells _ 0 1 false = _
    unfold takeCells
    rw [if_pos (by rw [List.length_drop, List.length_map]; omega)]
    simp [hx]
end
end Rb

/- How long the lists of an argument may be: the reach of the form. -/
set_option linter.unusedVariables false
set_option linter.unusedSimpArgs false
namespace Rb
open Go Go.RowKit

theorem VR.lst_len {F : FTab} {w : World} {G : Ghost} {tk : Tok} {n : Nat} {cs : List AV} {a : Option Addr} {m c : Nat} (h : VR F w G (.lst tk n cs) (.slice a m c)) : n = m := by
  cases h <;> rfl

section
variable {H : Type} {enc : TypeId × Value → H} {P : Program} {w : World} {sp : Nat → Bool} {held : Bool} {F : FTab} {G : Ghost}
/-- A struct's first field, a slice: what it takes lies within the reach. -/
theorem first_reach {tP sV tV : TypeId} {fP : Array Field} (hP : P.underlying tP = some (.struct fP)) {L : List (TypeId × Nat)} (lP : fP.toList.map (fun f => (f.type, f.offset)) = (sV, 0) :: L) (slV : P.underlying sV = some (.slice tV)) (csV : P.cellsOf sV = 1)
    {v : Value} {d : DataW H} {ps : List MemPlace} (hd : DataW.Trod enc P w 0 sp held tP v d ps) (hw : ∀ n ∈ d.weights P tP, n ≤ reachBytes) {α : Type} {cells : α → List AV} {xs : List α} {r : List AV} (hv : VRs F w G (lstA cells xs :: r) v.cells) : xs.length * P.bytesOf tV ≤ reachBytes := by
  obtain ⟨fuel, hf⟩ := hd
  obtain ⟨ys, m, _, hx, hlen, hyl, hfs⟩ := DataW.trod_struct hP hf
  obtain ⟨f0, fr, hfl⟩ : ∃ f0 fr, fP.toList = f0 :: fr := by
    cases h : fP.toList with
    | nil => rw [h] at lP; simp at lP
    | cons f0 fr => exact ⟨f0, fr, rfl⟩
  rw [hfl] at lP
  simp only [List.map_cons, List.cons.injEq, Prod.mk.injEq] at lP
  obtain ⟨⟨ht0, ho0⟩, _⟩ := lP
  have hf0 : fP[0]? = some f0 := by
    have := congrArg (fun l => l[0]?) hfl
    simpa using this
  have h0 := hfs 0 f0 hf0
  rw [ht0, ho0, csV, List.drop_zero] at h0
  have hsz : 0 < ys.length := by
    rw [hyl, ← Array.length_toList, hfl]; simp
  rw [List.getElem?_eq_getElem hsz] at h0
  -- the first cell
  obtain ⟨hl, hvv⟩ := hv
  have hcs : 0 < v.cells.size := by rw [← hl]; simp
  have hV := hvv 0 _ v.cells[0] rfl (by rw [Array.getElem?_eq_getElem hcs])
  have htk : v.cells.toList.take 1 = [v.cells[0]] := by
    have hl2 : 0 < v.cells.toList.length := by simpa using hcs
    have one : ∀ (l : List Value) (h : 0 < l.length), l.take 1 = [l[0]] := by
      intro l h
      cases l with
      | nil => simp at h
      | cons x r => rfl
    rw [one _ hl2]
    simp
  rw [htk] at h0
  generalize v.cells[0] = V at *
  rcases DataW.trod_slice slV h0 with ⟨e, _⟩ | ⟨a, len, cap, elems, rest, k, _, e, ex, _, _, _, hel, _⟩
  · simp only [List.cons.injEq, and_true] at e
    subst e
    have := hV.lst_len
    rw [this]; simp
  · simp only [List.cons.injEq, and_true] at e
    subst e
    have hn := hV.lst_len
    rw [hn, ← hel]
    have hd : d = .agg (ys.map (·.1)) := congrArg Prod.fst hx
    have hmem : (elems.length + rest.length) * P.bytesOf tV ∈ d.weights P tP := by
      rw [hd]
      simp only [DataW.weights, hP]
      refine DataW.weights_mem_each (j := 0) (t := sV) (d := .slice (elems.map (·.1)) (rest.map (·.1))) ?_ ?_ _ ?_
      · rw [hfl]; simp [ht0]
      · rw [List.getElem?_map, List.getElem?_eq_getElem hsz, ex]; rfl
      · simp only [DataW.weights, slV]; simp
    have := hw _ hmem
    rw [Nat.add_mul] at this
    omega
end
end Rb

/- Law 11: CheckParts, CheckNames. -/
set_option linter.unusedVariables false
namespace Go.Proofs.YtbdhmikigkgoiaaDoor.rb
open Rb
theorem awake11 : Val (ACall C) K.rabbetlaw11_awake [] (.bool true) := fun H Q hQ => RbM11_rootok0 K.rabbetlaw11_awake [] (.bool true) rfl H Q hQ
theorem fieldsOK (H : AH) (Q : Post) (hQ : Q (.lst .dead 34 (kwsX.map .str)) H) : ACall C K.strings_Fields [.str kwTextX] H Q := RbM110_ok K.strings_Fields [.str kwTextX] _ (by kernel_rfl) H Q hQ
theorem kwOK (s : List UInt8) : Val (ACall C) K.lex_Keyword [.str s] (.bool (kwX s)) := Keyword_val gtC cl_Chk fieldsOK s
theorem checkParts.any (p : GProg) (hp : p.ok) (n : Int) (h0 : 0 ≤ n) (h1 : n ≤ 255) : ACall C K.rabbetlaw11_CheckParts [.agg p.cells, .int .u8 n] AH.mt (fun v _ => v = .bool true) :=
  S.cl_rabbetlaw11_CheckParts cl_Chk (CheckParts_spec gtC cl_Chk kwOK awake11 hp h0 h1 fun _ => rfl)
theorem checkNames.any (p : GProg) (hp : p.ok) (hz : p.vars.length * 96 ≤ Go.reachBytes) : ACall C K.rabbetlaw11_CheckNames [.agg p.cells] AH.mt (fun v _ => v = .bool true) :=
  S.cl_rabbetlaw11_CheckNames cl_Chk (CheckNames_spec gtC cl_Chk kwOK awake11 hp kwX_z5 hz fun _ => rfl)
end Go.Proofs.YtbdhmikigkgoiaaDoor.rb

/- What all laws of the seat share: the variables that the text of the program lays. By wrap.py. -/
set_option linter.unusedVariables false
namespace Go.Proofs.YtbdhmikigkgoiaaDoor.rb
open Rb Go.ChangeShapes Go.WideShapes Go.ChangeAt Go.RowKit

theorem own : ownKnob Tryd.prog.godebug = none := by kernel_rfl
theorem laidOut : laidOutB Tryd.prog = true := by kernel_rfl
theorem gT : Tryd.prog.globalNamed "strings.asciiSpace" = some 0 := by kernel_rfl
theorem gTType : (Tryd.prog.globals[0]?).map (·.type) = some 92 := by kernel_rfl
theorem cellsU : Tryd.prog.cellsOf 5 = 1 := by kernel_rfl
theorem cellsT : Tryd.prog.cellsOf 92 = 256 := by kernel_rfl
def laidVars : List (String × DataW Unit) := Rows.checkPlacesRow.laid

theorem tab_eq : (Rows.laid_strings_asciiSpace : DataW Unit) = Go.Lib.tabData .u8 Go.Lib.asciiSpaceTab := by kernel_rfl
theorem tab_mem : (("strings.asciiSpace", Go.Lib.tabData .u8 Go.Lib.asciiSpaceTab) : String × DataW Unit) ∈ laidVars := by
  rw [← tab_eq]; exact .tail _ (.head _)
theorem tab_of {W : World} (h : laidMet Tryd.prog laidVars W) : Go.Lib.TabIs Tryd.prog W "strings.asciiSpace" .u8 Go.Lib.asciiSpaceTab := by
  obtain ⟨g', t', cs, fuel, p, hg', ht', hvar, hd⟩ := Go.Lib.laidMet.reads h tab_mem
  obtain rfl := Option.some.inj (gT.symm.trans hg')
  obtain rfl := Option.some.inj (gTType.symm.trans ht')
  unfold Go.Lib.TabIs
  rw [hvar, ← Go.Lib.cells_of_tab Tryd.underlying92 Tryd.underlying5 cellsU cellsT hd]

theorem gok {W : World} (h : laidMet Tryd.prog laidVars W) : GOK C W (Ghost.mt (allFz W)) := by
  intro g l hg
  have ht := tab_of h
  change gt g = some l at hg
  unfold gt at hg
  split at hg
  · rename_i e
    subst e
    cases hg
    rw [asciiSpace_eq]
    exact fptr_of_tab fun i hi => ht.cell gT i hi
  · cases hg

/-- A world in which the variables hold what their initialisers lay. -/
noncomputable def laidWorld (os : Os) : World :=
  let N := (World.settled Tryd.prog os).heap.size
  let w0 := World.holding Tryd.prog os ⟨#[.cells #[.int .u16 9, .int .u16 13, .int .u16 1, .int .u16 32, .int .u16 133, .int .u16 101, .int .u16 160, .int .u16 5760, .int .u16 5600, .int .u16 8192, .int .u16 8202, .int .u16 1, .int .u16 8232, .int .u16 8233, .int .u16 1, .int .u16 8239, .int .u16 8287, .int .u16 48, .int .u16 12288, .int .u16 12288, .int .u16 1] 123, .cells #[.slice (some ⟨N + 0, 0, none⟩) 7 7, .slice none 0 0, .int .i64 2] 120], #[], []⟩
  let put (h : Array Obj) (g : Nat) (cs : Array Value) : Array Obj := h.modify g fun
    | .cells _ t frozen => .cells cs t frozen
    | o => o
  { w0 with heap := put (put (w0.heap) 1 #[.pointer (some ⟨N + 1, 0, none⟩)]) 0 #[.int .u8 0, .int .u8 0, .int .u8 0, .int .u8 0, .int .u8 0, .int .u8 0, .int .u8 0, .int .u8 0, .int .u8 0, .int .u8 1, .int .u8 1, .int .u8 1, .int .u8 1, .int .u8 1, .int .u8 0, .int .u8 0, .int .u8 0, .int .u8 0, .int .u8 0, .int .u8 0, .int .u8 0, .int .u8 0, .int .u8 0, .int .u8 0, .int .u8 0, .int .u8 0, .int .u8 0, .int .u8 0, .int .u8 0, .int .u8 0, .int .u8 0, .int .u8 0, .int .u8 1, .int .u8 0, .int .u8 0, .int .u8 0, .int .u8 0, .int .u8 0, .int .u8 0, .int .u8 0, .int .u8 0, .int .u8 0, .int .u8 0, .int .u8 0, .int .u8 0, .int .u8 0, .int .u8 0, .int .u8 0, .int .u8 0, .int .u8 0, .int .u8 0, .int .u8 0, .int .u8 0, .int .u8 0, .int .u8 0, .int .u8 0, .int .u8 0, .int .u8 0, .int .u8 0, .int .u8 0, .int .u8 0, .int .u8 0, .int .u8 0, .int .u8 0, .int .u8 0, .int .u8 0, .int .u8 0, .int .u8 0, .int .u8 0, .int .u8 0, .int .u8 0, .int .u8 0, .int .u8 0, .int .u8 0, .int .u8 0, .int .u8 0, .int .u8 0, .int .u8 0, .int .u8 0, .int .u8 0, .int .u8 0, .int .u8 0, .int .u8 0, .int .u8 0, .int .u8 0, .int .u8 0, .int .u8 0, .int .u8 0, .int .u8 0, .int .u8 0, .int .u8 0, .int .u8 0, .int .u8 0, .int .u8 0, .int .u8 0, .int .u8 0, .int .u8 0, .int .u8 0, .int .u8 0, .int .u8 0, .int .u8 0, .int .u8 0, .int .u8 0, .int .u8 0, .int .u8 0, .int .u8 0, .int .u8 0, .int .u8 0, .int .u8 0, .int .u8 0, .int .u8 0, .int .u8 0, .int .u8 0, .int .u8 0, .int .u8 0, .int .u8 0, .int .u8 0, .int .u8 0, .int .u8 0, .int .u8 0, .int .u8 0, .int .u8 0, .int .u8 0, .int .u8 0, .int .u8 0, .int .u8 0, .int .u8 0, .int .u8 0, .int .u8 0, .int .u8 0, .int .u8 0, .int .u8 0, .int .u8 0, .int .u8 0, .int .u8 0, .int .u8 0, .int .u8 0, .int .u8 0, .int .u8 0, .int .u8 0, .int .u8 0, .int .u8 0, .int .u8 0, .int .u8 0, .int .u8 0, .int .u8 0, .int .u8 0, .int .u8 0, .int .u8 0, .int .u8 0, .int .u8 0, .int .u8 0, .int .u8 0, .int .u8 0, .int .u8 0, .int .u8 0, .int .u8 0, .int .u8 0, .int .u8 0, .int .u8 0, .int .u8 0, .int .u8 0, .int .u8 0, .int .u8 0, .int .u8 0, .int .u8 0, .int .u8 0, .int .u8 0, .int .u8 0, .int .u8 0, .int .u8 0, .int .u8 0, .int .u8 0, .int .u8 0, .int .u8 0, .int .u8 0, .int .u8 0, .int .u8 0, .int .u8 0, .int .u8 0, .int .u8 0, .int .u8 0, .int .u8 0, .int .u8 0, .int .u8 0, .int .u8 0, .int .u8 0, .int .u8 0, .int .u8 0, .int .u8 0, .int .u8 0, .int .u8 0, .int .u8 0, .int .u8 0, .int .u8 0, .int .u8 0, .int .u8 0, .int .u8 0, .int .u8 0, .int .u8 0, .int .u8 0, .int .u8 0, .int .u8 0, .int .u8 0, .int .u8 0, .int .u8 0, .int .u8 0, .int .u8 0, .int .u8 0, .int .u8 0, .int .u8 0, .int .u8 0, .int .u8 0, .int .u8 0, .int .u8 0, .int .u8 0, .int .u8 0, .int .u8 0, .int .u8 0, .int .u8 0, .int .u8 0, .int .u8 0, .int .u8 0, .int .u8 0, .int .u8 0, .int .u8 0, .int .u8 0, .int .u8 0, .int .u8 0, .int .u8 0, .int .u8 0, .int .u8 0, .int .u8 0, .int .u8 0, .int .u8 0, .int .u8 0, .int .u8 0, .int .u8 0, .int .u8 0, .int .u8 0, .int .u8 0, .int .u8 0, .int .u8 0, .int .u8 0, .int .u8 0, .int .u8 0, .int .u8 0, .int .u8 0, .int .u8 0, .int .u8 0, .int .u8 0, .int .u8 0, .int .u8 0, .int .u8 0, .int .u8 0, .int .u8 0] }
theorem laid_met (os : Os) (args : Array Value) : laidMet Tryd.prog laidVars ((laidWorld os).forCall (fun _ _ => 0) ⟨#[], args, []⟩).memory :=
  laidMet_of_run3 10 (by kernel_rfl) (by kernel_rfl) (by kernel_rfl)
theorem laid_shaped (os : Os) (args : Array Value) : ((laidWorld os).forCall (fun _ _ => 0) ⟨#[], args, []⟩).Shaped Tryd.prog := World.shaped_of_RefB (by kernel_rfl) (by kernel_rfl)
end Go.Proofs.YtbdhmikigkgoiaaDoor.rb

/- The api's types at the seat's numbers. By wrap.py. -/
set_option linter.unusedVariables false
namespace Go.Proofs.YtbdhmikigkgoiaaDoor.rb
open Rb
variable {H : Type} {enc : TypeId × Value → H} {w : World} {sp : Nat → Bool} {held : Bool} {F : FTab}
theorem tyOK : ∃ fT fF, TyOK Tryd.prog 3 4 9 29 57 27 26 fT fF := ⟨_, _, Tryd.underlying3, Tryd.underlying4, Tryd.underlying9, Tryd.underlying29, Tryd.underlying57, Tryd.underlying27, Tryd.underlying26, rfl, rfl, by kernel_rfl, by kernel_rfl, fun t ht => by
  simp only [List.mem_cons, List.not_mem_nil, or_false] at ht
  rcases ht with rfl | rfl | rfl | rfl | rfl <;> kernel_rfl⟩
theorem decType (n : Nat) : Dec F enc Tryd.prog w sp held n 29 GType.cells GType.ok := let ⟨_, _, h⟩ := tyOK; Dec_type h n
theorem exOK : ∃ fE fL fR, ExOK Tryd.prog 3 58 9 60 25 54 52 23 fE fL fR := ⟨_, _, _, Tryd.underlying3, Tryd.underlying58, Tryd.underlying9, Tryd.underlying60, Tryd.underlying25, Tryd.underlying54, Tryd.underlying52, Tryd.underlying23, rfl, rfl, rfl, by kernel_rfl, by kernel_rfl, by kernel_rfl, fun t ht => by
  simp only [List.mem_cons, List.not_mem_nil, or_false] at ht
  rcases ht with rfl | rfl | rfl | rfl | rfl <;> kernel_rfl⟩
theorem decPlace (n : Nat) : Dec F enc Tryd.prog w sp held n 25 GPlace.cells GPlace.ok := let ⟨_, _, _, h⟩ := exOK; (Dec_exprs h n).2.1
theorem decVar (n : Nat) : Dec F enc Tryd.prog w sp held n 46 GVar.cells GVar.ok := Dec_var Tryd.underlying9 (by kernel_rfl) (by kernel_rfl) decType Tryd.underlying46 rfl (by kernel_rfl) n
theorem decVars (n : Nat) : Dec F enc Tryd.prog w sp held n 22 (fun xs : List GVar => [lstA GVar.cells xs]) (fun xs => xs.length ≤ maxLen ∧ ∀ x ∈ xs, x.ok) := Dec.mono (Dec.slice Tryd.underlying22 (by kernel_rfl) (by decide) GVar.len (decVar n)) (Nat.le_succ n)
theorem decStmt (n : Nat) : Dec F enc Tryd.prog w sp held n 62 GStmt.cells GStmt.ok := let ⟨_, _, _, h⟩ := exOK; Dec_stmt h Tryd.underlying62 Tryd.underlying43 rfl (by kernel_rfl) (by kernel_rfl) n
theorem decProg (n : Nat) : Dec F enc Tryd.prog w sp held n 39 GProg.cells GProg.ok := Dec_prog decVar decStmt Tryd.underlying22 Tryd.underlying43 Tryd.underlying37 (by kernel_rfl) (by kernel_rfl) (by kernel_rfl) (by kernel_rfl) (by kernel_rfl) Tryd.underlying39 rfl (by kernel_rfl) n
end Go.Proofs.YtbdhmikigkgoiaaDoor.rb

set_option linter.unusedVariables false
set_option linter.unusedSimpArgs false
namespace Go.Proofs.YtbdhmikigkgoiaaDoor.rb.checkNames
open Rb Go.ChangeShapes Go.WideShapes Go.ChangeAt Go.RowKit

set_option maxRecDepth 100000 in
theorem lifted (os : Os) (started : os.Started) (H : Type) (enc : TypeId × Value → H) :
    ReturnsInHanded {} Tryd.checked os 6 .any (fun w args => (Rows.checkNamesSpec.pre enc Tryd.prog Tryd.f6 [] false w args ∧ laidMet Tryd.prog laidVars w) ∧ sizedMet enc Tryd.prog Tryd.f6 (OpenSpec.ofChange Rows.checkNamesSpec) false w args)
      (Rows.checkNamesSpec.post enc Tryd.prog Tryd.f6 false true false false) := by
  refine returnsInHanded_of_change_and (C := Tryd.checked) (X := fun w _ => laidMet Tryd.prog laidVars w) (fun _ _ _ hh h => h.of_heap hh) own started (by kernel_rfl) Tryd.func6
    (ChangeSpec.witness_shaped (enc := enc) (C := Tryd.checked) (os := os) (X := fun w _ => laidMet Tryd.prog laidVars w) false (laidWorld os) #[.agg #[.slice none 0 0, .slice none 0 0]] 8 rfl (laid_shaped os _) (by kernel_rfl) (by kernel_rfl) (by kernel_rfl) (laid_met os _)) ?_
  intro W base args ds gs before hval0 hW _ hsz hL _
  have hval : ∀ (j : Nat) t v, Tryd.f6.params[j]? = some t → args[j]? = some v → Value.okWide Tryd.prog W .any base t v := hval0
  have hW' := hW
  obtain ⟨p, q, hA0, hV0, rfl, hfz, hnd⟩ := hW
  have hA : DataW.TrodAll enc Tryd.prog W 0 (fun _ => true) true Tryd.f6.params.toList args.toList ds p := hA0
  have hV : DataW.TrodVars enc Tryd.prog W (fun _ => true) [] gs q := hV0
  rw [Tryd.params6] at hA hval
  obtain ⟨v0, d0, rfl, rfl, h0⟩ := trodAll_one hA
  obtain ⟨rfl, rfl⟩ : gs = [] ∧ q = [] := by
    cases gs with
    | nil => exact ⟨rfl, hV⟩
    | cons g r => exact absurd hV (by intro h; cases h)
  obtain ⟨c0, rfl, _⟩ := okWide_struct Tryd.underlying39 (hval 0 39 v0 rfl rfl)
  obtain ⟨x0, o0, k0⟩ := Dec.arg (F := C.F) decProg h0
  have z0 := first_reach Tryd.underlying39 rfl Tryd.underlying22 (by kernel_rfl) h0 (fun n hn => of_decide_eq_true (List.all_eq_true.1 hsz n (DataW.weights_mem_each (j := 0) rfl rfl n hn))) k0
  have y0 : Tryd.prog.bytesOf 46 = 96 := by kernel_rfl
  rw [y0] at z0
  refine (law_calls (C := C) (f := 6) (by kernel_rfl) (any x0 o0 z0) (gok hL) (VRs.one k0.agg)).mono fun e W' ⟨he, hbel⟩ => ?_
  subst he
  exact ⟨_, rfl, post_true (bt := 4) hW' laidOut (by kernel_rfl) (by kernel_rfl) (by kernel_rfl) Tryd.underlying4 rfl hbel⟩

theorem facts : joinedFacts Tryd.checked.prog 6 Tryd.f6 Rows.checkNamesSpec Rows.checkNamesRow = true := of_forced (by kernel_rfl)
theorem row : Rows.CheckNamesSaid :=
  OpenClaim.holds_of_wide 6 Tryd.f6 rfl rfl rfl rfl rfl rfl rfl ⟨rfl, rfl, rfl, rfl, rfl⟩ rfl rfl rfl rfl rfl (by kernel_rfl) Tryd.func6 facts
    (of_decide_eq_true (by kernel_rfl)) (by unfold Func.isWrapper; first | (rw [if_pos (by decide +kernel)]; kernel_rfl) | (rw [if_neg (by decide +kernel)]; exact ⟨rfl, rfl⟩))
    (fun os started H enc _ => lifted os started H enc)
end Go.Proofs.YtbdhmikigkgoiaaDoor.rb.checkNames
namespace Go.Proofs.YtbdhmikigkgoiaaDoor
open Go

theorem checkNames_holds : Rows.CheckNamesCardSaid :=
  Claim7.holds_tied_plain_at .later [] [.listed, .data] true (true, "fe79205d27e6a4c4e75f659dc7eb807d007b4b6c6878879a89c0fe886c43f2cd") false
    rb.checkNames.row (fun _ h => by cases h) (by kernel_rfl) (fun _ h => by cases h) checkNames_row_tie rfl ⟨rfl, rfl⟩ (by kernel_rfl) rfl
    (fun f fn hf hfn => by
      obtain rfl : f = 6 := Option.some.inj ((show Tryd.prog.funcNamed Rows.checkNamesRow.func = some 6 by kernel_rfl).symm.trans hf) |>.symm
      obtain rfl : fn = Tryd.f6 := (Option.some.inj (Tryd.func6.symm.trans hfn)).symm
      exact ⟨by kernel_rfl, fun j t ht => by
        rw [Tryd.params6] at ht
        rcases j with _ | j
        · obtain rfl : t = 39 := by simpa using ht.symm
          exact (show Tryd.prog.wantsStandIn 39 = false by kernel_rfl)
        · simp at ht⟩)
    (by kernel_rfl)
#print axioms checkNames_holds
end Go.Proofs.YtbdhmikigkgoiaaDoor
