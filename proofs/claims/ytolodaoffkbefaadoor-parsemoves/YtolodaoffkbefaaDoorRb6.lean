/- For every text of at most 100000 bytes and every number: lines ahead of it move its fault by so many, and each statement (law ParseMoves of chapter 9 returns true and leaves its arguments). No condition beyond the card's own. -/
import Derived.Test.YtolodaoffkbefaaDoorRb5
import Derived.Test.YtolodaoffkbefaaDoorRb3
import Derived.Test.YtolodaoffkbefaaDoorRb4
import Derived.Stop.LaidErr
import Derived.ChangeBears2
import Derived.Test.YtolodaoffkbefaaDoorRb2
import Derived.Test.YtolodaoffkbefaaDoorTie
import Derived.Test.YtolodaoffkbefaaDoorCards
/- Law 9: ParseWords, ParseMoves. -/
set_option linter.unusedVariables false
set_option linter.unusedSimpArgs false
set_option linter.unusedSectionVars false
namespace Rb
open Go
theorem two_rows {H : AH} {P F z1 z2 : List AV} (hP : P.length = 2) (hF : F.length = 2) (sP : P.all AV.scalar = true) (sF : F.all AV.scalar = true) (l1 : z1.length = 2) (l2 : z2.length = 2) {K : AV → AV → AH → Prop}
    (hK : ∀ H' i j, AH.Ext H H' → i ≠ j → At H' i (.row P) → At H' j (.row F) → K (.ptr i 0) (.ptr j 0) H') :
    DoH (some (abox H true z1)) fun x18 H19 => DoH (some (abox H19 true z2)) fun x20 H21 => Do (astore H21 2 x18 (.agg P)) fun H22 => Do (astore H22 2 x20 (.agg F)) fun H23 => K x18 x20 H23 := by
  simp only [abox, if_true, DoH_some]
  have a1 : At ((H.push (.row z1)).push (.row z2)) H.n (.row z1) := (At.new H _).push _
  have a2 : At ((H.push (.row z1)).push (.row z2)) (H.n + 1) (.row z2) := At.new (H.push _) _
  have hn : (H.push (.row z1)).n = H.n + 1 := rfl
  rw [hn]
  rw [a1.st (n := 2) (o := 0) (v := .agg P) rfl hP sP (by omega)]
  simp only [Do_of, AV.cells]
  rw [setCells_all (by omega)]
  have b1 := a1.set (.row (List.take 0 z1 ++ P))
  have b2 := a2.set_ne (i := H.n) (by omega) (.row (List.take 0 z1 ++ P))
  rw [b2.st (n := 2) (o := 0) (v := .agg F) rfl hF sF (by omega)]
  simp only [Do_of, AV.cells]
  rw [setCells_all (by omega)]
  refine hK _ H.n (H.n + 1) ?_ (by omega) (b1.set_ne (by omega) _) (b2.set _)
  exact ((((AH.Ext.push H _).trans (AH.Ext.push _ _)).set (Nat.le_refl _) _).set (Nat.le_succ _) _)
theorem thr_load (H : AH) {ts : List (List GStmt)} {i : Nat} {t : List GStmt} (hi : ts[i]? = some t) : aload H 1 false (elA thrCells 1 ts i) = some (lstA GStmt.cells t) := by
  have hlt := (List.getElem?_eq_some_iff.1 hi).1
  show takeCells _ 0 1 false = _
  rw [flatMap_drop (cells := thrCells) (sz := 1) (fun _ => rfl)]
  have hd : ts.drop i = t :: ts.drop (i + 1) := by
    rw [List.drop_eq_getElem_cons hlt]
    rw [List.getElem?_eq_getElem hlt] at hi
    simp at hi
    rw [hi]
  rw [hd, List.flatMap_cons]
  rfl
theorem st_line (H : AH) {ts : List GStmt} {i : Nat} {t : GStmt} (hi : ts[i]? = some t) : aload H 1 false (.fptr (((ts.flatMap GStmt.cells).drop (i * 10)).drop 1)) = some (.int .i64 t.line) := by
  have hlt := (List.getElem?_eq_some_iff.1 hi).1
  show takeCells _ 0 1 false = _
  rw [flatMap_drop GStmt.len]
  have hd : ts.drop i = t :: ts.drop (i + 1) := by
    rw [List.drop_eq_getElem_cons hlt]
    rw [List.getElem?_eq_getElem hlt] at hi
    simp at hi
    rw [hi]
  rw [hd, List.flatMap_cons, GStmt.cells_eq]
  rfl
section
variable {Φ : Calls'} {num kw : List UInt8 → Bool} {val : List UInt8 → Int} (hT : Cl Φ S.tab_Lex) (haw : Val Φ K.rabbetlaw09_awake [] (.bool true)) (hp : ∀ s, Val Φ K.parse_Prog [.str s] (progV (parseP num kw val s)))
include hT haw hp
theorem ParseMoves_spec (s : List UInt8) (n : Int) (h0 : 0 ≤ n) (h1 : n ≤ 255) {H : AH} {Q : Post} (hQ : ∀ H', Q (.bool true) H') : S.rabbetlaw09_ParseMoves Φ (.str s) (.int .u8 n) H Q := by
  unfold S.rabbetlaw09_ParseMoves
  simp only [alen_str, Do_of, abin_gtr, Gd_true]
  refine ite_both (fun hg => haw _ _ (hQ _)) (fun hg => ?_)
  have hs : s.length ≤ 100000 := by simp only [decide_eq_true_eq] at hg; omega
  obtain ⟨k, hk, hk8⟩ : ∃ k : Nat, n % 9 = k ∧ k ≤ 8 := ⟨(n % 9).toNat, by omega, by omega⟩
  have hrem : abin .rem (.int .u8 n) (.int .u8 9) = some (.int .u8 k) := by
    rw [abin_rem (k := .u8) (a := n) (b := 9) (by decide), Int.tmod_eq_emod_of_nonneg h0, hk]
  rw [hrem]
  simp only [Do_of, aconv_int]
  rw [wrap_i64 (by omega) (by omega)]
  -- behind the lines ahead
  have k8 : ∀ j : List AV, j = [.str (ahead k)] → JoinP (S.rabbetlaw09_ParseMoves_k8 Φ (.str s) (.int .i64 k) Q) j H := by
    intro j hj
    subst hj
    simp only [JoinP_def, S.rabbetlaw09_ParseMoves_k8, sl_zero]
    obtain ⟨m1, m2, m3⟩ := moves_law (num := num) (kw := kw) (val := val) hs hk8
    obtain ⟨b1, b2⟩ := lines_law (num := num) (kw := kw) (val := val) hs
    obtain ⟨z1, z2⟩ := size_law (num := num) (kw := kw) (val := val) s
    refine hp s _ _ ?_
    generalize parseP num kw val s = r at m1 m2 m3 b1 b2 z1 z2
    simp only [progV, aextract, List.getElem?_cons_zero, List.getElem?_cons_succ, Do_of]
    refine two_rows rfl rfl rfl rfl rfl rfl fun H1 i18 i20 e1 d1 a18 a20 => ?_
    rw [str_add (by rw [ahead_len]; omega)]
    simp only [Do_of]
    refine hp _ _ _ ?_
    generalize parseP num kw val (ahead k ++ s) = q at m1 m2 m3
    simp only [progV, aextract, List.getElem?_cons_zero, List.getElem?_cons_succ, Do_of]
    refine two_rows rfl rfl rfl rfl rfl rfl fun H2 i29 i31 e2 d2 a29 a31 => ?_
    have a18 := a18.ext e2
    have a20 := a20.ext e2
    have l20 : aload H2 1 false (.ptr i20 0) = some (.int .i64 r.2.1) := by rw [a20.load]; rfl
    have l20b : aload H2 1 false (.ptr i20 1) = some (.int .i64 r.2.2) := by rw [a20.load]; rfl
    have l31 : aload H2 1 false (.ptr i31 0) = some (.int .i64 q.2.1) := by rw [a31.load]; rfl
    have l31b : aload H2 1 false (.ptr i31 1) = some (.int .i64 q.2.2) := by rw [a31.load]; rfl
    have l18 : aload H2 1 false (.ptr i18 1) = some (lstA thrCells r.1.threads) := by rw [a18.load]; rfl
    have l29 : aload H2 1 false (.ptr i29 1) = some (lstA thrCells q.1.threads) := by rw [a29.load]; rfl
    simp only [afaddr, Do_of, Nat.zero_add, l20b, abin_neq, Gd_true]
    refine ite_both (fun hx => ?_) (fun hx => ?_)
    · have hf : r.2.2 ≠ 0 := by simpa using hx
      refine haw _ _ ?_
      simp only [Gd3_true, if_true, l31b, l20b, Do_of, abin_eql, JoinP_def, S.rabbetlaw09_ParseMoves_k1, sl_zero, afaddr, Nat.zero_add, l31, l20, abin_add, Gd3_false]
      rw [m2, beq_self_eq_true, if_pos rfl]
      have hb := b1 hf
      rw [wrap_i64 (by omega) (by omega), m3 hf, beq_self_eq_true]
      simp only [Bool.true_eq_false, if_false]
      exact hQ _
    · have hf : r.2.2 = 0 := by simpa using hx
      simp only [l31b, Do_of, m2, hf, bne_self_eq_false, Gd3_false, if_true, l18, l29, lstA_len']
      have hlen : q.1.threads.length = r.1.threads.length := by rw [m1, List.length_map]
      rw [hlen]
      simp only [abin_neq, Do_of, bne_self_eq_false, JoinP_def, S.rabbetlaw09_ParseMoves_k7, sl_zero, Gd_true, Bool.false_eq_true, if_false, S.rabbetlaw09_ParseMoves_k6]
      have main : ∀ (m i : Nat), i + m = r.1.threads.length → LoopP (S.rabbetlaw09_ParseMoves_l5 Φ (.int .i64 k) (.ptr i18 0) (.ptr i29 0) Q) ([.int .i64 i], H2) := by
        intro m
        induction m with
        | zero =>
          intro i hi
          refine LoopP.step ?_
          simp only [S.rabbetlaw09_ParseMoves_l5, sl_zero, afaddr, Do_of, Nat.zero_add, l18, lstA_len', abin_lss, Gd_true]
          rw [if_neg (by simp only [decide_eq_true_eq]; omega)]
          simp only [JoinP_def, S.rabbetlaw09_ParseMoves_k4]
          exact haw _ _ (hQ _)
        | succ m ih =>
          intro i hi
          have hlt : i < r.1.threads.length := by omega
          obtain ⟨t, ht⟩ : ∃ t, r.1.threads[i]? = some t := ⟨_, List.getElem?_eq_getElem hlt⟩
          have hq : q.1.threads[i]? = some (GStmt.mapsL (· + (k : Int)) t) := by rw [m1, List.getElem?_map, ht]; rfl
          have htm : t ∈ r.1.threads := List.mem_of_getElem? ht
          have hltq : i < q.1.threads.length := by omega
          refine LoopP.step ?_
          simp only [S.rabbetlaw09_ParseMoves_l5, sl_zero, afaddr, Do_of, Nat.zero_add, l18, l29, lstA_len', abin_lss, Gd_true]
          rw [if_pos (by simp only [decide_eq_true_eq]; omega), lstA_addr hlt]
          simp only [Do_of, thr_load H2 ht, lstA_len']
          rw [lstA_addr hltq]
          simp only [Do_of, thr_load H2 hq, lstA_len', abin_neq]
          have hml : (GStmt.mapsL (· + (k : Int)) t).length = t.length := by rw [GStmt.mapsL_eq, List.length_map]
          rw [hml]
          simp only [bne_self_eq_false, Bool.false_eq_true, if_false]
          have zt := z2 t htm
          have inner : ∀ (m2 j : Nat), j + m2 = t.length → LoopP (S.rabbetlaw09_ParseMoves_l3 Φ (.int .i64 k) (.ptr i18 0) (.ptr i29 0) ([.int .i64 i], H2) (LoopP (S.rabbetlaw09_ParseMoves_l5 Φ (.int .i64 k) (.ptr i18 0) (.ptr i29 0) Q)) Q) ([.int .i64 j], H2) := by
            intro m2
            induction m2 with
            | zero =>
              intro j hj
              refine LoopP.step ?_
              simp only [S.rabbetlaw09_ParseMoves_l3, sl_zero, afaddr, Do_of, Nat.zero_add, l18]
              rw [lstA_addr hlt]
              simp only [Do_of, thr_load H2 ht, lstA_len', abin_lss, Gd_true]
              rw [if_neg (by simp only [decide_eq_true_eq]; omega)]
              simp only [JoinP_def, S.rabbetlaw09_ParseMoves_k2, sl_zero, abin_add, Do_of]
              rw [wrap_i64 (by omega) (by omega), show ((i : Int) + 1) = ((i + 1 : Nat) : Int) by simp]
              exact ih (i + 1) (by omega)
            | succ m2 ih2 =>
              intro j hj
              have hjt : j < t.length := by omega
              obtain ⟨x, hx⟩ : ∃ x, t[j]? = some x := ⟨_, List.getElem?_eq_getElem hjt⟩
              have hqx : (GStmt.mapsL (· + (k : Int)) t)[j]? = some (x.mapL (· + (k : Int))) := by rw [GStmt.mapsL_eq, List.getElem?_map, hx]; rfl
              have hb := b2 t htm x (List.mem_of_getElem? hx)
              refine LoopP.step ?_
              simp only [S.rabbetlaw09_ParseMoves_l3, sl_zero, afaddr, Do_of, Nat.zero_add, l18, l29]
              rw [lstA_addr hlt]
              simp only [Do_of, thr_load H2 ht, lstA_len', abin_lss, Gd_true]
              rw [if_pos (by simp only [decide_eq_true_eq]; omega), lstA_addr hltq]
              simp only [Do_of, thr_load H2 hq]
              rw [lstA_addr (by rw [hml]; exact hjt), lstA_addr hjt]
              simp only [Do_of, elA, afaddr, st_line H2 hqx, st_line H2 hx, abin_add, abin_neq, GStmt.mapL_line]
              rw [wrap_i64 (by omega) (by omega)]
              simp only [bne_self_eq_false, Bool.false_eq_true, if_false]
              rw [wrap_i64 (by omega) (by omega), show ((j : Int) + 1) = ((j + 1 : Nat) : Int) by simp]
              exact ih2 (j + 1) (by omega)
          exact inner t.length 0 (by omega)
      exact main r.1.threads.length 0 (by omega)
  have loop : ∀ (m i : Nat), i + m = k → LoopP (S.rabbetlaw09_ParseMoves_l9 Φ (.str s) (.int .i64 k) Q) ([.str (ahead i), .int .i64 i], H) := by
    intro m
    induction m with
    | zero =>
      intro i hi
      have : i = k := by omega
      subst this
      refine LoopP.step ?_
      simp only [S.rabbetlaw09_ParseMoves_l9, sl_zero, sl_succ, abin_lss, Do_of, Gd_true]
      rw [if_neg (by simp)]
      exact k8 _ rfl
    | succ m ih =>
      intro i hi
      refine LoopP.step ?_
      simp only [S.rabbetlaw09_ParseMoves_l9, sl_zero, sl_succ, abin_lss, Do_of, Gd_true]
      rw [if_pos (by simp only [decide_eq_true_eq]; omega), str_add (by rw [ahead_len]; simp only [List.length_cons, List.length_nil]; omega)]
      simp only [Do_of, abin_add]
      rw [wrap_i64 (by omega) (by omega), show ((i : Int) + 1) = ((i + 1 : Nat) : Int) by simp]
      exact ih (i + 1) (by omega)
  exact loop k 0 (by omega)
/-- The words of a text, one behind the other. -/
theorem ParseWords_spec (hn : NumG num) (hlen : ∀ w, num w = true → ¬ (1 < w.length ∧ w.head? = some 48) → w.length ≤ 20) (s : List UInt8) {H : AH} {Q : Post} (hQ : ∀ H', Q (.bool true) H') (hw1 : ∀ (H : AH) (Q : Post), (∀ H', Q (lexV (lexM num s)) H') → Φ K.rabbetref08_Words [.str s] H Q) : S.rabbetlaw09_ParseWords Φ (.str s) H Q := by
  unfold S.rabbetlaw09_ParseWords
  refine hw1 _ _ fun H2 => ?_
  cases hM : lexM num s with
  | error e =>
    have hne : e.2 ≠ 0 := lexM_err hM
    simp only [lexV, aextract, List.getElem?_cons_zero, List.getElem?_cons_succ, Do_of, abox, if_true, DoH_some]
    rw [store_new H2 _ _ 2 rfl rfl rfl]
    have l1 : aload (H2.push (.row [.int .i64 e.1, .int .i64 e.2])) 1 false (.ptr H2.n 1) = some (.int .i64 e.2) := by rw [load_push]; rfl
    have hal : alen false (.lst .dead 0 []) = some (.int .i64 0) := rfl
    have hb : (e.2 != 0) = true := by simpa using hne
    simp only [Do_of, hal, abin_gtr, Gd3_false, afaddr, Nat.zero_add, l1, abin_neq, JoinP_def, S.rabbetlaw09_ParseWords_k9, sl_zero, Gd_true, hb]
    rw [if_pos (by decide), if_pos trivial]
    exact haw _ _ (hQ _)
  | ok ws =>
    have ht := lexM_ok hM
    have hcount : ws.length ≤ 1048576 := (begin_wf hM).2
    simp only [lexV, aextract, List.getElem?_cons_zero, List.getElem?_cons_succ, Do_of, abox, if_true, DoH_some]
    rw [store_new H2 _ _ 2 rfl rfl rfl]
    have l1 : aload (H2.push (.row [.int .i64 0, .int .i64 0])) 1 false (.ptr H2.n 1) = some (.int .i64 0) := by rw [load_push]; rfl
    simp only [Do_of, lstA_len', abin_gtr, Gd3_false, afaddr, Nat.zero_add, l1, abin_neq, JoinP_def, S.rabbetlaw09_ParseWords_k9, sl_zero, Gd_true, bne_self_eq_false]
    generalize H2.push (.row [.int .i64 0, .int .i64 0]) = H3
    by_cases hx : decide ((ws.length : Int) > 3000) = false
    case neg =>
      rw [if_neg hx, if_pos trivial]; exact haw _ _ (hQ _)
    rw [if_pos hx, if_neg (by decide)]
    have hl : ws.length ≤ 3000 := by
      simp only [decide_eq_false_iff_not] at hx; omega
    simp only [S.rabbetlaw09_ParseWords_k8]
    have hw : ∀ w ∈ ws.map (·.1), WOK num w := by
      intro w hw
      obtain ⟨x, hx, rfl⟩ := List.mem_map.1 hw
      exact toks_wok hlen _ _ _ _ ht x hx
    obtain ⟨⟨c1, c2, c3⟩, ⟨d1, d2, d3⟩, c4⟩ := words_law (num := num) (kw := kw) (val := val) hlen hM hl
    -- the three programs
    have k6 : JoinP (S.rabbetlaw09_ParseWords_k6 Φ (.str s) Q) [.str (blanks (ws.map (·.1))), .str (10 :: wides (ws.map (·.1)))] H3 := by
      simp only [JoinP_def, S.rabbetlaw09_ParseWords_k6, sl_zero, sl_succ]
      refine hp s _ _ ?_
      generalize parseP num kw val s = r at c1 c2 c3 d1 d2 d3
      simp only [progV, aextract, List.getElem?_cons_zero, List.getElem?_cons_succ, Do_of]
      refine two_rows rfl rfl rfl rfl rfl rfl fun H4 i40 i42 e1 _ a40 a42 => ?_
      refine hp _ _ _ ?_
      generalize parseP num kw val (blanks (ws.map (·.1))) = q at c1 c2 c3 c4
      simp only [progV, aextract, List.getElem?_cons_zero, List.getElem?_cons_succ, Do_of]
      refine two_rows rfl rfl rfl rfl rfl rfl fun H5 i50 i52 e2 _ a50 a52 => ?_
      refine hp _ _ _ ?_
      generalize parseP num kw val (10 :: wides (ws.map (·.1))) = u at d1 d2 d3
      simp only [progV, aextract, List.getElem?_cons_zero, List.getElem?_cons_succ, Do_of]
      refine two_rows rfl rfl rfl rfl rfl rfl fun H6 i60 i62 e3 _ a60 a62 => ?_
      have a40 := (a40.ext e2).ext e3
      have a42 := (a42.ext e2).ext e3
      have a50 := a50.ext e3
      have a52 := a52.ext e3
      refine haw _ _ ?_
      have f42 : aload H6 1 false (.ptr i42 1) = some (.int .i64 r.2.2) := by rw [a42.load]; rfl
      have f52 : aload H6 1 false (.ptr i52 1) = some (.int .i64 q.2.2) := by rw [a52.load]; rfl
      have f62 : aload H6 1 false (.ptr i62 1) = some (.int .i64 u.2.2) := by rw [a62.load]; rfl
      have g52 : aload H6 1 false (.ptr i52 0) = some (.int .i64 q.2.1) := by rw [a52.load]; rfl
      have v40 : aload H6 1 false (.ptr i40 0) = some (lstA GVar.cells r.1.vars) := by rw [a40.load]; rfl
      have v50 : aload H6 1 false (.ptr i50 0) = some (lstA GVar.cells q.1.vars) := by rw [a50.load]; rfl
      have t40 : aload H6 1 false (.ptr i40 1) = some (lstA thrCells r.1.threads) := by rw [a40.load]; rfl
      have t50 : aload H6 1 false (.ptr i50 1) = some (lstA thrCells q.1.threads) := by rw [a50.load]; rfl
      have t60 : aload H6 1 false (.ptr i60 1) = some (lstA thrCells u.1.threads) := by rw [a60.load]; rfl
      simp only [Gd3_true, if_true, afaddr, Do_of, Nat.zero_add, f42, f52, abin_eql, c3, beq_self_eq_true, JoinP_def, S.rabbetlaw09_ParseWords_k5, sl_zero, f62, d3, S.rabbetlaw09_ParseWords_k4, v40, v50, lstA_len', c1, S.rabbetlaw09_ParseWords_k3, t40, t50, t60, c2, d2, S.rabbetlaw09_ParseWords_k2, S.rabbetlaw09_ParseWords_k1, Gd3_false, g52, abin_leq]
      refine ite_both (fun hx => ?_) (fun hx => ?_)
      · have hf : r.2.2 ≠ 0 := by simpa using hx
        have := c4 (by rw [c3]; exact hf)
        rw [decide_eq_true this]
        exact hQ _
      · exact hQ _
    have loop : ∀ (m i : Nat), i + m = ws.length → LoopP (S.rabbetlaw09_ParseWords_l7 Φ (.str s) (lstA tokC ws) Q) ([.str (blanks ((ws.take i).map (·.1))), .str (10 :: wides ((ws.take i).map (·.1))), .int .i64 i], H3) := by
      intro m
      induction m with
      | zero =>
        intro i hi
        refine LoopP.step ?_
        simp only [S.rabbetlaw09_ParseWords_l7, sl_zero, sl_succ, lstA_len', Do_of, abin_lss, Gd_true]
        rw [if_neg (by simp only [decide_eq_true_eq]; omega), List.take_of_length_le (by omega)]
        exact k6
      | succ m ih =>
        intro i hi
        have hlt : i < ws.length := by omega
        obtain ⟨w, hw0⟩ : ∃ w, ws[i]? = some w := ⟨_, List.getElem?_eq_getElem hlt⟩
        have hwm : w ∈ ws := List.mem_of_getElem? hw0
        have hwl := (hw w.1 (List.mem_map.2 ⟨w, hwm, rfl⟩)).2.1
        have htk : ws.take (i + 1) = ws.take i ++ [w] := by
          rw [List.take_add_one, hw0]; rfl
        have hsub : ∀ x ∈ (ws.take i).map (·.1), WOK num x := fun x hx => by
          obtain ⟨y, hy, rfl⟩ := List.mem_map.1 hx
          exact hw _ (List.mem_map.2 ⟨y, List.mem_of_mem_take hy, rfl⟩)
        have b1 := blanks_len _ hsub
        have b2 := wides_len _ hsub
        rw [List.length_map, List.length_take] at b1 b2
        refine LoopP.step ?_
        simp only [S.rabbetlaw09_ParseWords_l7, sl_zero, sl_succ, lstA_len', Do_of, abin_lss, Gd_true]
        rw [if_pos (by simp only [decide_eq_true_eq]; omega), lstA_addr hlt]
        simp only [Do_of, elA, afaddr, tok_text H3 hw0]
        rw [str_add (by simp only [List.length_append, List.length_cons, List.length_nil]; omega)]
        simp only [Do_of]
        rw [str_add (by simp only [List.length_append, List.length_cons, List.length_nil]; omega)]
        simp only [Do_of]
        rw [str_add (by simp only [List.length_append, List.length_cons, List.length_nil]; omega)]
        simp only [Do_of]
        rw [str_add (by simp only [List.length_append, List.length_cons, List.length_nil]; omega)]
        simp only [Do_of, abin_add]
        rw [wrap_i64 (by omega) (by omega), show ((i : Int) + 1) = ((i + 1 : Nat) : Int) by simp]
        have e1 : blanks ((ws.take i).map (·.1)) ++ (w.1 ++ [32]) = blanks ((ws.take (i + 1)).map (·.1)) := by
          rw [htk, List.map_append]
          unfold blanks
          rw [List.flatMap_append]
          simp
        have e2 : (10 :: wides ((ws.take i).map (·.1))) ++ (w.1 ++ [10, 10, 32]) = 10 :: wides ((ws.take (i + 1)).map (·.1)) := by
          rw [htk, List.map_append]
          unfold wides
          rw [List.flatMap_append]
          simp
        rw [e1, e2]
        exact ih (i + 1) (by omega)
    exact loop ws.length 0 (by omega)
end
end Rb

/- Keywords: the list of them, as the parser asks. -/
set_option linter.unusedVariables false
set_option linter.unusedSimpArgs false
set_option linter.unusedSectionVars false
namespace Rb
open Go
def kwTextX : List UInt8 := [118, 97, 114, 32, 116, 104, 114, 101, 97, 100, 32, 115, 116, 114, 117, 99, 116, 32, 117, 110, 105, 111, 110, 32, 112, 97, 99, 107, 101, 100, 32, 117, 56, 32, 117, 49, 54, 32, 117, 51, 50, 32, 117, 54, 52, 32, 97, 56, 32, 97, 49, 54, 32, 97, 51, 50, 32, 97, 54, 52, 32, 97, 49, 50, 56, 32, 108, 101, 116, 32, 115, 101, 116, 32, 119, 114, 105, 116, 101, 32, 115, 116, 111, 114, 101, 32, 108, 111, 97, 100, 50, 32, 115, 116, 111, 114, 101, 50, 32, 102, 101, 110, 99, 101, 32, 105, 102, 32, 101, 108, 115, 101, 32, 119, 104, 105, 108, 101, 32, 112, 114, 105, 110, 116, 32, 114, 101, 97, 100, 32, 108, 111, 97, 100, 32, 97, 100, 100, 32, 115, 119, 97, 112, 32, 99, 97, 115, 32, 114, 108, 120, 32, 97, 99, 113, 32, 114, 101, 108, 32, 115, 99]
def kwsX : List (List UInt8) := [[118, 97, 114], [116, 104, 114, 101, 97, 100], [115, 116, 114, 117, 99, 116], [117, 110, 105, 111, 110], [112, 97, 99, 107, 101, 100], [117, 56], [117, 49, 54], [117, 51, 50], [117, 54, 52], [97, 56], [97, 49, 54], [97, 51, 50], [97, 54, 52], [97, 49, 50, 56], [108, 101, 116], [115, 101, 116], [119, 114, 105, 116, 101], [115, 116, 111, 114, 101], [108, 111, 97, 100, 50], [115, 116, 111, 114, 101, 50], [102, 101, 110, 99, 101], [105, 102], [101, 108, 115, 101], [119, 104, 105, 108, 101], [112, 114, 105, 110, 116], [114, 101, 97, 100], [108, 111, 97, 100], [97, 100, 100], [115, 119, 97, 112], [99, 97, 115], [114, 108, 120], [97, 99, 113], [114, 101, 108], [115, 99]]
def kwX (s : List UInt8) : Bool := kwsX.any fun x => s == x
theorem abin_streqK (s t : List UInt8) : abin .eql (.str s) (.str t) = some (.bool (s == t)) := rfl
theorem idxI_any {α : Type} (p : α → Bool) (xs : List α) : decide (idxI (xs.findIdx? p) ≥ 0) = xs.any p := by
  cases hf : xs.findIdx? p with
  | none =>
    rw [List.findIdx?_eq_none_iff] at hf
    have : xs.any p = false := by simpa using hf
    rw [this]; rfl
  | some i =>
    obtain ⟨hi, h1, _⟩ := List.findIdx?_eq_some_iff_getElem.1 hf
    have : xs.any p = true := by rw [List.any_eq_true]; exact ⟨xs[i], List.getElem_mem hi, h1⟩
    rw [this]; simp [idxI]

section
variable {Φ : Calls'} {H : AH} {Q : Post}
/-- slices.Index of texts, however they lie. -/
theorem Index_gen {a : AV} {xs : List (List UInt8)} {t : List UInt8} (hlen : alen false a = some (.int .i64 xs.length)) (hr : ∀ (i : Nat) x, xs[i]? = some x → ∃ p, aiaddr none 1 a (.int .i64 i) = some p ∧ aload H 1 false p = some (.str x)) (hb : xs.length ≤ 9223372036854775807)
    (hQ : Q (.int .i64 (idxI (xs.findIdx? fun x => t == x))) H) : S.slices_Index___string_string_ Φ a (.str t) H Q := by
  unfold S.slices_Index___string_string_
  rw [hlen]
  simp only [Do_of]
  have main : ∀ (ys : List (List UInt8)) (i : Nat), xs.drop i = ys → Q (.int .i64 (idxI ((ys.findIdx? fun x => t == x).map (· + i)))) H → LoopP (S.slices_Index___string_string__l1 Φ a (.str t) (.int .i64 xs.length) Q) ([.int .i64 i], H) := by
    intro ys
    induction ys with
    | nil =>
      intro i hi hq
      have hle := drop_nil_le hi
      refine LoopP.step ?_
      simp only [S.slices_Index___string_string__l1, sl_zero, abin_lss, Do_of, Gd_true]
      rw [if_neg (by simp only [decide_eq_true_eq]; omega)]
      simpa [idxI] using hq
    | cons y ys ih =>
      intro i hi hq
      obtain ⟨hlt, hy, hd⟩ := drop_cons_lt hi
      obtain ⟨p, h1, h2⟩ := hr i y hy
      refine LoopP.step ?_
      simp only [S.slices_Index___string_string__l1, sl_zero, abin_lss, Do_of, Gd_true]
      rw [if_pos (by simp only [decide_eq_true_eq]; omega), h1]
      simp only [Do_of]
      rw [h2]
      simp only [Do_of, abin_streqK, Gd_true]
      rw [List.findIdx?_cons] at hq
      by_cases he : (t == y) = true
      · rw [if_pos he]
        rw [if_pos he] at hq
        simpa [idxI] using hq
      · rw [if_neg he]
        rw [if_neg he] at hq
        simp only [abin_add, Do_of]
        rw [wrap_i64 (by omega) (by omega), show ((i : Int) + 1) = ((i + 1 : Nat) : Int) by simp]
        refine ih (i + 1) hd ?_
        have : (List.findIdx? (fun x => t == x) ys).map (· + (i + 1)) = ((List.findIdx? (fun x => t == x) ys).map (· + 1)).map (· + i) := by
          rw [Option.map_map]; congr 1; funext k; simp only [Function.comp]; omega
        rw [this]; exact hq
  refine main xs 0 rfl ?_
  simpa using hQ
theorem Contains_gen (hT : Cl Φ S.tab_Lex) {a : AV} {xs : List (List UInt8)} {t : List UInt8} (hlen : alen false a = some (.int .i64 xs.length)) (hr : ∀ (i : Nat) x, xs[i]? = some x → ∃ p, aiaddr none 1 a (.int .i64 i) = some p ∧ aload H 1 false p = some (.str x)) (hb : xs.length ≤ 9223372036854775807)
    (hQ : Q (.bool (xs.any fun x => t == x)) H) : Φ K.slices_Contains___string_string_ [a, .str t] H Q := by
  refine S.cl_slices_Contains___string_string_ hT ?_
  unfold S.slices_Contains___string_string_
  refine S.cl_slices_Index___string_string_ hT (Index_gen hlen hr hb ?_)
  simp only [abin_geq, Do_of, idxI_any]
  exact hQ
end
section
variable {C : Ctx} (hGT : GTok C) (hT : Cl (ACall C) S.tab_Lex)
include hGT hT
theorem Keyword_val (hF : ∀ (H : AH) (Q : Post), Q (.lst .dead 34 (kwsX.map .str)) H → ACall C K.strings_Fields [.str kwTextX] H Q) (s : List UInt8) : Val (ACall C) K.lex_Keyword [.str s] (.bool (kwX s)) := by
  intro H Q hQ
  refine S.cl_lex_Keyword hT ?_
  unfold S.lex_Keyword
  refine hF _ _ ?_
  refine Contains_gen hT (xs := kwsX) rfl (fun i x hx => ?_) (by decide) hQ
  have hlt := (List.getElem?_eq_some_iff.1 hx).1
  refine ⟨.fptr ((kwsX.map AV.str).drop (i * 1)), ?_, ?_⟩
  · simp only [aiaddr]
    have hl : kwsX.length = 34 := rfl
    rw [if_pos ⟨by omega, by omega⟩]
    simp
  · show takeCells _ 0 1 false = _
    unfold takeCells
    rw [if_pos (by rw [List.length_drop, List.length_map]; omega)]
    simp [hx]
/-- parse.Prog, as a value. -/
theorem Prog_val {num kw : List UInt8 → Bool} {val : List UInt8 → Int} (hkw : ∀ x, Val (ACall C) K.lex_Keyword [.str x] (.bool (kw x))) (hv : NumV (ACall C) val) (hnum : NumS (ACall C) num) (hidx : IdxS (ACall C)) (s : List UInt8) : Val (ACall C) K.parse_Prog [.str s] (progV (parseP num kw val s)) :=
  Val.of hGT rfl (by
    have h1 : ∀ vs : List GVar, (lstA GVar.cells vs).froz = true := fun vs => lstA_froz GVar.froz vs
    have h2 : ∀ ts : List (List GStmt), (lstA thrCells ts).froz = true := fun ts => lstA_froz (fun t => by simp only [thrCells, AV.frozs, lstA_froz GStmt.froz, Bool.and_self]) ts
    simp only [progV, GProg.cells, AV.froz, AV.frozs, h1, h2, Bool.and_self]) fun Q hQ => p_Prog hT (ACall.wk C) hkw hv (Tokens_val2 hGT hT hnum hidx) s hQ
end
end Rb

/- Law 9: ParseWords, ParseMoves. -/
set_option linter.unusedVariables false
namespace Go.Proofs.YtolodaoffkbefaaDoor.rb
open Rb
theorem awake09 : Val (ACall C) K.rabbetlaw09_awake [] (.bool true) := fun H Q hQ => RbM09_rootok0 K.rabbetlaw09_awake [] (.bool true) rfl H Q hQ
theorem fieldsOK (H : AH) (Q : Post) (hQ : Q (.lst .dead 34 (kwsX.map .str)) H) : ACall C K.strings_Fields [.str kwTextX] H Q := RbM090_ok K.strings_Fields [.str kwTextX] _ (by kernel_rfl) H Q hQ
theorem kwOK (s : List UInt8) : Val (ACall C) K.lex_Keyword [.str s] (.bool (kwX s)) := Keyword_val gtC cl_Lex fieldsOK s
theorem progOK (s : List UInt8) : Val (ACall C) K.parse_Prog [.str s] (progV (parseP numX kwX valX s)) := Prog_val gtC cl_Lex kwOK valOK numOK idxOK s
theorem wordsOK (s : List UInt8) (H : AH) (Q : Post) (hQ : ∀ H', Q (lexV (lexM numX s)) H') : ACall C K.rabbetref08_Words [.str s] H Q :=
  ACall.weak (r_Words cl_Lex numG s fun v H' hv => by rw [hv]; exact hQ H')
theorem parseWords.any (s : List UInt8) : ACall C K.rabbetlaw09_ParseWords [.str s] AH.mt (fun v _ => v = .bool true) :=
  S.cl_rabbetlaw09_ParseWords cl_Lex (ParseWords_spec cl_Lex awake09 progOK numG numX_len s (fun _ => rfl) (wordsOK s))
theorem parseMoves.any (s : List UInt8) (n : Int) (h0 : 0 ≤ n) (h1 : n ≤ 255) : ACall C K.rabbetlaw09_ParseMoves [.str s, .int .u8 n] AH.mt (fun v _ => v = .bool true) :=
  S.cl_rabbetlaw09_ParseMoves cl_Lex (ParseMoves_spec cl_Lex awake09 progOK s n h0 h1 fun _ => rfl)
end Go.Proofs.YtolodaoffkbefaaDoor.rb

/- A variable that holds an error. -/
set_option linter.unusedVariables false
set_option linter.unusedSimpArgs false
namespace Rb
open Go Go.RowKit
theorem err_ptr {F : FTab} {W : World} {g : Nat} {tp : TypeId} {a : Addr} {x : Value} (hc : W.cell? ⟨g, 0, none⟩ = some (.iface tp (.pointer (some a)))) (ha : W.cell? a = some x) :
    VR F W (Ghost.mt (allFz W)) (.fptr [.iface tp (.fptr [])]) (.pointer (some ⟨g, 0, none⟩)) := by
  have hsp : a.spot = none := by
    unfold World.cell? at ha
    split at ha
    · split at ha
      · cases ha
      · rename_i hn
        cases h : a.spot with
        | none => rfl
        | some _ => rw [h] at hn; simp at hn
    · cases ha
  obtain ⟨b, o, sp⟩ := a
  simp only at hsp
  subst hsp
  refine .fptr _ g 0 (fun _ => .iface tp (.pointer (some ⟨b, o, none⟩))) (fun j c hj => ?_) fun j c hj => ?_
  · cases j with
    | zero => exact ⟨⟨_, hc⟩, hc⟩
    | succ j => simp at hj
  · cases j with
    | zero =>
      simp at hj
      subst hj
      exact .iface _ _ _ (.fptr [] b o (fun _ => x) (fun j c h => by simp at h) fun j c h => by simp at h)
    | succ j => simp at hj
end Rb

/- What all laws of the seat share: the variables that the text of the program lays. By wrap.py. -/
set_option linter.unusedVariables false
namespace Go.Proofs.YtolodaoffkbefaaDoor.rb
open Rb Go.ChangeShapes Go.WideShapes Go.ChangeAt Go.RowKit

theorem own : ownKnob Tryd.prog.godebug = none := by kernel_rfl
theorem laidOut : laidOutB Tryd.prog = true := by kernel_rfl
theorem gT : Tryd.prog.globalNamed "strings.asciiSpace" = some 0 := by kernel_rfl
theorem gTType : (Tryd.prog.globals[0]?).map (·.type) = some 101 := by kernel_rfl
theorem cellsU : Tryd.prog.cellsOf 5 = 1 := by kernel_rfl
theorem cellsT : Tryd.prog.cellsOf 101 = 256 := by kernel_rfl
def laidVars : List (String × DataW Unit) := Rows.parseWordsRow.laid

theorem tab_eq : (Rows.laid_strings_asciiSpace : DataW Unit) = Go.Lib.tabData .u8 Go.Lib.asciiSpaceTab := by kernel_rfl
theorem tab_mem : (("strings.asciiSpace", Go.Lib.tabData .u8 Go.Lib.asciiSpaceTab) : String × DataW Unit) ∈ laidVars := by
  rw [← tab_eq]; exact .tail _ (.tail _ (.tail _ (.tail _ (.tail _ (.tail _ (.head _))))))
theorem tab_of {W : World} (h : laidMet Tryd.prog laidVars W) : Go.Lib.TabIs Tryd.prog W "strings.asciiSpace" .u8 Go.Lib.asciiSpaceTab := by
  obtain ⟨g', t', cs, fuel, p, hg', ht', hvar, hd⟩ := Go.Lib.laidMet.reads h tab_mem
  obtain rfl := Option.some.inj (gT.symm.trans hg')
  obtain rfl := Option.some.inj (gTType.symm.trans ht')
  unfold Go.Lib.TabIs
  rw [hvar, ← Go.Lib.cells_of_tab Tryd.underlying101 Tryd.underlying5 cellsU cellsT hd]

theorem cellsE : Tryd.prog.cellsOf 148 = 1 := by kernel_rfl
theorem cellsS : Tryd.prog.cellsOf 9 = 1 := by kernel_rfl
theorem rowE (nm : String) (hn : ("*" ++ "errors.errorString" : String) = nm) (u : TypeId) (h : Tryd.prog.typeName? 3 u = some nm) : u = 146 :=
  typeName_ptr_named (nm := "errors.errorString") (by kernel_rfl) (by kernel_rfl) (by decide) u (by rw [hn]; exact h)
theorem gErrSyntax : Tryd.prog.globalNamed "strconv.ErrSyntax" = some 2 := by kernel_rfl
theorem tErrSyntax : (Tryd.prog.globals[2]?).map (·.type) = some 91 := by kernel_rfl
theorem atErrSyntax {W : World} (h : laidMet Tryd.prog laidVars W) : VR C.F W (Ghost.mt (allFz W)) (.fptr [.iface 146 (.fptr [])]) (.pointer (some ⟨2, 0, none⟩)) := by
  obtain ⟨a, s, hv, hc, -, -⟩ := laid_sentinel (show laidMet Tryd.prog (("strconv.ErrSyntax", Rows.laid_strconv_ErrSyntax) :: _) W from h.tail.tail.tail.tail) gErrSyntax tErrSyntax Tryd.underlying91 (rowE _ (by decide)) Tryd.underlying146 Tryd.underlying148 rfl rfl Tryd.underlying9 cellsE cellsS
  exact err_ptr (by have h0 := World.var?_cell gErrSyntax hv 0; simpa using h0) hc

theorem gErrRange : Tryd.prog.globalNamed "strconv.ErrRange" = some 3 := by kernel_rfl
theorem tErrRange : (Tryd.prog.globals[3]?).map (·.type) = some 91 := by kernel_rfl
theorem atErrRange {W : World} (h : laidMet Tryd.prog laidVars W) : VR C.F W (Ghost.mt (allFz W)) (.fptr [.iface 146 (.fptr [])]) (.pointer (some ⟨3, 0, none⟩)) := by
  obtain ⟨a, s, hv, hc, -, -⟩ := laid_sentinel (show laidMet Tryd.prog (("strconv.ErrRange", Rows.laid_strconv_ErrRange) :: _) W from h.tail.tail.tail) gErrRange tErrRange Tryd.underlying91 (rowE _ (by decide)) Tryd.underlying146 Tryd.underlying148 rfl rfl Tryd.underlying9 cellsE cellsS
  exact err_ptr (by have h0 := World.var?_cell gErrRange hv 0; simpa using h0) hc

theorem gok {W : World} (h : laidMet Tryd.prog laidVars W) : GOK C W (Ghost.mt (allFz W)) := by
  intro g l hg
  have ht := tab_of h
  change gt g = some l at hg
  unfold gt at hg
  split at hg
  · rename_i e
    subst e
    cases hg
    rw [asciiSpace_eq]
    exact fptr_of_tab fun i hi => ht.cell gT i hi
  · split at hg
    · rename_i e
      subst e
      cases hg
      exact atErrSyntax h
    · split at hg
      · rename_i e
        subst e
        cases hg
        exact atErrRange h
      · cases hg

/-- A world in which the variables hold what their initialisers lay. -/
noncomputable def laidWorld (os : Os) : World :=
  let N := (World.settled Tryd.prog os).heap.size
  let w0 := World.holding Tryd.prog os ⟨#[.cells #[.string ⟨#[118, 97, 108, 117, 101, 32, 111, 117, 116, 32, 111, 102, 32, 114, 97, 110, 103, 101]⟩] 148, .cells #[.string ⟨#[105, 110, 118, 97, 108, 105, 100, 32, 115, 121, 110, 116, 97, 120]⟩] 148, .cells #[.int .u16 9, .int .u16 13, .int .u16 1, .int .u16 32, .int .u16 133, .int .u16 101, .int .u16 160, .int .u16 5760, .int .u16 5600, .int .u16 8192, .int .u16 8202, .int .u16 1, .int .u16 8232, .int .u16 8233, .int .u16 1, .int .u16 8239, .int .u16 8287, .int .u16 48, .int .u16 12288, .int .u16 12288, .int .u16 1] 132, .cells #[.slice (some ⟨N + 2, 0, none⟩) 7 7, .slice none 0 0, .int .i64 2] 129], #[], []⟩
  let put (h : Array Obj) (g : Nat) (cs : Array Value) : Array Obj := h.modify g fun
    | .cells _ t frozen => .cells cs t frozen
    | o => o
  { w0 with heap := put (put (put (put (put (put (put (w0.heap) 6 #[.int .u8 0, .int .u8 1, .int .u8 28, .int .u8 2, .int .u8 29, .int .u8 14, .int .u8 24, .int .u8 3, .int .u8 30, .int .u8 22, .int .u8 20, .int .u8 15, .int .u8 25, .int .u8 17, .int .u8 4, .int .u8 8, .int .u8 31, .int .u8 27, .int .u8 13, .int .u8 23, .int .u8 21, .int .u8 19, .int .u8 16, .int .u8 7, .int .u8 26, .int .u8 12, .int .u8 18, .int .u8 6, .int .u8 11, .int .u8 5, .int .u8 10, .int .u8 9]) 7 #[.int .u8 0, .int .u8 1, .int .u8 56, .int .u8 2, .int .u8 57, .int .u8 49, .int .u8 28, .int .u8 3, .int .u8 61, .int .u8 58, .int .u8 42, .int .u8 50, .int .u8 38, .int .u8 29, .int .u8 17, .int .u8 4, .int .u8 62, .int .u8 47, .int .u8 59, .int .u8 36, .int .u8 45, .int .u8 43, .int .u8 51, .int .u8 22, .int .u8 53, .int .u8 39, .int .u8 33, .int .u8 30, .int .u8 24, .int .u8 18, .int .u8 12, .int .u8 5, .int .u8 63, .int .u8 55, .int .u8 48, .int .u8 27, .int .u8 60, .int .u8 41, .int .u8 37, .int .u8 16, .int .u8 46, .int .u8 35, .int .u8 44, .int .u8 21, .int .u8 52, .int .u8 32, .int .u8 23, .int .u8 11, .int .u8 54, .int .u8 26, .int .u8 40, .int .u8 15, .int .u8 34, .int .u8 20, .int .u8 31, .int .u8 10, .int .u8 25, .int .u8 14, .int .u8 19, .int .u8 9, .int .u8 13, .int .u8 8, .int .u8 7, .int .u8 6]) 5 #[.int .u64 1, .int .u64 10, .int .u64 100, .int .u64 1000, .int .u64 10000, .int .u64 100000, .int .u64 1000000, .int .u64 10000000, .int .u64 100000000, .int .u64 1000000000, .int .u64 10000000000, .int .u64 100000000000, .int .u64 1000000000000, .int .u64 10000000000000, .int .u64 100000000000000, .int .u64 1000000000000000, .int .u64 10000000000000000, .int .u64 100000000000000000, .int .u64 1000000000000000000, .int .u64 10000000000000000000]) 3 #[.iface 146 (.pointer (some ⟨N + 0, 0, none⟩))]) 2 #[.iface 146 (.pointer (some ⟨N + 1, 0, none⟩))]) 1 #[.pointer (some ⟨N + 3, 0, none⟩)]) 0 #[.int .u8 0, .int .u8 0, .int .u8 0, .int .u8 0, .int .u8 0, .int .u8 0, .int .u8 0, .int .u8 0, .int .u8 0, .int .u8 1, .int .u8 1, .int .u8 1, .int .u8 1, .int .u8 1, .int .u8 0, .int .u8 0, .int .u8 0, .int .u8 0, .int .u8 0, .int .u8 0, .int .u8 0, .int .u8 0, .int .u8 0, .int .u8 0, .int .u8 0, .int .u8 0, .int .u8 0, .int .u8 0, .int .u8 0, .int .u8 0, .int .u8 0, .int .u8 0, .int .u8 1, .int .u8 0, .int .u8 0, .int .u8 0, .int .u8 0, .int .u8 0, .int .u8 0, .int .u8 0, .int .u8 0, .int .u8 0, .int .u8 0, .int .u8 0, .int .u8 0, .int .u8 0, .int .u8 0, .int .u8 0, .int .u8 0, .int .u8 0, .int .u8 0, .int .u8 0, .int .u8 0, .int .u8 0, .int .u8 0, .int .u8 0, .int .u8 0, .int .u8 0, .int .u8 0, .int .u8 0, .int .u8 0, .int .u8 0, .int .u8 0, .int .u8 0, .int .u8 0, .int .u8 0, .int .u8 0, .int .u8 0, .int .u8 0, .int .u8 0, .int .u8 0, .int .u8 0, .int .u8 0, .int .u8 0, .int .u8 0, .int .u8 0, .int .u8 0, .int .u8 0, .int .u8 0, .int .u8 0, .int .u8 0, .int .u8 0, .int .u8 0, .int .u8 0, .int .u8 0, .int .u8 0, .int .u8 0, .int .u8 0, .int .u8 0, .int .u8 0, .int .u8 0, .int .u8 0, .int .u8 0, .int .u8 0, .int .u8 0, .int .u8 0, .int .u8 0, .int .u8 0, .int .u8 0, .int .u8 0, .int .u8 0, .int .u8 0, .int .u8 0, .int .u8 0, .int .u8 0, .int .u8 0, .int .u8 0, .int .u8 0, .int .u8 0, .int .u8 0, .int .u8 0, .int .u8 0, .int .u8 0, .int .u8 0, .int .u8 0, .int .u8 0, .int .u8 0, .int .u8 0, .int .u8 0, .int .u8 0, .int .u8 0, .int .u8 0, .int .u8 0, .int .u8 0, .int .u8 0, .int .u8 0, .int .u8 0, .int .u8 0, .int .u8 0, .int .u8 0, .int .u8 0, .int .u8 0, .int .u8 0, .int .u8 0, .int .u8 0, .int .u8 0, .int .u8 0, .int .u8 0, .int .u8 0, .int .u8 0, .int .u8 0, .int .u8 0, .int .u8 0, .int .u8 0, .int .u8 0, .int .u8 0, .int .u8 0, .int .u8 0, .int .u8 0, .int .u8 0, .int .u8 0, .int .u8 0, .int .u8 0, .int .u8 0, .int .u8 0, .int .u8 0, .int .u8 0, .int .u8 0, .int .u8 0, .int .u8 0, .int .u8 0, .int .u8 0, .int .u8 0, .int .u8 0, .int .u8 0, .int .u8 0, .int .u8 0, .int .u8 0, .int .u8 0, .int .u8 0, .int .u8 0, .int .u8 0, .int .u8 0, .int .u8 0, .int .u8 0, .int .u8 0, .int .u8 0, .int .u8 0, .int .u8 0, .int .u8 0, .int .u8 0, .int .u8 0, .int .u8 0, .int .u8 0, .int .u8 0, .int .u8 0, .int .u8 0, .int .u8 0, .int .u8 0, .int .u8 0, .int .u8 0, .int .u8 0, .int .u8 0, .int .u8 0, .int .u8 0, .int .u8 0, .int .u8 0, .int .u8 0, .int .u8 0, .int .u8 0, .int .u8 0, .int .u8 0, .int .u8 0, .int .u8 0, .int .u8 0, .int .u8 0, .int .u8 0, .int .u8 0, .int .u8 0, .int .u8 0, .int .u8 0, .int .u8 0, .int .u8 0, .int .u8 0, .int .u8 0, .int .u8 0, .int .u8 0, .int .u8 0, .int .u8 0, .int .u8 0, .int .u8 0, .int .u8 0, .int .u8 0, .int .u8 0, .int .u8 0, .int .u8 0, .int .u8 0, .int .u8 0, .int .u8 0, .int .u8 0, .int .u8 0, .int .u8 0, .int .u8 0, .int .u8 0, .int .u8 0, .int .u8 0, .int .u8 0, .int .u8 0, .int .u8 0, .int .u8 0, .int .u8 0, .int .u8 0, .int .u8 0, .int .u8 0, .int .u8 0, .int .u8 0, .int .u8 0, .int .u8 0, .int .u8 0, .int .u8 0, .int .u8 0, .int .u8 0, .int .u8 0, .int .u8 0, .int .u8 0, .int .u8 0] }
theorem laid_met (os : Os) (args : Array Value) : laidMet Tryd.prog laidVars ((laidWorld os).forCall (fun _ _ => 0) ⟨#[], args, []⟩).memory :=
  laidMet_of_run3 10 (by kernel_rfl) (by kernel_rfl) (by kernel_rfl)
theorem laid_shaped (os : Os) (args : Array Value) : ((laidWorld os).forCall (fun _ _ => 0) ⟨#[], args, []⟩).Shaped Tryd.prog := World.shaped_of_RefB (by kernel_rfl) (by kernel_rfl)
end Go.Proofs.YtolodaoffkbefaaDoor.rb

set_option linter.unusedVariables false
set_option linter.unusedSimpArgs false
namespace Go.Proofs.YtolodaoffkbefaaDoor.rb.parseMoves
open Rb Go.ChangeShapes Go.WideShapes Go.ChangeAt Go.RowKit

set_option maxRecDepth 100000 in
theorem lifted (os : Os) (started : os.Started) (H : Type) (enc : TypeId × Value → H) :
    ReturnsInHanded {} Tryd.checked os 4 .any (fun w args => (Rows.parseMovesSpec.pre enc Tryd.prog Tryd.f4 [] false w args ∧ laidMet Tryd.prog laidVars w) ∧ sizedMet enc Tryd.prog Tryd.f4 (OpenSpec.ofChange Rows.parseMovesSpec) false w args)
      (Rows.parseMovesSpec.post enc Tryd.prog Tryd.f4 false true false false) := by
  refine returnsInHanded_of_change_and (C := Tryd.checked) (X := fun w _ => laidMet Tryd.prog laidVars w) (fun _ _ _ hh h => h.of_heap hh) own started (by kernel_rfl) Tryd.func4
    (ChangeSpec.witness_shaped (enc := enc) (C := Tryd.checked) (os := os) (X := fun w _ => laidMet Tryd.prog laidVars w) false (laidWorld os) #[.string ⟨#[]⟩, .int .u8 0] 8 rfl (laid_shaped os _) (by kernel_rfl) (by kernel_rfl) (by kernel_rfl) (laid_met os _)) ?_
  intro W base args ds gs before hval0 hW _ hsz hL _
  have hval : ∀ (j : Nat) t v, Tryd.f4.params[j]? = some t → args[j]? = some v → Value.okWide Tryd.prog W .any base t v := hval0
  have hW' := hW
  obtain ⟨p, q, hA0, hV0, rfl, hfz, hnd⟩ := hW
  have hA : DataW.TrodAll enc Tryd.prog W 0 (fun _ => true) true Tryd.f4.params.toList args.toList ds p := hA0
  have hV : DataW.TrodVars enc Tryd.prog W (fun _ => true) [] gs q := hV0
  rw [Tryd.params4] at hA hval
  obtain ⟨v0, v1, d0, d1, p0, p1, rfl, rfl, rfl, h0, h1⟩ := trodAll_two hA
  obtain ⟨rfl, rfl⟩ : gs = [] ∧ q = [] := by
    cases gs with
    | nil => exact ⟨rfl, hV⟩
    | cons g r => exact absurd hV (by intro h; cases h)
  obtain ⟨a0, rfl, rfl, rfl, w0⟩ := Go.ChangeMaps.open_string Tryd.underlying9 (hval 0 9 v0 rfl rfl) h0
  obtain ⟨a1, rfl, rfl, rfl, w1⟩ := open_int Tryd.underlying5 (hval 1 5 v1 rfl rfl) h1
  have b1 : IntKind.min .u8 ≤ a1 ∧ a1 ≤ IntKind.max .u8 := by simpa [Lit.wf] using w1
  simp only [IntKind.min, IntKind.max, IntKind.signed, IntKind.bits, if_true, if_false, Bool.false_eq_true] at b1
  refine (law_calls (C := C) (f := 4) (by kernel_rfl) (any a0.data.toList a1 (by omega) (by omega)) (gok hL) (VRs.two (VR_string _) (.int _ _))).mono fun e W' ⟨he, hbel⟩ => ?_
  subst he
  exact ⟨_, rfl, post_true (bt := 4) hW' laidOut (by kernel_rfl) (by kernel_rfl) (by kernel_rfl) Tryd.underlying4 rfl hbel⟩

theorem facts : joinedFacts Tryd.checked.prog 4 Tryd.f4 Rows.parseMovesSpec Rows.parseMovesRow = true := of_forced (by kernel_rfl)
theorem row : Rows.ParseMovesSaid :=
  OpenClaim.holds_of_wide 4 Tryd.f4 rfl rfl rfl rfl rfl rfl rfl ⟨rfl, rfl, rfl, rfl, rfl⟩ rfl rfl rfl rfl rfl (by kernel_rfl) Tryd.func4 facts
    (of_decide_eq_true (by kernel_rfl)) (by unfold Func.isWrapper; first | (rw [if_pos (by decide +kernel)]; kernel_rfl) | (rw [if_neg (by decide +kernel)]; exact ⟨rfl, rfl⟩))
    (fun os started H enc _ => lifted os started H enc)
end Go.Proofs.YtolodaoffkbefaaDoor.rb.parseMoves
namespace Go.Proofs.YtolodaoffkbefaaDoor
open Go

theorem parseMoves_holds : Rows.ParseMovesCardSaid :=
  Claim7.holds_tied_plain_at .later [] [.data, .data, .data, .sentinel, .sentinel, .listed, .data] true (true, "561a53c87d1c01c8fcb305599caaf6992d01b63ef90f4a7b7bfe426dfaf711b5") true
    rb.parseMoves.row (fun _ h => by cases h) (by kernel_rfl) (fun _ h => by cases h) parseMoves_row_tie rfl ⟨rfl, rfl⟩ (by kernel_rfl) rfl
    (fun f fn hf hfn => by
      obtain rfl : f = 4 := Option.some.inj ((show Tryd.prog.funcNamed Rows.parseMovesRow.func = some 4 by kernel_rfl).symm.trans hf) |>.symm
      obtain rfl : fn = Tryd.f4 := (Option.some.inj (Tryd.func4.symm.trans hfn)).symm
      exact ⟨by kernel_rfl, fun j t ht => by
        rw [Tryd.params4] at ht
        rcases j with _ | _ | j
        · obtain rfl : t = 9 := by simpa using ht.symm
          exact (show Tryd.prog.wantsStandIn 9 = false by kernel_rfl)
        · obtain rfl : t = 5 := by simpa using ht.symm
          exact (show Tryd.prog.wantsStandIn 5 = false by kernel_rfl)
        · simp at ht⟩)
    (by kernel_rfl)
#print axioms parseMoves_holds
end Go.Proofs.YtolodaoffkbefaaDoor
