/- The step that any line is (TaleStepsUpto): where the line is of bulk at most 1048576; beyond 2^44 letters strings.Split's slice passes what make bears (BY SIZE). -/
import Derived.Test.YtgejcelgofmbgaaDoorRb3
import Derived.Maps.AppendAt
import Derived.Maps.OwnIn
import Derived.Stop.LaidErr
import Derived.ChangeBears2
import Derived.Test.YtgejcelgofmbgaaDoorRb2
import Derived.Test.YtgejcelgofmbgaaDoorTie
import Derived.Test.YtgejcelgofmbgaaDoorCards
import Derived.Shelf.Strconv.Itoa3
import Derived.Shelf.Strconv.AtoiAll
import Derived.Lib.AtoiErrMem
import Derived.KernelRfl
import Derived.Deep.DeepHandedRow
import Derived.Deep.DeepWitnessRowRef
import Derived.JoinedCond
/- tale.Read: the steps of a text's lines, where each line is a step. -/
set_option linter.unusedVariables false
set_option linter.unusedSimpArgs false
namespace Go.Proofs.YtgejcelgofmbgaaDoor.rb
open Go Go.Proofs Go.RowKit Go.Shelf Rb
attribute [local go_sem] Oper.semAt_some

theorem boxed_own {β : Type} (B b : Nat) (t : TypeId) (v : Value) : OwnFrom B (fun (_ : β) W => Boxed W b t v) := by
  intro s W W' row h hg hr
  refine h.kept hg fun e => ?_
  obtain ⟨_, o, ho, hc⟩ := hr b e.symm
  rw [show W.heap[b]? = _ from h] at ho; cases ho; cases hc
theorem own_less {w : World} {b b' : Nat} {e : TypeId} {size n : Nat} {v : Value} {xs : List Value} (h : w.ownsRow b e size v n xs) (hb : b' ≤ b) : w.ownsRow b' e size v n xs := by
  refine ⟨h.1, ?_⟩
  rcases h.2 with h | ⟨g, cap, cur, h1, h2, h3⟩
  · exact .inl h
  · exact .inr ⟨g, cap, cur, h1, Nat.le_trans hb h2, h3⟩
theorem own_block {w : World} {b k : Nat} {e : TypeId} {size n : Nat} {v : Value} {xs : List Value} (h : w.ownsRow b e size v n xs) (hk : k < b) : v.ownBlock ≠ some k := by
  rcases h.2 with ⟨rfl, _⟩ | ⟨g, cap, cur, rfl, h2, h3⟩
  · simp [Value.ownBlock]
  · simp only [Value.ownBlock, ne_eq, Option.some.injEq]; omega
theorem keeps_below {W W' : World} (h : Below W.heap.size W W') : KeepsOthers W W' := ⟨h.size, fun k o hk _ => (h.block k (Array.getElem?_eq_some_iff.1 hk).1).trans hk⟩
theorem left_below {b : Nat} {W W' : World} (hb : b < W.heap.size) (h : Below W.heap.size W W') : Rb.Left b W W' := ⟨h.size, h.block b hb⟩
theorem boxed_below {W W' : World} {b : Nat} {t : TypeId} {v : Value} (hb : Boxed W b t v) (h : Below W.heap.size W W') : Boxed W' b t v := (h.block b hb.lt).trans hb
theorem own_below {w W' : World} {b : Nat} {e : TypeId} {size n : Nat} {v : Value} {xs : List Value} (h : w.ownsRow b e size v n xs) (hk : Below w.heap.size w W') : W'.ownsRow b e size v n xs := by
  refine ⟨h.1, ?_⟩
  rcases h.2 with h | ⟨g, cap, cur, h1, h2, h3, h4⟩
  · exact .inl h
  · exact .inr ⟨g, cap, cur, h1, h2, (hk.block g (Array.getElem?_eq_some_iff.1 h3).1).trans h3, h4⟩


def stV (x : Stp) : List Value := [.int .i64 x.1, .int .i64 x.2.1, .int .i64 x.2.2]
/-- A line without its end. -/
def trimL (x : List UInt8) : List UInt8 := if x.getLast? = some 10 then x.dropLast else x

theorem lines_call (n : Nat) (s : ByteArray) (W : World) : CallsIn Fence.wide n Tryd.prog 16 #[.string s] W fun e W' => e = .returned (.func (.func 22) #[] #[.pointer (some ⟨W.heap.size, 0, none⟩)]) ∧ W' = W.alloc (.cells #[.string s] 9) := by
  refine callsIn_of_wp Tryd.func16 rfl trivial ?_ rfl
  simp only [Tryd.ntmps16, List.size_toArray, List.length_cons, List.length_nil, Nat.reduceAdd, Nat.reduceSub, Array.replicate_succ, Array.replicate_zero, List.push_toArray, List.append_toArray, List.nil_append, List.cons_append]
  gi_wp2
  go_ret
  exact ⟨rfl, rfl⟩

theorem own_len {w W : World} {b n : Nat} {v : Value} {xs : List Value} (h : w.ownsRow b 23 3 v n xs) : (Builtin.len_ #[34] 3 #[v]).run Tryd.prog W = .ok (.int .i64 n) W := by
  rcases h.2 with ⟨rfl, rfl⟩ | ⟨g, cap, cur, rfl, _⟩
  · simp [go_sem, Builtin.len_]
  · simp [go_sem, Builtin.len_]
theorem cell_three_new (w : World) (x y z : Value) (t : TypeId) : ∀ j u, [x, y, z][j]? = some u → (w.alloc (.cells #[x, y, z] t)).cell? ((⟨w.heap.size, 0, none⟩ : Addr).add j) = some u := by
  intro j u hj
  match j, hj with
  | 0, hj => simp at hj; subst hj; simp [Addr.add]
  | 1, hj => simp at hj; subst hj; simp [Addr.add]
  | 2, hj => simp at hj; subst hj; simp [Addr.add]
  | j + 3, hj => simp at hj
theorem results_cells3 {fn : Func} {p q r : Tmp} {t1 t2 t3 : TypeId} (h : fn.results = #[.cell p t1, .cell q t2, .cell r t3]) (tmps : Array Value) (P : Program) (w : World) :
    (results fn tmps).run P w = ((asAddr (tmps.getD p undef)).run P w).andThen fun a w₁ => ((loadVar t1 a).run P w₁).andThen fun v w₂ => ((asAddr (tmps.getD q undef)).run P w₂).andThen fun a' w₃ => ((loadVar t2 a').run P w₃).andThen fun v' w₄ =>
      ((asAddr (tmps.getD r undef)).run P w₄).andThen fun a'' w₅ => ((loadVar t3 a'').run P w₅).andThen fun v'' w₆ => .ok (.tuple #[v, v', v'']) w₆ := by
  simp only [results, h]
  simp [Sem.run_bind, Result.andThen]
theorem infoS : (Tryd.prog.info? 23).map (fun i => (i.zero, i.size, i.bytes)) = some (some (.agg #[.int .i64 0, .int .i64 0, .int .i64 0]), 3, 24) := by kernel_rfl

set_option maxRecDepth 100000 in
set_option maxHeartbeats 4000000 in
theorem read_in (n : Nat) (hn : 3 ≤ n) (s : ByteArray) (hlen : s.size ≤ 9223372036854775800) (w : World) (f : List UInt8 → Stp)
    (hcnt : (linesOf s.data.toList).length ≤ 4096)
    (hIB : ∀ (r : ByteArray) (W : World), Calls Tryd.prog 23 #[.string r, .int .u8 10] W fun e W' => e = .returned (.int .i64 (Go.Lib.indexByte r.data.toList 10)) ∧ W' = W)
    (hTr : ∀ x ∈ linesOf s.data.toList, ∀ (W : World), Below w.heap.size w W → Calls Tryd.prog 17 #[.string ⟨x.toArray⟩, .string ⟨#[10]⟩] W fun e W' => e = .returned (.string ⟨(trimL x).toArray⟩) ∧ Below W.heap.size W W')
    (hSt : ∀ x ∈ linesOf s.data.toList, ∀ W, Below w.heap.size w W → Calls Tryd.prog 9 #[.string ⟨(trimL x).toArray⟩] W fun e W' => e = .returned (.tuple #[.agg #[.int .i64 (f x).1, .int .i64 (f x).2.1, .int .i64 (f x).2.2], .int .i64 0]) ∧ Below W.heap.size W W') :
    CallsIn Fence.wide n Tryd.prog 10 #[.string s] w fun e w' => ∃ v, e = .returned (.tuple #[v, .int .i64 0, .int .i64 0]) ∧ w'.ownsRow w.heap.size 23 3 v (linesOf s.data.toList).length ((linesOf s.data.toList).flatMap fun x => stV (f x)) ∧ Below w.heap.size w w' := by
  obtain ⟨i0, hi, hz0, hz1, hz2⟩ := info_parts infoS
  refine callsIn_of_wp_marks Tryd.func10 rfl trivial ?_ rfl
  simp only [Tryd.ntmps10, List.size_toArray, List.length_cons, List.length_nil, Nat.reduceAdd, Nat.reduceSub, Array.replicate_succ, Array.replicate_zero, List.push_toArray, List.append_toArray, List.nil_append, List.cons_append]
  gi_wp2
  refine ⟨trivial, fun _ => by omega, (lines_call _ s _).mono ?_⟩
  rintro e W2 ⟨rfl, rfl⟩
  gi_wp2
  have hgo : ∀ W : World, Below w.heap.size w W → w.heap.size ≤ W.heap.size := fun W h => h.size
  refine wpIn_rangeFunc_turns (by omega) (gf := 22) (lb := #[.pointer (some ⟨w.heap.size + 1 + 1 + 1 + 1, 0, none⟩)]) rfl (enters_of Tryd.func22 (by kernel_rfl) rfl)
    (encs := encB) (b := w.heap.size + 1 + 1 + 1 + 1) (xs := linesOf s.data.toList) (by simp) (lines_seq (n - 1) (by omega) _ s hlen _ ?boxS (fun r W => callsIn_wide.2 (hIB r W))) (fun _ => rfl)
    (fun pre W => (∃ v, Boxed W (w.heap.size + 1 + 1 + 1) 34 v ∧ W.ownsRow (w.heap.size + 5) 23 3 v pre.length (pre.flatMap fun x => stV (f x)) ∧ True) ∧ Boxed W w.heap.size 34 (.slice none 0 0) ∧ Boxed W (w.heap.size + 1) 3 (.int .i64 0) ∧ Boxed W (w.heap.size + 1 + 1) 24 (.int .i64 0) ∧ Below w.heap.size w W)
    ?own ?turn ?start
    (fun x => { tmps := #[.string s, undef, .pointer (some ⟨w.heap.size, 0, none⟩), .pointer (some ⟨w.heap.size + 1, 0, none⟩), .pointer (some ⟨w.heap.size + 1 + 1, 0, none⟩), .pointer (some ⟨w.heap.size + 1 + 1 + 1, 0, none⟩), .string ⟨x.toArray⟩, undef, undef, .string s, .func (.func 22) #[] #[.pointer (some ⟨w.heap.size + 1 + 1 + 1 + 1, 0, none⟩)], .string ⟨x.toArray⟩, undef, undef, undef, undef, undef, undef, undef, undef, undef, undef, undef, undef, undef, undef, undef, undef, undef, undef, undef, undef], defers := [] }) ?assign ?body ?done
  case boxS =>
    have h := Boxed.new ((((w.alloc (.cells #[.slice none 0 0] 34)).alloc (.cells #[.int .i64 0] 3)).alloc (.cells #[.int .i64 0] 24)).alloc (.cells #[.slice none 0 0] 34)) 9 (.string s)
    simpa only [World.size_alloc] using h
  case own =>
    exact OwnFrom.and (Own.from (holdsRow_own _ _ 34 23 3 (fun pre : List (List UInt8) => pre.length) (fun pre : List (List UInt8) => pre.flatMap fun x => stV (f x)) (fun _ _ => True)) _)
      (OwnFrom.and (boxed_own _ _ _ _) (OwnFrom.and (boxed_own _ _ _ _) (OwnFrom.and (boxed_own _ _ _ _) (ownFrom_below (Nat.le_refl _) (by simp <;> omega)))))
  case turn =>
    rintro pre A B ⟨⟨v, h1, h2, _⟩, h3, h4, h5, h6⟩ ⟨hg, _⟩
    refine ⟨⟨v, h1.kept hg (by simp), h2.kept hg (.inr (own_block h2 (by omega))), trivial⟩, h3.kept hg (by simp <;> omega), h4.kept hg (by simp <;> omega), h5.kept hg (by simp <;> omega), h6.grown hg h6.size (by simp <;> omega)⟩
  case start =>
    have B0 := (Boxed.new w 34 (.slice none 0 0))
    have h1 : Below w.heap.size w (w.alloc (.cells #[.slice none 0 0] 34)) := (Below.refl _ w).alloc (Nat.le_refl _) _
    have h2 := h1.alloc (by simp) (.cells #[.int .i64 0] 3)
    have h3 := h2.alloc (by simp <;> omega) (.cells #[.int .i64 0] 24)
    have h4 := h3.alloc (by simp <;> omega) (.cells #[.slice none 0 0] 34)
    have h5 := h4.alloc (by simp <;> omega) (.cells #[.string s] 9)
    have B1 := Boxed.new (w.alloc (.cells #[.slice none 0 0] 34)) 3 (.int .i64 0)
    have B2 := Boxed.new ((w.alloc (.cells #[.slice none 0 0] 34)).alloc (.cells #[.int .i64 0] 3)) 24 (.int .i64 0)
    have B3 := Boxed.new (((w.alloc (.cells #[.slice none 0 0] 34)).alloc (.cells #[.int .i64 0] 3)).alloc (.cells #[.int .i64 0] 24)) 34 (.slice none 0 0)
    simp only [World.size_alloc] at B1 B2 B3
    exact ⟨⟨_, B3.alloc _, World.ownsRow_nil _ _ _ _, trivial⟩, (((B0.alloc _).alloc _).alloc _).alloc _, ((B1.alloc _).alloc _).alloc _, (B2.alloc _).alloc _, h5⟩
  case assign =>
    intro l x W K hK
    simp only [encB]
    gi_wp2
    exact hK
  case body =>
    rintro l pre x W hWs ⟨⟨v, hv, hrow, _⟩, h3, h4, h5, h6⟩ hpx
    have hc := hv.cell
    have hl := fun W' => own_len (W := W') hrow
    have hpl : pre.length < 4096 := by
      obtain ⟨t, ht⟩ := hpx
      have := congrArg List.length ht
      simp at this; omega
    gi_wp2
    have hxm : x ∈ linesOf s.data.toList := by
      obtain ⟨t, ht⟩ := hpx
      rw [← ht]; simp
    refine ⟨trivial, fun _ => by omega, ((callsIn_wide.2 (hTr x hxm W h6)).inRound l).mono ?_⟩
    rintro e W1 ⟨rfl, hb1⟩
    gi_wp2
    have h61 : Below w.heap.size w W1 := h6.trans (hb1.mono h6.size)
    refine ⟨trivial, fun _ => by omega, ((callsIn_wide.2 (hSt x hxm W1 h61)).inRound l).mono ?_⟩
    rintro e W2 ⟨rfl, hb2⟩
    have h62 : Below w.heap.size w W2 := h61.trans (hb2.mono h61.size)
    have hv2 := boxed_below (boxed_below hv hb1) hb2
    have hrow2 := own_below (own_below hrow hb1) hb2
    have hva := hv2.alloc (.cells #[.int .i64 (f x).1, .int .i64 (f x).2.1, .int .i64 (f x).2.2] 23)
    have hrowa := hrow2.alloc (.cells #[.int .i64 (f x).1, .int .i64 (f x).2.1, .int .i64 (f x).2.2] 23)
    have hc2 := hva.cell
    have hsz2 : w.heap.size + 5 ≤ W2.heap.size := by
      have e1 := hb1.size
      have e2 := hb2.size
      simp at hWs
      omega
    gi_wp2_with (gi_at_builtin; refine wpListIn_append_own _ rfl _ _ 34 rfl (w.heap.size + 5) 23 i0 _ 3 24 Tryd.underlying34 hi hz0 hz1 hz2 rfl (by decide) _ _ _ rfl (hrowa.alloc _) ⟨W2.heap.size + 1, 0, none⟩ 1 1 [.int .i64 (f x).1, .int .i64 (f x).2.1, .int .i64 (f x).2.2] rfl rfl (by have := cell_three_new (W2.alloc (.cells #[.int .i64 (f x).1, .int .i64 (f x).2.1, .int .i64 (f x).2.2] 23)) (.int .i64 (f x).1) (.int .i64 (f x).2.1) (.int .i64 (f x).2.2) 23; simpa only [World.size_alloc] using this) (by simp [Value.oneCell']) (by unfold maxLen; omega) (by omega) (by simp; omega) ?_; intro v' w1 hown' hgrow _; obtain ⟨g', cap', rfl⟩ := ownsRow_succ hown'; obtain ⟨hv1, hvs, hrs, hks, hbs⟩ := hva.appended (by decide) (own_less hrowa (b' := w.heap.size) (by omega)) (by simp; omega) (by omega) (own_less hown' (by omega)) hgrow; have hc1 := hv1.cell; have hf1 := hv1.frozen)
    have keep : ∀ {b : Nat} {t : TypeId} {u : Value}, Boxed W b t u → b < w.heap.size + 5 → b ≠ w.heap.size + 1 + 1 + 1 → Boxed (w1.setCell ⟨w.heap.size + 1 + 1 + 1, 0, none⟩ (.slice (some ⟨g', 0, none⟩) (pre.length + 1) cap')) b t u := by
      intro b t u h hlt hne
      exact ((((boxed_below (boxed_below h hb1) hb2).alloc _).alloc _).kept hgrow (fun e => own_block hrow2 hlt e.symm)).kept (grownBy_setCell' _ _ _) (fun e => hne (by cases e; rfl))
    refine ⟨?_, ?_, ⟨⟨_, hvs, ?_⟩, keep h3 (by omega) (by omega), keep h4 (by omega) (by omega), keep h5 (by omega) (by omega), ?_⟩⟩
    · exact ((((keeps_below hb1).trans (keeps_below hb2)).trans (KeepsOthers.alloc W2 _)).trans hks).from _
    · have hb4 : w.heap.size + 1 + 1 + 1 + 1 < W.heap.size := by simp at hWs; omega
      have hb42 : w.heap.size + 1 + 1 + 1 + 1 < W2.heap.size := by omega
      refine ((left_below hb4 hb1).trans (left_below (by have := hb1.size; omega) hb2)).trans ⟨Nat.le_trans (by simp) hks.size, ?_⟩
      refine (Below.heap_setCell _ _ _ _ (by simp)).trans ?_
      refine (hgrow.block _ (by simp; omega) (fun e => own_block hrow2 (by omega) e.symm)).trans ?_
      exact (Below.heap_alloc _ _ _ (by simp; omega)).trans (Below.heap_alloc _ _ _ (by omega))
    · have := hown'.kept (grownBy_setCell' w1 (w.heap.size + 1 + 1 + 1) (.slice (some ⟨g', 0, none⟩) (pre.length + 1) cap')) (.inr (hv1.not_row (by decide) hown').symm)
      exact this
    · exact (h62.alloc h62.size _).trans hbs
  case done =>
    rintro D W hD ⟨⟨v, hv, hrow, _⟩, h3, h4, h5, h6⟩ hK
    have hc := hv.cell
    have c3 := h3.cell
    have c4 := h4.cell
    have c5 := h5.cell
    have f3 := h3.frozen
    have f4 := h4.frozen
    have f5 := h5.frozen
    have hrow0 := own_less hrow (b' := w.heap.size) (by omega)
    have hK0 : ∀ {b : Nat} {o : Obj}, W.heap[b]? = some o → o.isCells = true → b ≠ D := by
      intro b o h ho e
      subst e
      rw [hK] at h; cases h; cases ho
    rcases hrow.2 with ⟨rfl, hz⟩ | ⟨g, cap, cur, rfl, hrest⟩
    · gi_wp2
      have hK1 : (((W.setCell ⟨w.heap.size, 0, none⟩ (.slice none 0 0)).setCell ⟨w.heap.size + 1, 0, none⟩ (.int .i64 0)).setCell ⟨w.heap.size + 1 + 1, 0, none⟩ (.int .i64 0)).heap[D]? = some (.deferred (some [])) :=
        (Below.heap_setCell _ _ _ _ (hK0 h5 rfl).symm).trans ((Below.heap_setCell _ _ _ _ (hK0 h4 rfl).symm).trans ((Below.heap_setCell _ _ _ _ (hK0 h3 rfl).symm).trans hK))
      refine ⟨by simp, .inl ⟨_, _, rfl, run_takeDeferred hK1, ?_⟩⟩
      have B0 := ((h3.set (.slice none 0 0)).other (B' := w.heap.size + 1) (by omega) (.int .i64 0)).other (B' := w.heap.size + 1 + 1) (by omega) (.int .i64 0)
      have B1 := ((h4.other (B' := w.heap.size) (by omega) (.slice none 0 0)).set (.int .i64 0)).other (B' := w.heap.size + 1 + 1) (by omega) (.int .i64 0)
      have B2 := (((h5.other (B' := w.heap.size) (by omega) (.slice none 0 0)).other (B' := w.heap.size + 1) (by omega) (.int .i64 0)).set (.int .i64 0))
      have D0 := (B0.kept (grownBy_putObj' _ D (.deferred none)) (by simp; exact hK0 h3 rfl)).cell
      have D1 := (B1.kept (grownBy_putObj' _ D (.deferred none)) (by simp; exact hK0 h4 rfl)).cell
      have D2 := (B2.kept (grownBy_putObj' _ D (.deferred none)) (by simp; exact hK0 h5 rfl)).cell
      refine ⟨.tuple #[(.slice none 0 0), .int .i64 0, .int .i64 0], ?_, ?_⟩
      · rw [results_cells3 rfl]
        simp [go_sem, D0, D1, D2]
      · refine ⟨_, rfl, ?_, ?_⟩
        · refine ownsRow_putObj (((hrow0.kept (grownBy_setCell' _ _ _) (.inr (own_block hrow (by omega)))).kept (grownBy_setCell' _ _ _) (.inr (own_block hrow (by omega)))).kept (grownBy_setCell' _ _ _) (.inr (own_block hrow (by omega)))) _ hK1 rfl
        · exact (((h6.setCell (p := ⟨w.heap.size, 0, none⟩) (Nat.le_refl _) _).setCell (p := ⟨w.heap.size + 1, 0, none⟩) (by simp) _).setCell (p := ⟨w.heap.size + 1 + 1, 0, none⟩) (by simp <;> omega) _).trans (belowK_b (w := w) (Nat.le_refl _) _ D _ _ (by simp at hD; omega) hK1 rfl rfl)
    · gi_wp2
      have hK1 : (((W.setCell ⟨w.heap.size, 0, none⟩ (.slice (some ⟨g, 0, none⟩) (linesOf s.data.toList).length cap)).setCell ⟨w.heap.size + 1, 0, none⟩ (.int .i64 0)).setCell ⟨w.heap.size + 1 + 1, 0, none⟩ (.int .i64 0)).heap[D]? = some (.deferred (some [])) :=
        (Below.heap_setCell _ _ _ _ (hK0 h5 rfl).symm).trans ((Below.heap_setCell _ _ _ _ (hK0 h4 rfl).symm).trans ((Below.heap_setCell _ _ _ _ (hK0 h3 rfl).symm).trans hK))
      refine ⟨by simp, .inl ⟨_, _, rfl, run_takeDeferred hK1, ?_⟩⟩
      have B0 := ((h3.set (.slice (some ⟨g, 0, none⟩) (linesOf s.data.toList).length cap)).other (B' := w.heap.size + 1) (by omega) (.int .i64 0)).other (B' := w.heap.size + 1 + 1) (by omega) (.int .i64 0)
      have B1 := ((h4.other (B' := w.heap.size) (by omega) (.slice (some ⟨g, 0, none⟩) (linesOf s.data.toList).length cap)).set (.int .i64 0)).other (B' := w.heap.size + 1 + 1) (by omega) (.int .i64 0)
      have B2 := (((h5.other (B' := w.heap.size) (by omega) (.slice (some ⟨g, 0, none⟩) (linesOf s.data.toList).length cap)).other (B' := w.heap.size + 1) (by omega) (.int .i64 0)).set (.int .i64 0))
      have D0 := (B0.kept (grownBy_putObj' _ D (.deferred none)) (by simp; exact hK0 h3 rfl)).cell
      have D1 := (B1.kept (grownBy_putObj' _ D (.deferred none)) (by simp; exact hK0 h4 rfl)).cell
      have D2 := (B2.kept (grownBy_putObj' _ D (.deferred none)) (by simp; exact hK0 h5 rfl)).cell
      refine ⟨.tuple #[(.slice (some ⟨g, 0, none⟩) (linesOf s.data.toList).length cap), .int .i64 0, .int .i64 0], ?_, ?_⟩
      · rw [results_cells3 rfl]
        simp [go_sem, D0, D1, D2]
      · refine ⟨_, rfl, ?_, ?_⟩
        · refine ownsRow_putObj (((hrow0.kept (grownBy_setCell' _ _ _) (.inr (own_block hrow (by omega)))).kept (grownBy_setCell' _ _ _) (.inr (own_block hrow (by omega)))).kept (grownBy_setCell' _ _ _) (.inr (own_block hrow (by omega)))) _ hK1 rfl
        · exact (((h6.setCell (p := ⟨w.heap.size, 0, none⟩) (Nat.le_refl _) _).setCell (p := ⟨w.heap.size + 1, 0, none⟩) (by simp) _).setCell (p := ⟨w.heap.size + 1 + 1, 0, none⟩) (by simp <;> omega) _).trans (belowK_b (w := w) (Nat.le_refl _) _ D _ _ (by simp at hD; omega) hK1 rfl rfl)
end Go.Proofs.YtgejcelgofmbgaaDoor.rb

/- A variable that holds an error. -/
set_option linter.unusedVariables false
set_option linter.unusedSimpArgs false
namespace Rb
open Go Go.RowKit
theorem err_ptr {F : FTab} {W : World} {g : Nat} {tp : TypeId} {a : Addr} {x : Value} (hc : W.cell? ⟨g, 0, none⟩ = some (.iface tp (.pointer (some a)))) (ha : W.cell? a = some x) :
    VR F W (Ghost.mt (allFz W)) (.fptr [.iface tp (.fptr [])]) (.pointer (some ⟨g, 0, none⟩)) := by
  have hsp : a.spot = none := by
    unfold World.cell? at ha
    split at ha
    · split at ha
      · cases ha
      · rename_i hn
        cases h : a.spot with
        | none => rfl
        | some _ => rw [h] at hn; simp at hn
    · cases ha
  obtain ⟨b, o, sp⟩ := a
  simp only at hsp
  subst hsp
  refine .fptr _ g 0 (fun _ => .iface tp (.pointer (some ⟨b, o, none⟩))) (fun j c hj => ?_) fun j c hj => ?_
  · cases j with
    | zero => exact ⟨⟨_, hc⟩, hc⟩
    | succ j => simp at hj
  · cases j with
    | zero =>
      simp at hj
      subst hj
      exact .iface _ _ _ (.fptr [] b o (fun _ => x) (fun j c h => by simp at h) fun j c h => by simp at h)
    | succ j => simp at hj
end Rb

/- What all laws of the seat share: the variables that the text of the program lays. By wrap.py. -/
set_option linter.unusedVariables false
namespace Go.Proofs.YtgejcelgofmbgaaDoor.rb
open Rb Go.ChangeShapes Go.WideShapes Go.ChangeAt Go.RowKit

theorem own : ownKnob Tryd.prog.godebug = none := by kernel_rfl
theorem laidOut : laidOutB Tryd.prog = true := by kernel_rfl
theorem cellsU : Tryd.prog.cellsOf 5 = 1 := by kernel_rfl
def laidVars : List (String × DataW Unit) := Rows.taleLinesRow.laid

theorem gT0 : Tryd.prog.globalNamed "internal/strconv.uint64pow10" = some 2 := by kernel_rfl
theorem gTType0 : (Tryd.prog.globals[2]?).map (·.type) = some 83 := by kernel_rfl
theorem cellsT0 : Tryd.prog.cellsOf 83 = 20 := by kernel_rfl
theorem tab_eq0 : (Rows.laid_internal_strconv_uint64pow10 : DataW Unit) = Go.Lib.tabData .u64 tenTab := by kernel_rfl
theorem tab_mem0 : (("internal/strconv.uint64pow10", Go.Lib.tabData .u64 tenTab) : String × DataW Unit) ∈ laidVars := by
  rw [← tab_eq0]; exact .tail _ (.tail _ (.head _))
theorem tab_of0 {W : World} (h : laidMet Tryd.prog laidVars W) : Go.Lib.TabIs Tryd.prog W "internal/strconv.uint64pow10" .u64 tenTab := by
  obtain ⟨g', t', cs, fuel, p, hg', ht', hvar, hd⟩ := Go.Lib.laidMet.reads h tab_mem0
  obtain rfl := Option.some.inj (gT0.symm.trans hg')
  obtain rfl := Option.some.inj (gTType0.symm.trans ht')
  unfold Go.Lib.TabIs
  rw [hvar, ← Go.Lib.cells_of_tab Tryd.underlying83 Tryd.underlying12 (by kernel_rfl) cellsT0 hd]

theorem gT1 : Tryd.prog.globalNamed "math/bits.deBruijn64tab" = some 7 := by kernel_rfl
theorem gTType1 : (Tryd.prog.globals[7]?).map (·.type) = some 101 := by kernel_rfl
theorem cellsT1 : Tryd.prog.cellsOf 101 = 64 := by kernel_rfl
theorem tab_eq1 : (Rows.laid_math_bits_deBruijn64tab : DataW Unit) = Go.Lib.tabData .u8 deB64 := by kernel_rfl
theorem tab_mem1 : (("math/bits.deBruijn64tab", Go.Lib.tabData .u8 deB64) : String × DataW Unit) ∈ laidVars := by
  rw [← tab_eq1]; exact .tail _ (.head _)
theorem tab_of1 {W : World} (h : laidMet Tryd.prog laidVars W) : Go.Lib.TabIs Tryd.prog W "math/bits.deBruijn64tab" .u8 deB64 := by
  obtain ⟨g', t', cs, fuel, p, hg', ht', hvar, hd⟩ := Go.Lib.laidMet.reads h tab_mem1
  obtain rfl := Option.some.inj (gT1.symm.trans hg')
  obtain rfl := Option.some.inj (gTType1.symm.trans ht')
  unfold Go.Lib.TabIs
  rw [hvar, ← Go.Lib.cells_of_tab Tryd.underlying101 Tryd.underlying5 cellsU cellsT1 hd]

theorem cellsE : Tryd.prog.cellsOf 92 = 1 := by kernel_rfl
theorem cellsS : Tryd.prog.cellsOf 9 = 1 := by kernel_rfl
theorem rowE (nm : String) (hn : ("*" ++ "errors.errorString" : String) = nm) (u : TypeId) (h : Tryd.prog.typeName? 3 u = some nm) : u = 90 :=
  typeName_ptr_named (nm := "errors.errorString") (by kernel_rfl) (by kernel_rfl) (by decide) u (by rw [hn]; exact h)
theorem gErrSyntax : Tryd.prog.globalNamed "strconv.ErrSyntax" = some 0 := by kernel_rfl
theorem tErrSyntax : (Tryd.prog.globals[0]?).map (·.type) = some 44 := by kernel_rfl
theorem atErrSyntax {W : World} (h : laidMet Tryd.prog laidVars W) : VR C.F W (Ghost.mt (allFz W)) (.fptr [.iface 90 (.fptr [])]) (.pointer (some ⟨0, 0, none⟩)) := by
  obtain ⟨a, s, hv, hc, -, -⟩ := laid_sentinel (show laidMet Tryd.prog (("strconv.ErrSyntax", Rows.laid_strconv_ErrSyntax) :: _) W from h.tail.tail.tail.tail.tail) gErrSyntax tErrSyntax Tryd.underlying44 (rowE _ (by decide)) Tryd.underlying90 Tryd.underlying92 rfl rfl Tryd.underlying9 cellsE cellsS
  exact err_ptr (by have h0 := World.var?_cell gErrSyntax hv 0; simpa using h0) hc
theorem szErrSyntax {W : World} (h : laidMet Tryd.prog laidVars W) : ∃ cs t fr, W.heap[(0 : Nat)]? = some (.cells cs t fr) ∧ cs.size = 1 := by
  obtain ⟨a, s, hv, hc, -, -⟩ := laid_sentinel (show laidMet Tryd.prog (("strconv.ErrSyntax", Rows.laid_strconv_ErrSyntax) :: _) W from h.tail.tail.tail.tail.tail) gErrSyntax tErrSyntax Tryd.underlying44 (rowE _ (by decide)) Tryd.underlying90 Tryd.underlying92 rfl rfl Tryd.underlying9 cellsE cellsS
  obtain ⟨cs, t, fr, h1, h2⟩ := size_of_var gErrSyntax hv
  exact ⟨cs, t, fr, h1, h2⟩

theorem gErrRange : Tryd.prog.globalNamed "strconv.ErrRange" = some 1 := by kernel_rfl
theorem tErrRange : (Tryd.prog.globals[1]?).map (·.type) = some 44 := by kernel_rfl
theorem atErrRange {W : World} (h : laidMet Tryd.prog laidVars W) : VR C.F W (Ghost.mt (allFz W)) (.fptr [.iface 90 (.fptr [])]) (.pointer (some ⟨1, 0, none⟩)) := by
  obtain ⟨a, s, hv, hc, -, -⟩ := laid_sentinel (show laidMet Tryd.prog (("strconv.ErrRange", Rows.laid_strconv_ErrRange) :: _) W from h.tail.tail.tail.tail) gErrRange tErrRange Tryd.underlying44 (rowE _ (by decide)) Tryd.underlying90 Tryd.underlying92 rfl rfl Tryd.underlying9 cellsE cellsS
  exact err_ptr (by have h0 := World.var?_cell gErrRange hv 0; simpa using h0) hc
theorem szErrRange {W : World} (h : laidMet Tryd.prog laidVars W) : ∃ cs t fr, W.heap[(1 : Nat)]? = some (.cells cs t fr) ∧ cs.size = 1 := by
  obtain ⟨a, s, hv, hc, -, -⟩ := laid_sentinel (show laidMet Tryd.prog (("strconv.ErrRange", Rows.laid_strconv_ErrRange) :: _) W from h.tail.tail.tail.tail) gErrRange tErrRange Tryd.underlying44 (rowE _ (by decide)) Tryd.underlying90 Tryd.underlying92 rfl rfl Tryd.underlying9 cellsE cellsS
  obtain ⟨cs, t, fr, h1, h2⟩ := size_of_var gErrRange hv
  exact ⟨cs, t, fr, h1, h2⟩

theorem gok0 {W : World} (h : laidMet Tryd.prog laidVars W) : GOK C W (Ghost.mt (allFz W)) := by
  intro g l hg
  change gt g = some l at hg
  unfold gt at hg
  split at hg
  · rename_i e
    subst e
    cases hg
    rw [(show pow10tab = tenTab.map (AV.int .u64) from rfl)]
    exact fptr_of_tab fun i hi => (tab_of0 h).cell gT0 i hi
  · split at hg
    · rename_i e
      subst e
      cases hg
      rw [(show deBruijn64tab = deB64.map (AV.int .u8) from rfl)]
      exact fptr_of_tab fun i hi => (tab_of1 h).cell gT1 i hi
    · split at hg
      · rename_i e
        subst e
        cases hg
        exact atErrSyntax h
      · split at hg
        · rename_i e
          subst e
          cases hg
          exact atErrRange h
        · cases hg
theorem gok {W : World} (h : laidMet Tryd.prog laidVars W) : GOX C W (Ghost.mt (allFz W)) AH.mt := by
  refine ⟨gok0 h, fun g l hg _ => ⟨?_, fun i hi => by cases hi⟩⟩
  change gt g = some l at hg
  unfold gt at hg
  split at hg
  · rename_i e
    subst e
    cases hg
    obtain ⟨cs, t, fr, h1, h2⟩ := size_of_var gT0 (tab_of0 h)
    exact ⟨cs, t, fr, h1, h2.trans (by kernel_rfl)⟩
  · split at hg
    · rename_i e
      subst e
      cases hg
      obtain ⟨cs, t, fr, h1, h2⟩ := size_of_var gT1 (tab_of1 h)
      exact ⟨cs, t, fr, h1, h2.trans (by kernel_rfl)⟩
    · split at hg
      · rename_i e
        subst e
        cases hg
        exact szErrSyntax h
      · split at hg
        · rename_i e
          subst e
          cases hg
          exact szErrRange h
        · cases hg

/-- A world in which the variables hold what their initialisers lay. -/
noncomputable def laidWorld (os : Os) : World :=
  let N := (World.settled Tryd.prog os).heap.size
  let w0 := World.holding Tryd.prog os ⟨#[.cells #[.string ⟨#[118, 97, 108, 117, 101, 32, 111, 117, 116, 32, 111, 102, 32, 114, 97, 110, 103, 101]⟩] 92, .cells #[.string ⟨#[105, 110, 118, 97, 108, 105, 100, 32, 115, 121, 110, 116, 97, 120]⟩] 92], #[], []⟩
  let put (h : Array Obj) (g : Nat) (cs : Array Value) : Array Obj := h.modify g fun
    | .cells _ t frozen => .cells cs t frozen
    | o => o
  { w0 with heap := put (put (put (put (put (put (put (w0.heap) 6 #[.int .u8 0, .int .u8 1, .int .u8 28, .int .u8 2, .int .u8 29, .int .u8 14, .int .u8 24, .int .u8 3, .int .u8 30, .int .u8 22, .int .u8 20, .int .u8 15, .int .u8 25, .int .u8 17, .int .u8 4, .int .u8 8, .int .u8 31, .int .u8 27, .int .u8 13, .int .u8 23, .int .u8 21, .int .u8 19, .int .u8 16, .int .u8 7, .int .u8 26, .int .u8 12, .int .u8 18, .int .u8 6, .int .u8 11, .int .u8 5, .int .u8 10, .int .u8 9]) 7 #[.int .u8 0, .int .u8 1, .int .u8 56, .int .u8 2, .int .u8 57, .int .u8 49, .int .u8 28, .int .u8 3, .int .u8 61, .int .u8 58, .int .u8 42, .int .u8 50, .int .u8 38, .int .u8 29, .int .u8 17, .int .u8 4, .int .u8 62, .int .u8 47, .int .u8 59, .int .u8 36, .int .u8 45, .int .u8 43, .int .u8 51, .int .u8 22, .int .u8 53, .int .u8 39, .int .u8 33, .int .u8 30, .int .u8 24, .int .u8 18, .int .u8 12, .int .u8 5, .int .u8 63, .int .u8 55, .int .u8 48, .int .u8 27, .int .u8 60, .int .u8 41, .int .u8 37, .int .u8 16, .int .u8 46, .int .u8 35, .int .u8 44, .int .u8 21, .int .u8 52, .int .u8 32, .int .u8 23, .int .u8 11, .int .u8 54, .int .u8 26, .int .u8 40, .int .u8 15, .int .u8 34, .int .u8 20, .int .u8 31, .int .u8 10, .int .u8 25, .int .u8 14, .int .u8 19, .int .u8 9, .int .u8 13, .int .u8 8, .int .u8 7, .int .u8 6]) 2 #[.int .u64 1, .int .u64 10, .int .u64 100, .int .u64 1000, .int .u64 10000, .int .u64 100000, .int .u64 1000000, .int .u64 10000000, .int .u64 100000000, .int .u64 1000000000, .int .u64 10000000000, .int .u64 100000000000, .int .u64 1000000000000, .int .u64 10000000000000, .int .u64 100000000000000, .int .u64 1000000000000000, .int .u64 10000000000000000, .int .u64 100000000000000000, .int .u64 1000000000000000000, .int .u64 10000000000000000000]) 5 #[.int .u8 128, .int .u8 191, .int .u8 160, .int .u8 191, .int .u8 128, .int .u8 159, .int .u8 144, .int .u8 191, .int .u8 128, .int .u8 143, .int .u8 0, .int .u8 0, .int .u8 0, .int .u8 0, .int .u8 0, .int .u8 0, .int .u8 0, .int .u8 0, .int .u8 0, .int .u8 0, .int .u8 0, .int .u8 0, .int .u8 0, .int .u8 0, .int .u8 0, .int .u8 0, .int .u8 0, .int .u8 0, .int .u8 0, .int .u8 0, .int .u8 0, .int .u8 0]) 1 #[.iface 90 (.pointer (some ⟨N + 0, 0, none⟩))]) 0 #[.iface 90 (.pointer (some ⟨N + 1, 0, none⟩))]) 4 #[.int .u8 240, .int .u8 240, .int .u8 240, .int .u8 240, .int .u8 240, .int .u8 240, .int .u8 240, .int .u8 240, .int .u8 240, .int .u8 240, .int .u8 240, .int .u8 240, .int .u8 240, .int .u8 240, .int .u8 240, .int .u8 240, .int .u8 240, .int .u8 240, .int .u8 240, .int .u8 240, .int .u8 240, .int .u8 240, .int .u8 240, .int .u8 240, .int .u8 240, .int .u8 240, .int .u8 240, .int .u8 240, .int .u8 240, .int .u8 240, .int .u8 240, .int .u8 240, .int .u8 240, .int .u8 240, .int .u8 240, .int .u8 240, .int .u8 240, .int .u8 240, .int .u8 240, .int .u8 240, .int .u8 240, .int .u8 240, .int .u8 240, .int .u8 240, .int .u8 240, .int .u8 240, .int .u8 240, .int .u8 240, .int .u8 240, .int .u8 240, .int .u8 240, .int .u8 240, .int .u8 240, .int .u8 240, .int .u8 240, .int .u8 240, .int .u8 240, .int .u8 240, .int .u8 240, .int .u8 240, .int .u8 240, .int .u8 240, .int .u8 240, .int .u8 240, .int .u8 240, .int .u8 240, .int .u8 240, .int .u8 240, .int .u8 240, .int .u8 240, .int .u8 240, .int .u8 240, .int .u8 240, .int .u8 240, .int .u8 240, .int .u8 240, .int .u8 240, .int .u8 240, .int .u8 240, .int .u8 240, .int .u8 240, .int .u8 240, .int .u8 240, .int .u8 240, .int .u8 240, .int .u8 240, .int .u8 240, .int .u8 240, .int .u8 240, .int .u8 240, .int .u8 240, .int .u8 240, .int .u8 240, .int .u8 240, .int .u8 240, .int .u8 240, .int .u8 240, .int .u8 240, .int .u8 240, .int .u8 240, .int .u8 240, .int .u8 240, .int .u8 240, .int .u8 240, .int .u8 240, .int .u8 240, .int .u8 240, .int .u8 240, .int .u8 240, .int .u8 240, .int .u8 240, .int .u8 240, .int .u8 240, .int .u8 240, .int .u8 240, .int .u8 240, .int .u8 240, .int .u8 240, .int .u8 240, .int .u8 240, .int .u8 240, .int .u8 240, .int .u8 240, .int .u8 240, .int .u8 240, .int .u8 240, .int .u8 240, .int .u8 240, .int .u8 241, .int .u8 241, .int .u8 241, .int .u8 241, .int .u8 241, .int .u8 241, .int .u8 241, .int .u8 241, .int .u8 241, .int .u8 241, .int .u8 241, .int .u8 241, .int .u8 241, .int .u8 241, .int .u8 241, .int .u8 241, .int .u8 241, .int .u8 241, .int .u8 241, .int .u8 241, .int .u8 241, .int .u8 241, .int .u8 241, .int .u8 241, .int .u8 241, .int .u8 241, .int .u8 241, .int .u8 241, .int .u8 241, .int .u8 241, .int .u8 241, .int .u8 241, .int .u8 241, .int .u8 241, .int .u8 241, .int .u8 241, .int .u8 241, .int .u8 241, .int .u8 241, .int .u8 241, .int .u8 241, .int .u8 241, .int .u8 241, .int .u8 241, .int .u8 241, .int .u8 241, .int .u8 241, .int .u8 241, .int .u8 241, .int .u8 241, .int .u8 241, .int .u8 241, .int .u8 241, .int .u8 241, .int .u8 241, .int .u8 241, .int .u8 241, .int .u8 241, .int .u8 241, .int .u8 241, .int .u8 241, .int .u8 241, .int .u8 241, .int .u8 241, .int .u8 241, .int .u8 241, .int .u8 2, .int .u8 2, .int .u8 2, .int .u8 2, .int .u8 2, .int .u8 2, .int .u8 2, .int .u8 2, .int .u8 2, .int .u8 2, .int .u8 2, .int .u8 2, .int .u8 2, .int .u8 2, .int .u8 2, .int .u8 2, .int .u8 2, .int .u8 2, .int .u8 2, .int .u8 2, .int .u8 2, .int .u8 2, .int .u8 2, .int .u8 2, .int .u8 2, .int .u8 2, .int .u8 2, .int .u8 2, .int .u8 2, .int .u8 2, .int .u8 19, .int .u8 3, .int .u8 3, .int .u8 3, .int .u8 3, .int .u8 3, .int .u8 3, .int .u8 3, .int .u8 3, .int .u8 3, .int .u8 3, .int .u8 3, .int .u8 3, .int .u8 35, .int .u8 3, .int .u8 3, .int .u8 52, .int .u8 4, .int .u8 4, .int .u8 4, .int .u8 68, .int .u8 241, .int .u8 241, .int .u8 241, .int .u8 241, .int .u8 241, .int .u8 241, .int .u8 241, .int .u8 241, .int .u8 241, .int .u8 241, .int .u8 241] }
theorem laid_met (os : Os) (args : Array Value) : laidMet Tryd.prog laidVars ((laidWorld os).forCall (fun _ _ => 0) ⟨#[], args, []⟩).memory :=
  laidMet_of_run3 10 (by kernel_rfl) (by kernel_rfl) (by kernel_rfl)
theorem laid_shaped (os : Os) (args : Array Value) : ((laidWorld os).forCall (fun _ _ => 0) ⟨#[], args, []⟩).Shaped Tryd.prog := World.shaped_of_RefB (by kernel_rfl) (by kernel_rfl)
end Go.Proofs.YtgejcelgofmbgaaDoor.rb

/- Calls into the library that the script's texts make: numbers as texts and back; words between blanks; lines. -/
set_option linter.unusedVariables false
set_option linter.unusedSimpArgs false
namespace Go.Proofs.YtgejcelgofmbgaaDoor.rb
open Rb Go.Shelf Go.RowKit

def laysM171_ren : Go.Shelf.Ren := ⟨fun | 171 => 12 | 243 => 18 | 246 => 25 | 283 => 36 | 284 => 37 | 285 => 38 | 286 => 39 | 129 => 49 | 317 => 48 | 318 => 50 | 319 => 51 | 320 => 52 | 337 => 59 | 338 => 60 | n => n, fun | 3 => 3 | 9 => 9 | 2 => 2 | 4 => 4 | 171 => 66 | 0 => 0 | 53 => 51 | 37 => 52 | 5 => 5 | 173 => 69 | 212 => 83 | 51 => 84 | 20 => 20 | 213 => 85 | 46 => 76 | 232 => 100 | 233 => 101 | n => n, fun | 17 => 2 | 18 => 6 | 19 => 7 | n => n⟩
theorem laysM171 : Go.Proofs.LaysM.n171 Tryd.prog laysM171_ren := {
  mixed := by kernel_rfl
  f129 := Tryd.func49.trans (congrArg some (by kernel_rfl))
  f171 := Tryd.func12.trans (congrArg some (by kernel_rfl))
  f243 := Tryd.func18.trans (congrArg some (by kernel_rfl))
  f246 := Tryd.func25.trans (congrArg some (by kernel_rfl))
  f283 := Tryd.func36.trans (congrArg some (by kernel_rfl))
  f284 := Tryd.func37.trans (congrArg some (by kernel_rfl))
  f285 := Tryd.func38.trans (congrArg some (by kernel_rfl))
  f286 := Tryd.func39.trans (congrArg some (by kernel_rfl))
  f317 := Tryd.func48.trans (congrArg some (by kernel_rfl))
  f318 := Tryd.func50.trans (congrArg some (by kernel_rfl))
  f319 := Tryd.func51.trans (congrArg some (by kernel_rfl))
  f320 := Tryd.func52.trans (congrArg some (by kernel_rfl))
  f337 := Tryd.func59.trans (congrArg some (by kernel_rfl))
  f338 := Tryd.func60.trans (congrArg some (by kernel_rfl))
  t0 := Tryd.underlying0
  a0 := Tryd.isAgg0
  z0 := Tryd.sizeOf0
  v0 := Tryd.zeroValue0
  t2 := Tryd.underlying2
  a2 := Tryd.isAgg2
  z2 := Tryd.sizeOf2
  v2 := Tryd.zeroValue2
  t3 := Tryd.underlying3
  a3 := Tryd.isAgg3
  z3 := Tryd.sizeOf3
  v3 := Tryd.zeroValue3
  t4 := Tryd.underlying4
  a4 := Tryd.isAgg4
  z4 := Tryd.sizeOf4
  v4 := Tryd.zeroValue4
  t5 := Tryd.underlying5
  a5 := Tryd.isAgg5
  z5 := Tryd.sizeOf5
  v5 := Tryd.zeroValue5
  t9 := Tryd.underlying9
  a9 := Tryd.isAgg9
  z9 := Tryd.sizeOf9
  v9 := Tryd.zeroValue9
  t20 := Tryd.underlying20
  a20 := Tryd.isAgg20
  z20 := Tryd.sizeOf20
  v20 := Tryd.zeroValue20
  t37 := Tryd.underlying52
  a37 := Tryd.isAgg52
  z37 := Tryd.sizeOf52
  v37 := Tryd.zeroValue52
  t46 := Tryd.underlying76
  a46 := Tryd.isAgg76
  z46 := Tryd.sizeOf76
  v46 := Tryd.zeroValue76
  t51 := Tryd.underlying84
  a51 := Tryd.isAgg84
  z51 := Tryd.sizeOf84
  v51 := Tryd.zeroValue84
  t53 := Tryd.underlying51
  a53 := Tryd.isAgg51
  z53 := Tryd.sizeOf51
  v53 := Tryd.zeroValue51
  t171 := Tryd.underlying66
  a171 := Tryd.isAgg66
  z171 := Tryd.sizeOf66
  v171 := Tryd.zeroValue66
  t173 := Tryd.underlying69
  a173 := Tryd.isAgg69
  z173 := Tryd.sizeOf69
  v173 := Tryd.zeroValue69
  t212 := Tryd.underlying83
  a212 := Tryd.isAgg83
  z212 := Tryd.sizeOf83
  v212 := Tryd.zeroValue83
  t213 := Tryd.underlying85
  a213 := Tryd.isAgg85
  z213 := Tryd.sizeOf85
  t232 := Tryd.underlying100
  a232 := Tryd.isAgg100
  z232 := Tryd.sizeOf100
  v232 := Tryd.zeroValue100
  t233 := Tryd.underlying101
  a233 := Tryd.isAgg101
  z233 := Tryd.sizeOf101
  v233 := Tryd.zeroValue101
  g17 := by kernel_rfl
  g18 := by kernel_rfl
  g19 := by kernel_rfl
  i0 := by kernel_rfl
  i2 := by kernel_rfl
  i3 := by kernel_rfl
  i4 := by kernel_rfl
  i5 := by kernel_rfl
  i9 := by kernel_rfl
  i20 := by kernel_rfl
  i37 := by kernel_rfl
  i46 := by kernel_rfl
  i51 := by kernel_rfl
  i53 := by kernel_rfl
  i171 := by kernel_rfl
  i173 := by kernel_rfl
  i212 := by kernel_rfl
  i232 := by kernel_rfl
  i233 := by kernel_rfl
  m17 := by kernel_rfl
  m18 := by kernel_rfl
  m19 := by kernel_rfl }


def laysC172_ren : Go.Shelf.Ren := ⟨fun | 172 => 15 | 244 => 20 | 245 => 21 | 247 => 29 | 279 => 30 | 280 => 31 | 281 => 32 | 282 => 33 | 287 => 44 | 316 => 45 | 171 => 12 | 205 => 46 | 321 => 57 | 322 => 58 | 243 => 18 | 246 => 25 | 283 => 36 | 284 => 37 | 285 => 38 | 286 => 39 | 129 => 49 | 317 => 48 | 318 => 50 | 319 => 51 | 320 => 52 | 337 => 59 | 338 => 60 | n => n, fun | 9 => 9 | 3 => 3 | 75 => 44 | 76 => 45 | 4 => 4 | 5 => 5 | 167 => 59 | 37 => 52 | 0 => 0 | 85 => 60 | 2 => 2 | 168 => 62 | 53 => 51 | 175 => 74 | 46 => 76 | 210 => 79 | 127 => 89 | 145 => 92 | 143 => 90 | 21 => 21 | 171 => 66 | 173 => 69 | 212 => 83 | 51 => 84 | 20 => 20 | 213 => 85 | 232 => 100 | 233 => 101 | 80 => 102 | n => n, fun | 15 => 0 | 16 => 1 | 17 => 2 | 18 => 6 | 19 => 7 | n => n⟩
theorem laysC172 : Go.Proofs.LaysC.n172 Tryd.prog laysC172_ren := {
  mixed := by kernel_rfl
  f129 := Tryd.func49.trans (congrArg some (by kernel_rfl))
  f171 := Tryd.func12.trans (congrArg some (by kernel_rfl))
  f172 := Tryd.func15.trans (congrArg some (by kernel_rfl))
  f205 := Tryd.func46.trans (congrArg some (by kernel_rfl))
  f243 := Tryd.func18.trans (congrArg some (by kernel_rfl))
  f244 := Tryd.func20.trans (congrArg some (by kernel_rfl))
  f245 := Tryd.func21.trans (congrArg some (by kernel_rfl))
  f246 := Tryd.func25.trans (congrArg some (by kernel_rfl))
  f247 := Tryd.func29.trans (congrArg some (by kernel_rfl))
  f279 := Tryd.func30.trans (congrArg some (by kernel_rfl))
  f280 := Tryd.func31.trans (congrArg some (by kernel_rfl))
  f281 := Tryd.func32.trans (congrArg some (by kernel_rfl))
  f282 := Tryd.func33.trans (congrArg some (by kernel_rfl))
  f283 := Tryd.func36.trans (congrArg some (by kernel_rfl))
  f284 := Tryd.func37.trans (congrArg some (by kernel_rfl))
  f285 := Tryd.func38.trans (congrArg some (by kernel_rfl))
  f286 := Tryd.func39.trans (congrArg some (by kernel_rfl))
  f287 := Tryd.func44.trans (congrArg some (by kernel_rfl))
  f316 := Tryd.func45.trans (congrArg some (by kernel_rfl))
  f317 := Tryd.func48.trans (congrArg some (by kernel_rfl))
  f318 := Tryd.func50.trans (congrArg some (by kernel_rfl))
  f319 := Tryd.func51.trans (congrArg some (by kernel_rfl))
  f320 := Tryd.func52.trans (congrArg some (by kernel_rfl))
  f321 := Tryd.func57.trans (congrArg some (by kernel_rfl))
  f322 := Tryd.func58.trans (congrArg some (by kernel_rfl))
  f337 := Tryd.func59.trans (congrArg some (by kernel_rfl))
  f338 := Tryd.func60.trans (congrArg some (by kernel_rfl))
  t0 := Tryd.underlying0
  a0 := Tryd.isAgg0
  z0 := Tryd.sizeOf0
  v0 := Tryd.zeroValue0
  t2 := Tryd.underlying2
  a2 := Tryd.isAgg2
  z2 := Tryd.sizeOf2
  v2 := Tryd.zeroValue2
  t3 := Tryd.underlying3
  a3 := Tryd.isAgg3
  z3 := Tryd.sizeOf3
  v3 := Tryd.zeroValue3
  t4 := Tryd.underlying4
  a4 := Tryd.isAgg4
  z4 := Tryd.sizeOf4
  v4 := Tryd.zeroValue4
  t5 := Tryd.underlying5
  a5 := Tryd.isAgg5
  z5 := Tryd.sizeOf5
  v5 := Tryd.zeroValue5
  t9 := Tryd.underlying9
  a9 := Tryd.isAgg9
  z9 := Tryd.sizeOf9
  v9 := Tryd.zeroValue9
  t20 := Tryd.underlying20
  a20 := Tryd.isAgg20
  z20 := Tryd.sizeOf20
  v20 := Tryd.zeroValue20
  t21 := Tryd.underlying21
  a21 := Tryd.isAgg21
  z21 := Tryd.sizeOf21
  v21 := Tryd.zeroValue21
  t37 := Tryd.underlying52
  a37 := Tryd.isAgg52
  z37 := Tryd.sizeOf52
  v37 := Tryd.zeroValue52
  t46 := Tryd.underlying76
  a46 := Tryd.isAgg76
  z46 := Tryd.sizeOf76
  v46 := Tryd.zeroValue76
  t51 := Tryd.underlying84
  a51 := Tryd.isAgg84
  z51 := Tryd.sizeOf84
  v51 := Tryd.zeroValue84
  t53 := Tryd.underlying51
  a53 := Tryd.isAgg51
  z53 := Tryd.sizeOf51
  v53 := Tryd.zeroValue51
  t75 := Tryd.underlying44
  a75 := Tryd.isAgg44
  z75 := Tryd.sizeOf44
  v75 := Tryd.zeroValue44
  t76 := Tryd.underlying45
  a76 := Tryd.isAgg45
  z76 := Tryd.sizeOf45
  v76 := Tryd.zeroValue45
  t85 := Tryd.underlying60
  a85 := Tryd.isAgg60
  z85 := Tryd.sizeOf60
  v85 := Tryd.zeroValue60
  t127 := Tryd.underlying89
  a127 := Tryd.isAgg89
  z127 := Tryd.sizeOf89
  v127 := Tryd.zeroValue89
  t143 := Tryd.underlying90
  a143 := Tryd.isAgg90
  z143 := Tryd.sizeOf90
  v143 := Tryd.zeroValue90
  t145 := Tryd.underlying92
  a145 := Tryd.isAgg92
  z145 := Tryd.sizeOf92
  v145 := Tryd.zeroValue92
  t167 := Tryd.underlying59
  a167 := Tryd.isAgg59
  z167 := Tryd.sizeOf59
  v167 := Tryd.zeroValue59
  t168 := Tryd.underlying62
  a168 := Tryd.isAgg62
  z168 := Tryd.sizeOf62
  v168 := Tryd.zeroValue62
  t171 := Tryd.underlying66
  a171 := Tryd.isAgg66
  z171 := Tryd.sizeOf66
  v171 := Tryd.zeroValue66
  t173 := Tryd.underlying69
  a173 := Tryd.isAgg69
  z173 := Tryd.sizeOf69
  v173 := Tryd.zeroValue69
  t175 := Tryd.underlying74
  a175 := Tryd.isAgg74
  z175 := Tryd.sizeOf74
  v175 := Tryd.zeroValue74
  t210 := Tryd.underlying79
  a210 := Tryd.isAgg79
  z210 := Tryd.sizeOf79
  v210 := Tryd.zeroValue79
  t212 := Tryd.underlying83
  a212 := Tryd.isAgg83
  z212 := Tryd.sizeOf83
  v212 := Tryd.zeroValue83
  t213 := Tryd.underlying85
  a213 := Tryd.isAgg85
  z213 := Tryd.sizeOf85
  t232 := Tryd.underlying100
  a232 := Tryd.isAgg100
  z232 := Tryd.sizeOf100
  v232 := Tryd.zeroValue100
  t233 := Tryd.underlying101
  a233 := Tryd.isAgg101
  z233 := Tryd.sizeOf101
  v233 := Tryd.zeroValue101
  g15 := by kernel_rfl
  g16 := by kernel_rfl
  g17 := by kernel_rfl
  g18 := by kernel_rfl
  g19 := by kernel_rfl
  t80 := Tryd.underlying102
  a80 := Tryd.isAgg102
  z80 := Tryd.sizeOf102
  v80 := Tryd.zeroValue102
  i0 := by kernel_rfl
  i2 := by kernel_rfl
  i3 := by kernel_rfl
  i4 := by kernel_rfl
  i5 := by kernel_rfl
  i9 := by kernel_rfl
  i20 := by kernel_rfl
  i21 := by kernel_rfl
  i37 := by kernel_rfl
  i46 := by kernel_rfl
  i51 := by kernel_rfl
  i53 := by kernel_rfl
  i75 := by kernel_rfl
  i76 := by kernel_rfl
  i80 := by kernel_rfl
  i85 := by kernel_rfl
  i127 := by kernel_rfl
  i143 := by kernel_rfl
  i145 := by kernel_rfl
  i167 := by kernel_rfl
  i168 := by kernel_rfl
  i171 := by kernel_rfl
  i173 := by kernel_rfl
  i175 := by kernel_rfl
  i210 := by kernel_rfl
  i212 := by kernel_rfl
  i232 := by kernel_rfl
  i233 := by kernel_rfl
  m15 := by kernel_rfl
  m16 := by kernel_rfl
  m17 := by kernel_rfl
  m18 := by kernel_rfl
  m19 := by kernel_rfl
  c0 := by kernel_rfl
  c2 := by kernel_rfl
  c3 := by kernel_rfl
  c4 := by kernel_rfl
  c5 := by kernel_rfl
  c9 := by kernel_rfl
  c20 := by kernel_rfl
  c21 := by kernel_rfl
  c37 := by kernel_rfl
  c46 := by kernel_rfl
  c51 := by kernel_rfl
  c53 := by kernel_rfl
  c75 := by kernel_rfl
  c76 := by kernel_rfl
  c80 := by kernel_rfl
  c85 := by kernel_rfl
  c127 := by kernel_rfl
  c143 := by kernel_rfl
  c145 := by kernel_rfl
  c167 := by kernel_rfl
  c168 := by kernel_rfl
  c171 := by kernel_rfl
  c173 := by kernel_rfl
  c175 := by kernel_rfl
  c210 := by kernel_rfl
  c212 := by kernel_rfl
  c213 := by kernel_rfl
  c232 := by kernel_rfl
  c233 := by kernel_rfl }



theorem errCell {W : World} {G : Ghost} (hG : GOK C W G) {g : Nat} (hg : gt g = some [.iface 90 (.fptr [])]) : ∃ V, W.cell? ⟨g, 0, none⟩ = some (.iface 90 V) := by
  have h := hG g _ hg
  cases h with
  | fptr cells b o Vs h hv =>
    have h1 := (h 0 _ rfl).2
    have h2 := hv 0 _ rfl
    rw [Nat.add_zero] at h1
    generalize Vs 0 = V at *
    cases h2
    exact ⟨_, h1⟩
theorem tup2 {F : FTab} {w : World} {G : Ghost} {a b : AV} {A B : Value} (h1 : VR F w G a A) (h2 : VR F w G b B) : VR F w G (.tup [a, b]) (.tuple #[A, B]) := by
  refine .tup _ _ rfl fun j c V hc hV => ?_
  rcases j with _ | _ | j
  · simp at hc hV; subst hc hV; exact h1
  · simp at hc hV; subst hc hV; exact h2
  · simp at hc
theorem tup3 {F : FTab} {w : World} {G : Ghost} {a b c : AV} {A B D : Value} (h1 : VR F w G a A) (h2 : VR F w G b B) (h3 : VR F w G c D) : VR F w G (.tup [a, b, c]) (.tuple #[A, B, D]) := by
  refine .tup _ _ rfl fun j x V hc hV => ?_
  rcases j with _ | _ | _ | j
  · simp at hc hV; subst hc hV; exact h1
  · simp at hc hV; subst hc hV; exact h2
  · simp at hc hV; subst hc hV; exact h3
  · simp at hc

theorem ten_eq : tenTab = Go.Lib.pow10Tab := by kernel_rfl
/-- The table of the powers of ten is there. -/
theorem tab10 {W : World} {G : Ghost} {H : AH} (hG : GOX C W G H) : Go.Lib.TabIs Tryd.prog W "internal/strconv.uint64pow10" .u64 Go.Lib.pow10Tab := by
  obtain ⟨⟨cs, t, fr, h1, h2⟩, -⟩ := hG.2 2 pow10tab rfl (by unfold pow10tab tenTab; simp)
  have hv := hG.1 2 pow10tab rfl
  have key : ∀ j, j < tenTab.length → cs[j]? = some (.int .u64 (tenTab[j]?.getD 0)) := by
    intro j hj
    generalize hX : (Value.pointer (some ⟨2, 0, none⟩)) = X at hv
    generalize hY : AV.fptr pow10tab = Y at hv
    cases hv with
    | fptr cells b o Vs hc hv =>
      cases hX
      cases hY
      have hcj : pow10tab[j]? = some (.int .u64 (tenTab[j]?.getD 0)) := by
        unfold pow10tab
        rw [List.getElem?_map, List.getElem?_eq_getElem hj]
        rfl
      have e1 := (hc j _ hcj).2
      have e2 := hv j _ hcj
      rw [Nat.zero_add] at e1
      generalize Vs j = U at e1 e2
      cases e2
      simpa [World.cell?, h1] using e1
    | bot => cases hY
    | _ => cases hY
  unfold Go.Lib.TabIs World.var?
  rw [gT0]
  simp only [Option.bind_some, h1, Option.some.injEq]
  rw [← ten_eq]
  have hl : pow10tab.length = tenTab.length := by simp [pow10tab]
  apply Array.ext
  · simp [h2, hl]
  · intro i i1 i2
    have hi : i < tenTab.length := by simpa using i2
    have := key i hi
    rw [Array.getElem?_eq_getElem i1] at this
    rw [Option.some.inj this]
    simp [List.getElem?_eq_getElem hi]

theorem below_grow (w : World) (k : Nat) (os : Array Obj) : Below w.heap.size w (Go.Sort.grow (w.drewN k) os) :=
  ⟨rfl, rfl, rfl, by simp [Go.Sort.grow], fun i hi => by
    show (w.heap ++ os)[i]? = w.heap[i]?
    rw [Array.getElem?_append_left hi]⟩

/-- A number as a text. -/
theorem itoaOK (n : Int) (h0 : -9223372036854775808 ≤ n) (h1 : n ≤ 9223372036854775807) (H : AH) (Q : Post) (hQ : Q (.str (Go.Lib.itoa n)) H) : ACall C 12 [.int .i64 n] H Q := by
  refine ⟨⟨_, _, hQ⟩, fun f hf G W Vs hG hrel hargs => ?_⟩
  obtain rfl : f = 12 := by
    have : C.F 12 = some 12 := by kernel_rfl
    rw [this] at hf; exact (Option.some.inj hf).symm
  obtain ⟨hl, hv⟩ := hargs
  obtain ⟨Vl⟩ := Vs
  match Vl, hl with
  | [V0], _ =>
    have e0 := (hv 0 _ V0 rfl rfl).int_inv
    subst e0
    refine (Any.strconv_Itoa laysM171 n h0 h1 W (tab10 hG)).mono fun e w' ⟨he, k, os, hw⟩ => ?_
    subst hw
    have hbel := below_grow W k os
    exact ⟨_, _, H, G, he, hQ, .str _, rel_below hbel hrel, step_below hbel hrel⟩

/-- A text as a number: what it gives, where the text spells one; else some number. -/
theorem atoiOK (w : List UInt8) (hw : w.length ≤ 281474976710656) (H : AH) (Q : Post) (h1 : ∀ v, Go.Lib.atoiAll w = .ok v → Q (.tup [.int .i64 v, .nilif]) H)
    (h2 : (∀ v, Go.Lib.atoiAll w ≠ .ok v) → ∀ v T, -9223372036854775808 ≤ v → v ≤ 9223372036854775807 → Q (.tup [.int .i64 v, .iface T .bot]) H) : ACall C 15 [.str w] H Q := by
  have hd : (⟨w.toArray⟩ : ByteArray).data.toList = w := by simp
  have hs : (⟨w.toArray⟩ : ByteArray).size ≤ 281474976710656 := by show w.toArray.size ≤ _; simpa using hw
  have hsat : ∀ l : List UInt8, -9223372036854775808 ≤ Go.Lib.atoiSat l ∧ Go.Lib.atoiSat l ≤ 9223372036854775807 := by
    intro l
    unfold Go.Lib.atoiSat
    split <;> (try split) <;> omega
  refine ⟨?_, fun f hf G W Vs hG hrel hargs => ?_⟩
  · cases hp : Go.Lib.atoiAll w with
    | ok v => exact ⟨_, _, h1 v hp⟩
    | _ => exact ⟨_, _, h2 (fun v e => by rw [hp] at e; cases e) 0 0 (by omega) (by omega)⟩
  obtain rfl : f = 15 := by
    have : C.F 15 = some 15 := by kernel_rfl
    rw [this] at hf; exact (Option.some.inj hf).symm
  obtain ⟨hl, hv⟩ := hargs
  obtain ⟨Vl⟩ := Vs
  match Vl, hl with
  | [V0], _ =>
    have e0 := (hv 0 _ V0 rfl rfl).str_inv
    subst e0
    obtain ⟨VS, hS⟩ := errCell hG.1 (g := 0) rfl
    obtain ⟨VT, hR⟩ := errCell hG.1 (g := 1) rfl
    cases hp : Go.Lib.atoiAll w
    · rename_i u
      refine (Any.strconv_Atoi_ok laysC172 ⟨w.toArray⟩ (by omega) u (by rw [hd]; exact hp) W).mono fun e w' ⟨he, hw'⟩ => ?_
      have hbel : Below W.heap.size W w' := by
        rcases hw' with rfl | ⟨t, rfl⟩
        · exact Below.refl _ _
        · exact Lib.bytesWorld_below _ _ _
      exact ⟨_, _, H, G, he, h1 u hp, tup2 (.int _ _) .nilif, rel_below hbel hrel, step_below hbel hrel⟩
    · refine (Any.strconv_Atoi_syntax laysC172 ⟨w.toArray⟩ (by omega) (by rw [hd]; exact hp) _ W hS (.inr ⟨_, _, rfl⟩)).mono fun e w' ⟨N, he, _, _, hbel⟩ => ?_
      exact ⟨_, _, H, G, he, h2 (fun v e => by rw [hp] at e; cases e) 0 _ (by omega) (by omega), tup2 (.int _ _) (.iface _ _ _ (.bot _)), rel_below hbel hrel, step_below hbel hrel⟩
    · refine (Any.strconv_Atoi_range laysC172 ⟨w.toArray⟩ (by omega) (by rw [hd]; exact hp) _ W hR (.inr ⟨_, _, rfl⟩)).mono fun e w' ⟨N, he, _, _, hbel⟩ => ?_
      exact ⟨_, _, H, G, he, h2 (fun v e => by rw [hp] at e; cases e) _ _ (hsat _).1 (hsat _).2, tup2 (.int _ _) (.iface _ _ _ (.bot _)), rel_below hbel hrel, step_below hbel hrel⟩

/-- How many blanks there are. -/
theorem countOK (s : List UInt8) (H : AH) (Q : Post) (hQ : Q (.int .i64 (s.count 32 : Nat)) H) : ACall C 27 [.str s, .str [32]] H Q := by
  refine ⟨⟨_, _, hQ⟩, fun f hf G W Vs hG hrel hargs => ?_⟩
  obtain rfl : f = 27 := by
    have : C.F 27 = some 27 := by kernel_rfl
    rw [this] at hf; exact (Option.some.inj hf).symm
  obtain ⟨hl, hv⟩ := hargs
  obtain ⟨Vl⟩ := Vs
  match Vl, hl with
  | [V0, V1], _ =>
    have e0 := (hv 0 _ V0 rfl rfl).str_inv
    have e1 := (hv 1 _ V1 rfl rfl).str_inv
    subst e0 e1
    refine (count_calls ⟨s.toArray⟩ W).mono fun e w' ⟨he, hw⟩ => ?_
    subst hw
    exact ⟨_, _, H, G, he, hQ, .int _ _, hrel, Step.refl _ _ _⟩
/-- Where the first blank stands. -/
theorem indexOK (s : List UInt8) (H : AH) (Q : Post) (hQ : Q (.int .i64 (Go.Lib.indexByte s 32)) H) : ACall C 28 [.str s, .str [32]] H Q := by
  refine ⟨⟨_, _, hQ⟩, fun f hf G W Vs hG hrel hargs => ?_⟩
  obtain rfl : f = 28 := by
    have : C.F 28 = some 28 := by kernel_rfl
    rw [this] at hf; exact (Option.some.inj hf).symm
  obtain ⟨hl, hv⟩ := hargs
  obtain ⟨Vl⟩ := Vs
  match Vl, hl with
  | [V0, V1], _ =>
    have e0 := (hv 0 _ V0 rfl rfl).str_inv
    have e1 := (hv 1 _ V1 rfl rfl).str_inv
    subst e0 e1
    refine (index_calls ⟨s.toArray⟩ W).mono fun e w' ⟨he, hw⟩ => ?_
    subst hw
    exact ⟨_, _, H, G, he, hQ, .int _ _, hrel, Step.refl _ _ _⟩

/-- What holds in a world holds in one that has grown from it. -/
theorem gox_below {W W' : World} {G : Ghost} {H : AH} (hrel : Rel C.F W G H) (hb : Below W.heap.size W W') (h : GOX C W G H) : GOX C W' G H := h.step (step_below hb hrel)

def stA (x : Stp) : List AV := [.int .i64 x.1, .int .i64 x.2.1, .int .i64 x.2.2]
theorem step_inv {F : FTab} {w : World} {G : Ghost} {x : Stp} {e : Int} {V : Value} (h : VR F w G (.tup [.agg (stA x), .int .i64 e]) V) : V = .tuple #[.agg #[.int .i64 x.1, .int .i64 x.2.1, .int .i64 x.2.2], .int .i64 e] := by
  cases h with
  | tup _ Vs hl hv =>
    obtain ⟨Vl⟩ := Vs
    match Vl, hl with
    | [A, B], _ =>
      have h0 := hv 0 _ A rfl rfl
      have h1 := (hv 1 _ B rfl rfl).int_inv
      subst h1
      obtain ⟨Xs, rfl, hX⟩ := h0.agg_inv
      obtain ⟨Xl⟩ := Xs
      match Xl, hX.1 with
      | [P, Q, R], _ =>
        have g0 := (hX.2 0 _ P rfl rfl).int_inv
        have g1 := (hX.2 1 _ Q rfl rfl).int_inv
        have g2 := (hX.2 2 _ R rfl rfl).int_inv
        subst g0 g1 g2
        rfl
def stZ (x : Stp) : List Int := [x.1, x.2.1, x.2.2]
theorem flat_A (f : List UInt8 → Stp) (l : List (List UInt8)) : (l.flatMap fun x => stA (f x)) = (l.flatMap fun x => stZ (f x)).map (AV.int .i64) := by simp [List.map_flatMap, stA, stZ]
theorem flat_V (f : List UInt8 → Stp) (l : List (List UInt8)) : (l.flatMap fun x => stV (f x)) = (l.flatMap fun x => stZ (f x)).map (Value.int .i64) := by simp [List.map_flatMap, stV, stZ]
/-- tale.Read, where each line is a step. -/
theorem readOK (s : List UInt8) (hs : s.length ≤ 9223372036854775800) (f : List UInt8 → Stp) (hcnt : (linesOf s).length ≤ 4096)
    (hTr : ∀ x ∈ linesOf s, ACall C 17 [.str x, .str [10]] AH.mt (fun v _ => v = .str (trimL x)))
    (hSt : ∀ x ∈ linesOf s, ACall C 9 [.str (trimL x)] AH.mt (fun v _ => v = .tup [.agg (stA (f x)), .int .i64 0]))
    (H : AH) (Q : Post) (hQ : Q (.tup [.lst .dead (linesOf s).length ((linesOf s).flatMap fun x => stA (f x)), .int .i64 0, .int .i64 0]) H) : ACall C 10 [.str s] H Q := by
  refine ⟨⟨_, _, hQ⟩, fun f' hf G W Vs hG hrel hargs => ?_⟩
  obtain rfl : f' = 10 := by
    have : C.F 10 = some 10 := by kernel_rfl
    rw [this] at hf; exact (Option.some.inj hf).symm
  obtain ⟨hl, hv⟩ := hargs
  obtain ⟨Vl⟩ := Vs
  match Vl, hl with
  | [V0], _ =>
    have e0 := (hv 0 _ V0 rfl rfl).str_inv
    subst e0
    have hd : (⟨s.toArray⟩ : ByteArray).data.toList = s := by simp
    have hmt : ∀ W', Below W.heap.size W W' → Rel C.F W' (Ghost.mt G.fz) AH.mt ∧ GOX C W' (Ghost.mt G.fz) AH.mt := by
      intro W' hb
      have hr := rel_below hb hrel
      refine ⟨Rel.mt hr.fzc, (gox_below hrel hb hG).mt ?_ fun i hi => by cases hi⟩
      exact fun g l hg => froz_vr (G := G) (G' := Ghost.mt G.fz) (w := W') (fun _ _ h => h) (fun _ _ _ _ h => h) (by simp only [AV.froz]; exact gtC g l hg) ((gox_below hrel hb hG).1 g l hg)
    have hcalls := callsIn_wide.1 (read_in 3 (Nat.le_refl _) ⟨s.toArray⟩ (by show s.toArray.size ≤ _; simpa using hs) W f (by rw [hd]; exact hcnt) (fun r W' => nl_calls r W')
      (fun x hx W' hb => by
        rw [hd] at hx
        obtain ⟨h1, h2⟩ := hmt W' hb
        refine ((hTr x hx).run (f := 17) (by kernel_rfl) h2 h1 (VRs.two (.str _) (.str _))).mono fun e w' he => ?_
        obtain ⟨V, v, H', G', rfl, rfl, hV, _, hst⟩ := he
        cases hV
        exact ⟨rfl, hst.below⟩)
      (fun x hx W' hb => by
        rw [hd] at hx
        obtain ⟨h1, h2⟩ := hmt W' hb
        refine ((hSt x hx).run (f := 9) (by kernel_rfl) h2 h1 (VRs.one (.str _))).mono fun e w' he => ?_
        obtain ⟨V, v, H', G', rfl, rfl, hV, _, hst⟩ := he
        exact ⟨by rw [step_inv hV], hst.below⟩))
    refine hcalls.mono fun e w' ⟨v, he, hown, hbel⟩ => ?_
    rw [hd, flat_V] at hown
    rw [flat_A] at hQ
    obtain ⟨hxl, hown⟩ := hown
    rcases hown with ⟨rfl, hz⟩ | ⟨g, cap, cur, rfl, hbase, hblk, hle, _, hsz, htake⟩
    · have hnil : linesOf s = [] := List.length_eq_zero_iff.1 hz
      rw [hnil] at hQ
      exact ⟨_, _, H, G, he, hQ, tup3 (.lst0 _ _) (.int _ _) (.int _ _), rel_below hbel hrel, step_below hbel hrel⟩
    · generalize hZ : ((linesOf s).flatMap fun x => stZ (f x)) = zs at hxl htake hQ
      obtain ⟨G', r1, r2, r3⟩ := adoptF hbel hrel hbase hblk (cs := zs.map (AV.int .i64)) (fun j c hj => by
        simp only [List.getElem?_map] at hj
        cases hzj : zs[j]? with
        | none => rw [hzj] at hj; cases hj
        | some z =>
          rw [hzj] at hj
          cases hj
          have hjl := (List.getElem?_eq_some_iff.1 hzj).1
          refine ⟨.int .i64 z, ?_, .int _ _⟩
          have := congrArg (fun l => l[j]?) htake
          simp only [List.getElem?_take, List.getElem?_map, hzj, Option.map_some] at this
          rw [if_pos (by simp at hxl; omega)] at this
          rw [← Array.getElem?_toList]
          exact this)
      exact ⟨_, _, _, G', he, hQ, tup3 (r3 _ _ hle) (.int _ _) (.int _ _), r1, r2⟩
end Go.Proofs.YtgejcelgofmbgaaDoor.rb

/- The functions' keys. By spec.py. -/
namespace Rb.K
abbrev rabbetlaw26_TaleLines : Nat := 3
abbrev rabbetlaw26_TaleSteps : Nat := 4
abbrev rabbetlaw26_TaleTexts : Nat := 5
abbrev tale_Line : Nat := 6
abbrev rabbetlaw26_line : Nat := 7
abbrev rabbetlaw26_awake : Nat := 8
abbrev tale_Step : Nat := 9
abbrev tale_Read : Nat := 10
abbrev tale_word : Nat := 11
abbrev strconv_Itoa : Nat := 12
abbrev rabbetlaw26_digits : Nat := 13
abbrev strings_Split : Nat := 14
abbrev strconv_Atoi : Nat := 15
abbrev strings_TrimSuffix : Nat := 17
abbrev strings_genSplit : Nat := 19
abbrev strings_IndexByte : Nat := 23
abbrev internal_stringslite_TrimSuffix : Nat := 24
abbrev strings_explode : Nat := 26
abbrev strings_Count : Nat := 27
abbrev strings_Index : Nat := 28
abbrev internal_stringslite_IndexByte : Nat := 34
abbrev internal_stringslite_HasSuffix : Nat := 35
abbrev internal_stringslite_Index : Nat := 43
end Rb.K

/- Functions in the small language, and what they mean. By spec.py. -/
set_option linter.unusedVariables false
namespace Rb.S
open Go

/-! rabbet/rabbetlaw26.TaleLines -/
def rabbetlaw26_TaleLines_k1 (Φ : Calls') (x6 : AV) (Q : Post) : List AV → AH → Prop := fun j14 H15 =>
 Gd3 (sl j14 0) true (
 Do (abin .eql x6 (.str [])) fun x19 =>
 Q x19 H15) (
 Q (.bool false) H15) (
 False)
def rabbetlaw26_TaleLines_k2 (Φ : Calls') (x1 : AV) (x24 : AV) (Q : Post) : List AV → AH → Prop := fun j35 H36 =>
 Gd3 (sl j35 0) true (
 Do (aload H36 3 true x24) fun x38 =>
 Do (aload H36 3 true x1) fun x39 =>
 Do (aeqAgg false [.n, .n, .n] x38 x39) fun x40 =>
 Q x40 H36) (
 Q (.bool false) H36) (
 False)
def rabbetlaw26_TaleLines_k3 (Φ : Calls') (x1 : AV) (x23 : AV) (x24 : AV) (Q : Post) : List AV → AH → Prop := fun j32 H33 =>
 Gd3 (sl j32 0) true (
 Do (abin .eql x23 (.int .i64 0)) fun x37 =>
 JoinP (rabbetlaw26_TaleLines_k2 Φ x1 x24 Q) [x37] H33) (
 JoinP (rabbetlaw26_TaleLines_k2 Φ x1 x24 Q) [(.bool false)] H33) (
 False)
def rabbetlaw26_TaleLines_k4 (Φ : Calls') (x1 : AV) (x6 : AV) (x11 : AV) (x23 : AV) (x24 : AV) (Q : Post) : List AV → AH → Prop := fun j27 H28 =>
 Gd3 (sl j27 0) true (
 Do (abin .eql x6 x11) fun x34 =>
 JoinP (rabbetlaw26_TaleLines_k3 Φ x1 x23 x24 Q) [x34] H28) (
 JoinP (rabbetlaw26_TaleLines_k3 Φ x1 x23 x24 Q) [(.bool false)] H28) (
 False)
def rabbetlaw26_TaleLines (Φ : Calls') (a0 : AV) (H : AH) (Q : Post) : Prop :=
 DoH (aboxv H false 3 a0) fun x1 H2 =>
 Do (aload H2 3 true x1) fun x3 =>
Φ K.tale_Line [x3] H2 fun x4 H5 =>
 Do (aextract 0 x4) fun x6 =>
 Do (aextract 1 x4) fun x7 =>
 Do (aload H5 3 true x1) fun x8 =>
Φ K.rabbetlaw26_line [x8] H5 fun x9 H10 =>
 Do (aextract 0 x9) fun x11 =>
 Do (aextract 1 x9) fun x12 =>
 Do (aun .not x12) fun x13 =>
 Gd x13 true (
Φ K.rabbetlaw26_awake [] H10 fun x16 H17 =>
 Gd3 x16 true (
 Do (abin .eql x7 (.int .i64 1)) fun x18 =>
 JoinP (rabbetlaw26_TaleLines_k1 Φ x6 Q) [x18] H17) (
 JoinP (rabbetlaw26_TaleLines_k1 Φ x6 Q) [(.bool false)] H17) (
 False)) (
Φ K.tale_Step [x6] H10 fun x20 H21 =>
 Do (aextract 0 x20) fun x22 =>
 Do (aextract 1 x20) fun x23 =>
 DoH (some (abox H21 true [.int .i64 0, .int .i64 0, .int .i64 0])) fun x24 H25 =>
 Do (astore H25 3 x24 x22) fun H26 =>
Φ K.rabbetlaw26_awake [] H26 fun x29 H30 =>
 Gd3 x29 true (
 Do (abin .eql x7 (.int .i64 0)) fun x31 =>
 JoinP (rabbetlaw26_TaleLines_k4 Φ x1 x6 x11 x23 x24 Q) [x31] H30) (
 JoinP (rabbetlaw26_TaleLines_k4 Φ x1 x6 x11 x23 x24 Q) [(.bool false)] H30) (
 False))
def ir_rabbetlaw26_TaleLines : AFunc := ⟨54, [.tmp 2],
 .seq (.region [
   ⟨some 1, .box false 3 (.t 0), none⟩,
   ⟨some 2, .mv (.k (.bool false)), none⟩])
 (.seq (.region [
   ⟨some 10, .load 3 true (.t 1), none⟩,
   ⟨some 11, .call K.tale_Line [(.t 10)], none⟩,
   ⟨some 9, .mv (.t 11), none⟩,
   ⟨some 12, .extract 0 (.t 9), none⟩,
   ⟨some 13, .extract 1 (.t 9), none⟩,
   ⟨some 3, .mv (.t 12), none⟩,
   ⟨some 4, .mv (.t 13), none⟩])
 (.seq (.region [
   ⟨some 15, .load 3 true (.t 1), none⟩,
   ⟨some 16, .call K.rabbetlaw26_line [(.t 15)], none⟩,
   ⟨some 14, .mv (.t 16), none⟩,
   ⟨some 17, .extract 0 (.t 14), none⟩,
   ⟨some 18, .extract 1 (.t 14), none⟩,
   ⟨some 5, .mv (.t 17), none⟩,
   ⟨some 6, .mv (.t 18), none⟩])
 (.seq (.seq (.region [
   ⟨some 19, .mv (.t 6), none⟩,
   ⟨some 20, .un .not (.t 19), none⟩])
 (.cond (.t 20) (.seq (.rjoin [25] [21, 22, 23, 24] [
     ⟨some 21, .call K.rabbetlaw26_awake [], none⟩,
     ⟨some 22, .mv (.t 21), none⟩,
     ⟨some 23, .mv (.t 4), some (22, true)⟩,
     ⟨some 24, .bin .eql (.t 23) (.k (.int .i64 1)), some (22, true)⟩,
     ⟨some 25, .pick (.t 22) (.t 24) (.k (.bool false)), none⟩]
   (.region [
     ⟨some 26, .mv (.t 25), none⟩,
     ⟨some 27, .mv (.t 3), some (26, true)⟩,
     ⟨some 28, .bin .eql (.t 27) (.k (.str [])), some (26, true)⟩,
     ⟨some 29, .pick (.t 26) (.t 28) (.k (.bool false)), none⟩,
     ⟨some 2, .mv (.t 29), none⟩]))
   (.ret))
   (.skip)))
 (.seq (.region [
   ⟨some 31, .mv (.t 3), none⟩,
   ⟨some 32, .call K.tale_Step [(.t 31)], none⟩,
   ⟨some 30, .mv (.t 32), none⟩,
   ⟨some 33, .extract 0 (.t 30), none⟩,
   ⟨some 34, .extract 1 (.t 30), none⟩,
   ⟨some 7, .alloc true [.int .i64 0, .int .i64 0, .int .i64 0], none⟩,
   ⟨none, .store 3 (.t 7) (.t 33), none⟩,
   ⟨some 8, .mv (.t 34), none⟩])
 (.seq (.rjoin [39] [35, 36, 37, 38] [
   ⟨some 35, .call K.rabbetlaw26_awake [], none⟩,
   ⟨some 36, .mv (.t 35), none⟩,
   ⟨some 37, .mv (.t 4), some (36, true)⟩,
   ⟨some 38, .bin .eql (.t 37) (.k (.int .i64 0)), some (36, true)⟩,
   ⟨some 39, .pick (.t 36) (.t 38) (.k (.bool false)), none⟩]
 (.rjoin [44] [40, 41, 42, 43] [
   ⟨some 40, .mv (.t 39), none⟩,
   ⟨some 41, .mv (.t 3), some (40, true)⟩,
   ⟨some 42, .mv (.t 5), some (40, true)⟩,
   ⟨some 43, .bin .eql (.t 41) (.t 42), some (40, true)⟩,
   ⟨some 44, .pick (.t 40) (.t 43) (.k (.bool false)), none⟩]
 (.rjoin [48] [45, 46, 47] [
   ⟨some 45, .mv (.t 44), none⟩,
   ⟨some 46, .mv (.t 8), some (45, true)⟩,
   ⟨some 47, .bin .eql (.t 46) (.k (.int .i64 0)), some (45, true)⟩,
   ⟨some 48, .pick (.t 45) (.t 47) (.k (.bool false)), none⟩]
 (.region [
   ⟨some 49, .mv (.t 48), none⟩,
   ⟨some 50, .load 3 true (.t 7), some (49, true)⟩,
   ⟨some 51, .load 3 true (.t 1), some (49, true)⟩,
   ⟨some 52, .eqagg false [.n, .n, .n] (.t 50) (.t 51), some (49, true)⟩,
   ⟨some 53, .pick (.t 49) (.t 52) (.k (.bool false)), none⟩,
   ⟨some 2, .mv (.t 53), none⟩]))))
 (.ret))))))⟩
theorem eq_rabbetlaw26_TaleLines (Φ : Calls') (a0 : AV) (H : AH) (Q : Post) : fnE1 Φ ir_rabbetlaw26_TaleLines [a0] H Q = rabbetlaw26_TaleLines Φ a0 H Q := by kernel_rfl

/-! rabbet/rabbetlaw26.TaleSteps -/
def rabbetlaw26_TaleSteps_k1 (Φ : Calls') (x5 : AV) (Q : Post) : List AV → AH → Prop := fun j9 H10 =>
 Gd3 (sl j9 0) true (
 Do (aload H10 3 true x5) fun x14 =>
 Do (abuild [.int .i64 0, .int .i64 0, .int .i64 0] []) fun x15 =>
 Do (aeqAgg false [.n, .n, .n] x14 x15) fun x16 =>
 Q x16 H10) (
 Q (.bool false) H10) (
 False)
def rabbetlaw26_TaleSteps_k2 (Φ : Calls') (a0 : AV) (x20 : AV) (Q : Post) : List AV → AH → Prop := fun j22 H23 =>
 Gd3 (sl j22 0) true (
 Do (abin .eql x20 a0) fun x26 =>
 Q x26 H23) (
 Q (.bool false) H23) (
 False)
def rabbetlaw26_TaleSteps (Φ : Calls') (a0 : AV) (H : AH) (Q : Post) : Prop :=
Φ K.tale_Step [a0] H fun x1 H2 =>
 Do (aextract 0 x1) fun x3 =>
 Do (aextract 1 x1) fun x4 =>
 DoH (some (abox H2 true [.int .i64 0, .int .i64 0, .int .i64 0])) fun x5 H6 =>
 Do (astore H6 3 x5 x3) fun H7 =>
 Do (abin .neq x4 (.int .i64 0)) fun x8 =>
 Gd x8 true (
Φ K.rabbetlaw26_awake [] H7 fun x11 H12 =>
 Gd3 x11 true (
 Do (abin .eql x4 (.int .i64 3)) fun x13 =>
 JoinP (rabbetlaw26_TaleSteps_k1 Φ x5 Q) [x13] H12) (
 JoinP (rabbetlaw26_TaleSteps_k1 Φ x5 Q) [(.bool false)] H12) (
 False)) (
 Do (aload H7 3 true x5) fun x17 =>
Φ K.rabbetlaw26_line [x17] H7 fun x18 H19 =>
 Do (aextract 0 x18) fun x20 =>
 Do (aextract 1 x18) fun x21 =>
Φ K.rabbetlaw26_awake [] H19 fun x24 H25 =>
 Gd3 x24 true (
 JoinP (rabbetlaw26_TaleSteps_k2 Φ a0 x20 Q) [x21] H25) (
 JoinP (rabbetlaw26_TaleSteps_k2 Φ a0 x20 Q) [(.bool false)] H25) (
 False))
def ir_rabbetlaw26_TaleSteps : AFunc := ⟨38, [.tmp 2],
 .seq (.region [
   ⟨some 2, .mv (.k (.bool false)), none⟩])
 (.seq (.region [
   ⟨some 8, .mv (.t 0), none⟩,
   ⟨some 9, .call K.tale_Step [(.t 8)], none⟩,
   ⟨some 7, .mv (.t 9), none⟩,
   ⟨some 10, .extract 0 (.t 7), none⟩,
   ⟨some 11, .extract 1 (.t 7), none⟩,
   ⟨some 3, .alloc true [.int .i64 0, .int .i64 0, .int .i64 0], none⟩,
   ⟨none, .store 3 (.t 3) (.t 10), none⟩,
   ⟨some 4, .mv (.t 11), none⟩])
 (.seq (.seq (.region [
   ⟨some 12, .mv (.t 4), none⟩,
   ⟨some 13, .bin .neq (.t 12) (.k (.int .i64 0)), none⟩])
 (.cond (.t 13) (.seq (.rjoin [18] [14, 15, 16, 17] [
     ⟨some 14, .call K.rabbetlaw26_awake [], none⟩,
     ⟨some 15, .mv (.t 14), none⟩,
     ⟨some 16, .mv (.t 4), some (15, true)⟩,
     ⟨some 17, .bin .eql (.t 16) (.k (.int .i64 3)), some (15, true)⟩,
     ⟨some 18, .pick (.t 15) (.t 17) (.k (.bool false)), none⟩]
   (.region [
     ⟨some 19, .mv (.t 18), none⟩,
     ⟨some 20, .load 3 true (.t 3), some (19, true)⟩,
     ⟨some 21, .build [.int .i64 0, .int .i64 0, .int .i64 0] [], some (19, true)⟩,
     ⟨some 22, .eqagg false [.n, .n, .n] (.t 20) (.t 21), some (19, true)⟩,
     ⟨some 23, .pick (.t 19) (.t 22) (.k (.bool false)), none⟩,
     ⟨some 2, .mv (.t 23), none⟩]))
   (.ret))
   (.skip)))
 (.seq (.region [
   ⟨some 25, .load 3 true (.t 3), none⟩,
   ⟨some 26, .call K.rabbetlaw26_line [(.t 25)], none⟩,
   ⟨some 24, .mv (.t 26), none⟩,
   ⟨some 27, .extract 0 (.t 24), none⟩,
   ⟨some 28, .extract 1 (.t 24), none⟩,
   ⟨some 5, .mv (.t 27), none⟩,
   ⟨some 6, .mv (.t 28), none⟩])
 (.seq (.rjoin [32] [29, 30, 31] [
   ⟨some 29, .call K.rabbetlaw26_awake [], none⟩,
   ⟨some 30, .mv (.t 29), none⟩,
   ⟨some 31, .mv (.t 6), some (30, true)⟩,
   ⟨some 32, .pick (.t 30) (.t 31) (.k (.bool false)), none⟩]
 (.region [
   ⟨some 33, .mv (.t 32), none⟩,
   ⟨some 34, .mv (.t 5), some (33, true)⟩,
   ⟨some 35, .mv (.t 0), some (33, true)⟩,
   ⟨some 36, .bin .eql (.t 34) (.t 35), some (33, true)⟩,
   ⟨some 37, .pick (.t 33) (.t 36) (.k (.bool false)), none⟩,
   ⟨some 2, .mv (.t 37), none⟩]))
 (.ret)))))⟩
theorem eq_rabbetlaw26_TaleSteps (Φ : Calls') (a0 : AV) (H : AH) (Q : Post) : fnE1 Φ ir_rabbetlaw26_TaleSteps [a0] H Q = rabbetlaw26_TaleSteps Φ a0 H Q := by kernel_rfl

/-! rabbet/rabbetlaw26.TaleTexts -/
def rabbetlaw26_TaleTexts_k1 (Φ : Calls') (s8 : List AV × AH) (L9 : (List AV × AH) → Prop) (Q : Post) : List AV → AH → Prop := fun j12 H13 =>
 Do (abin .add (sl s8.1 1) (.int .i64 1)) fun x30 =>
 L9 ([(sl j12 0), x30], H13)
def rabbetlaw26_TaleTexts_k2 (Φ : Calls') (x23 : AV) (s8 : List AV × AH) (L9 : (List AV × AH) → Prop) (Q : Post) : List AV → AH → Prop := fun j24 H25 =>
 Gd (sl j24 0) true (
 Do (abin .add x23 (.str [10])) fun x29 =>
 JoinP (rabbetlaw26_TaleTexts_k1 Φ s8 L9 Q) [x29] H25) (
 JoinP (rabbetlaw26_TaleTexts_k1 Φ s8 L9 Q) [x23] H25)
def rabbetlaw26_TaleTexts_k3 (Φ : Calls') (Q : Post) : List AV → AH → Prop := fun j47 H48 =>
Φ K.rabbetlaw26_awake [] H48 fun x59 H60 =>
 Q x59 H60
def rabbetlaw26_TaleTexts_l4 (Φ : Calls') (x33 : AV) (j1 : List AV) (Q : Post) : (List AV × AH) → ((List AV × AH) → Prop) → Prop := fun s49 L50 =>
 Do (alen false (sl j1 0)) fun x51 =>
 Do (abin .lss (sl s49.1 0) x51) fun x52 =>
 Gd x52 true (
 Do (aiaddr none 3 x33 (sl s49.1 0)) fun x53 =>
 Do (aload s49.2 3 true x53) fun x54 =>
 Do (aiaddr none 3 (sl j1 0) (sl s49.1 0)) fun x55 =>
 Do (aload s49.2 3 true x55) fun x56 =>
 Do (aeqAgg true [.n, .n, .n] x54 x56) fun x57 =>
 Gd x57 true (
 Q (.bool false) s49.2) (
 Do (abin .add (sl s49.1 0) (.int .i64 1)) fun x58 =>
 L50 ([x58], s49.2))) (
 JoinP (rabbetlaw26_TaleTexts_k3 Φ Q) [] s49.2)
def rabbetlaw26_TaleTexts_k5 (Φ : Calls') (x33 : AV) (j1 : List AV) (Q : Post) : List AV → AH → Prop := fun j36 H37 =>
 LoopP (rabbetlaw26_TaleTexts_l4 Φ x33 j1 Q) ([(.int .i64 0)], H37)
def rabbetlaw26_TaleTexts_k6 (Φ : Calls') (x33 : AV) (j1 : List AV) (Q : Post) : List AV → AH → Prop := fun j38 H39 =>
 Gd (sl j38 0) true (
 Q (.bool false) H39) (
 JoinP (rabbetlaw26_TaleTexts_k5 Φ x33 j1 Q) [] H39)
def rabbetlaw26_TaleTexts_k7 (Φ : Calls') (x33 : AV) (j1 : List AV) (Q : Post) : List AV → AH → Prop := fun j40 H41 =>
 Gd3 (sl j40 0) false (
 Do (alen false x33) fun x44 =>
 Do (alen false (sl j1 0)) fun x45 =>
 Do (abin .neq x44 x45) fun x46 =>
 JoinP (rabbetlaw26_TaleTexts_k6 Φ x33 j1 Q) [x46] H41) (
 JoinP (rabbetlaw26_TaleTexts_k6 Φ x33 j1 Q) [(.bool true)] H41) (
 False)
def rabbetlaw26_TaleTexts_k8 (Φ : Calls') (j1 : List AV) (Q : Post) : List AV → AH → Prop := fun j6 H7 =>
Φ K.tale_Read [(sl j6 0)] H7 fun x31 H32 =>
 Do (aextract 0 x31) fun x33 =>
 Do (aextract 1 x31) fun x34 =>
 Do (aextract 2 x31) fun x35 =>
 Do (abin .neq x35 (.int .i64 0)) fun x42 =>
 Gd3 x42 false (
 Do (abin .neq x34 (.int .i64 0)) fun x43 =>
 JoinP (rabbetlaw26_TaleTexts_k7 Φ x33 j1 Q) [x43] H32) (
 JoinP (rabbetlaw26_TaleTexts_k7 Φ x33 j1 Q) [(.bool true)] H32) (
 False)
def rabbetlaw26_TaleTexts_l9 (Φ : Calls') (a1 : AV) (j1 : List AV) (Q : Post) : (List AV × AH) → ((List AV × AH) → Prop) → Prop := fun s8 L9 =>
 Do (alen false (sl j1 0)) fun x10 =>
 Do (abin .lss (sl s8.1 1) x10) fun x11 =>
 Gd x11 true (
 Do (aiaddr none 3 (sl j1 0) (sl s8.1 1)) fun x14 =>
 Do (aload s8.2 3 true x14) fun x15 =>
Φ K.tale_Line [x15] s8.2 fun x16 H17 =>
 Do (aextract 0 x16) fun x18 =>
 Do (aextract 1 x16) fun x19 =>
 Do (abin .neq x19 (.int .i64 0)) fun x20 =>
 Gd x20 true (
Φ K.rabbetlaw26_awake [] H17 fun x21 H22 =>
 Q x21 H22) (
 Do (abin .add (sl s8.1 0) x18) fun x23 =>
 Gd3 a1 false (
 Do (alen false (sl j1 0)) fun x26 =>
 Do (abin .sub x26 (.int .i64 1)) fun x27 =>
 Do (abin .lss (sl s8.1 1) x27) fun x28 =>
 JoinP (rabbetlaw26_TaleTexts_k2 Φ x23 s8 L9 Q) [x28] H17) (
 JoinP (rabbetlaw26_TaleTexts_k2 Φ x23 s8 L9 Q) [(.bool true)] H17) (
 False))) (
 JoinP (rabbetlaw26_TaleTexts_k8 Φ j1 Q) [(sl s8.1 0)] s8.2)
def rabbetlaw26_TaleTexts_k10 (Φ : Calls') (a1 : AV) (Q : Post) : List AV → AH → Prop := fun j1 H2 =>
 LoopP (rabbetlaw26_TaleTexts_l9 Φ a1 j1 Q) ([(.str []), (.int .i64 0)], H2)
def rabbetlaw26_TaleTexts (Φ : Calls') (a0 : AV) (a1 : AV) (H : AH) (Q : Post) : Prop :=
 Do (alen false a0) fun x3 =>
 Do (abin .gtr x3 (.int .i64 500)) fun x4 =>
 Gd x4 true (
 Do (aslice 3 a0 none (some (.int .i64 500)) none) fun x5 =>
 JoinP (rabbetlaw26_TaleTexts_k10 Φ a1 Q) [x5] H) (
 JoinP (rabbetlaw26_TaleTexts_k10 Φ a1 Q) [a0] H)
def ir_rabbetlaw26_TaleTexts : AFunc := ⟨83, [.tmp 4],
 .seq (.region [
   ⟨some 4, .mv (.k (.bool false)), none⟩])
 (.join [0] [13, 14, 15, 16, 17] (.seq (.region [
   ⟨some 13, .mv (.t 0), none⟩,
   ⟨some 14, .len false (.t 13), none⟩,
   ⟨some 15, .bin .gtr (.t 14) (.k (.int .i64 500)), none⟩])
 (.cond (.t 15) (.region [
     ⟨some 16, .mv (.t 0), none⟩,
     ⟨some 17, .slice 3 (.t 16) none (some (.k (.int .i64 500))) none, none⟩,
     ⟨some 0, .mv (.t 17), none⟩])
   (.skip)))
 (.seq (.region [
   ⟨some 5, .mv (.k (.str [])), none⟩])
 (.join [5] [4, 6, 7, 8, 18, 19, 20, 21, 22, 23, 24, 25, 26, 27, 28, 29, 30, 31, 32, 33, 34, 35, 36, 37, 38, 39, 40, 41, 42, 43, 44, 45, 46, 47] (.seq (.region [
   ⟨some 6, .mv (.k (.int .i64 0)), none⟩])
 (.block 0 (.loop [5, 6] [4, 7, 8, 18, 19, 20, 21, 22, 23, 24, 25, 26, 27, 28, 29, 30, 31, 32, 33, 34, 35, 36, 37, 38, 39, 40, 41, 42, 43, 44, 45, 46, 47] (.seq (.seq (.region [
   ⟨some 18, .mv (.t 6), none⟩,
   ⟨some 19, .mv (.t 0), none⟩,
   ⟨some 20, .len false (.t 19), none⟩,
   ⟨some 21, .bin .lss (.t 18) (.t 20), none⟩])
 (.cond (.t 21) (.skip)
   (.exit 0)))
 (.join [5] [4, 7, 8, 24, 25, 26, 27, 28, 29, 30, 31, 32, 33, 34, 35, 36, 37, 38, 39, 40, 41, 42, 43, 44, 45, 46, 47] (.block 1 (.seq (.region [
   ⟨some 25, .mv (.t 0), none⟩,
   ⟨some 26, .mv (.t 6), none⟩,
   ⟨some 27, .iaddr none 3 (.t 25) (.t 26), none⟩,
   ⟨some 28, .load 3 true (.t 27), none⟩,
   ⟨some 29, .call K.tale_Line [(.t 28)], none⟩,
   ⟨some 24, .mv (.t 29), none⟩,
   ⟨some 30, .extract 0 (.t 24), none⟩,
   ⟨some 31, .extract 1 (.t 24), none⟩,
   ⟨some 7, .mv (.t 30), none⟩,
   ⟨some 8, .mv (.t 31), none⟩])
 (.seq (.seq (.region [
   ⟨some 32, .mv (.t 8), none⟩,
   ⟨some 33, .bin .neq (.t 32) (.k (.int .i64 0)), none⟩])
 (.cond (.t 33) (.seq (.region [
     ⟨some 34, .call K.rabbetlaw26_awake [], none⟩,
     ⟨some 4, .mv (.t 34), none⟩])
   (.ret))
   (.skip)))
 (.seq (.region [
   ⟨some 35, .mv (.t 5), none⟩,
   ⟨some 36, .mv (.t 7), none⟩,
   ⟨some 37, .bin .add (.t 35) (.t 36), none⟩,
   ⟨some 5, .mv (.t 37), none⟩])
 (.join [45] [38, 39, 40, 41, 42, 43, 44] (.region [
   ⟨some 38, .mv (.t 1), none⟩,
   ⟨some 39, .mv (.t 38), none⟩,
   ⟨some 40, .mv (.t 6), some (39, false)⟩,
   ⟨some 41, .mv (.t 0), some (39, false)⟩,
   ⟨some 42, .len false (.t 41), some (39, false)⟩,
   ⟨some 43, .bin .sub (.t 42) (.k (.int .i64 1)), some (39, false)⟩,
   ⟨some 44, .bin .lss (.t 40) (.t 43), some (39, false)⟩,
   ⟨some 45, .pick (.t 39) (.k (.bool true)) (.t 44), none⟩])
 (.cond (.t 45) (.region [
     ⟨some 46, .mv (.t 5), none⟩,
     ⟨some 47, .bin .add (.t 46) (.k (.str [10])), none⟩,
     ⟨some 5, .mv (.t 47), none⟩])
   (.skip)))))))
 (.region [
   ⟨some 22, .mv (.t 6), none⟩,
   ⟨some 23, .bin .add (.t 22) (.k (.int .i64 1)), none⟩,
   ⟨some 6, .mv (.t 23), none⟩]))))))
 (.seq (.region [
   ⟨some 49, .mv (.t 5), none⟩,
   ⟨some 50, .call K.tale_Read [(.t 49)], none⟩,
   ⟨some 48, .mv (.t 50), none⟩,
   ⟨some 51, .extract 0 (.t 48), none⟩,
   ⟨some 52, .extract 1 (.t 48), none⟩,
   ⟨some 53, .extract 2 (.t 48), none⟩,
   ⟨some 9, .mv (.t 51), none⟩,
   ⟨some 10, .mv (.t 52), none⟩,
   ⟨some 11, .mv (.t 53), none⟩])
 (.join [] [4, 54, 55, 56, 57, 58, 59, 60, 61, 62, 63, 64, 65, 66] (.join [66] [54, 55, 56, 57, 58, 59, 60, 61, 62, 63, 64, 65] (.rjoin [59] [54, 55, 56, 57, 58] [
   ⟨some 54, .mv (.t 11), none⟩,
   ⟨some 55, .bin .neq (.t 54) (.k (.int .i64 0)), none⟩,
   ⟨some 56, .mv (.t 55), none⟩,
   ⟨some 57, .mv (.t 10), some (56, false)⟩,
   ⟨some 58, .bin .neq (.t 57) (.k (.int .i64 0)), some (56, false)⟩,
   ⟨some 59, .pick (.t 56) (.k (.bool true)) (.t 58), none⟩]
 (.region [
   ⟨some 60, .mv (.t 59), none⟩,
   ⟨some 61, .mv (.t 9), some (60, false)⟩,
   ⟨some 62, .len false (.t 61), some (60, false)⟩,
   ⟨some 63, .mv (.t 0), some (60, false)⟩,
   ⟨some 64, .len false (.t 63), some (60, false)⟩,
   ⟨some 65, .bin .neq (.t 62) (.t 64), some (60, false)⟩,
   ⟨some 66, .pick (.t 60) (.k (.bool true)) (.t 65), none⟩]))
 (.cond (.t 66) (.seq (.region [
     ⟨some 4, .mv (.k (.bool false)), none⟩])
   (.ret))
   (.skip)))
 (.join [] [4, 12, 67, 68, 69, 70, 71, 72, 73, 74, 75, 76, 77, 78, 79, 80, 81] (.seq (.region [
   ⟨some 12, .mv (.k (.int .i64 0)), none⟩])
 (.block 2 (.loop [12] [4, 67, 68, 69, 70, 71, 72, 73, 74, 75, 76, 77, 78, 79, 80, 81] (.seq (.seq (.region [
   ⟨some 67, .mv (.t 12), none⟩,
   ⟨some 68, .mv (.t 0), none⟩,
   ⟨some 69, .len false (.t 68), none⟩,
   ⟨some 70, .bin .lss (.t 67) (.t 69), none⟩])
 (.cond (.t 70) (.skip)
   (.exit 2)))
 (.seq (.block 3 (.seq (.draw [
   ⟨some 73, .mv (.t 9), none⟩,
   ⟨some 74, .mv (.t 12), none⟩,
   ⟨some 75, .iaddr none 3 (.t 73) (.t 74), none⟩,
   ⟨some 76, .load 3 true (.t 75), none⟩,
   ⟨some 77, .mv (.t 0), none⟩,
   ⟨some 78, .mv (.t 12), none⟩,
   ⟨some 79, .iaddr none 3 (.t 77) (.t 78), none⟩,
   ⟨some 80, .load 3 true (.t 79), none⟩,
   ⟨some 81, .eqagg true [.n, .n, .n] (.t 76) (.t 80), none⟩]
 [[], [], [0, 1], [0, 1, 2], [], [], [4, 5], [4, 5, 6], [0, 1, 2, 3, 4, 5, 6, 7]] [] [0, 1, 2, 3, 4, 5, 6, 7, 8])
 (.cond (.t 81) (.seq (.region [
     ⟨some 4, .mv (.k (.bool false)), none⟩])
   (.ret))
   (.skip))))
 (.region [
   ⟨some 71, .mv (.t 12), none⟩,
   ⟨some 72, .bin .add (.t 71) (.k (.int .i64 1)), none⟩,
   ⟨some 12, .mv (.t 72), none⟩]))))))
 (.seq (.region [
   ⟨some 82, .call K.rabbetlaw26_awake [], none⟩,
   ⟨some 4, .mv (.t 82), none⟩])
 (.ret))))))))⟩
theorem eq_rabbetlaw26_TaleTexts (Φ : Calls') (a0 a1 : AV) (H : AH) (Q : Post) : fnE1 Φ ir_rabbetlaw26_TaleTexts [a0, a1] H Q = rabbetlaw26_TaleTexts Φ a0 a1 H Q := by kernel_rfl

/-! rabbet/tale.Line -/
def tale_Line_k1 (Φ : Calls') (Q : Post) : List AV → AH → Prop := fun j24 H25 =>
 Q (.tup [(sl j24 0), (.int .i64 0)]) H25
def tale_Line_k2 (Φ : Calls') (x1 : AV) (x7 : AV) (x8 : AV) (Q : Post) : List AV → AH → Prop := fun j9 H10 =>
 Do (abin .add x7 (.str [32])) fun x18 =>
 Do (afaddr 1 x1) fun x19 =>
 Do (aload H10 1 false x19) fun x20 =>
Φ K.strconv_Itoa [x20] H10 fun x21 H22 =>
 Do (abin .add x18 x21) fun x23 =>
 Do (abin .eql x8 (.int .i64 2)) fun x26 =>
 Gd x26 true (
 Do (afaddr 2 x1) fun x27 =>
 Do (aload H22 1 false x27) fun x28 =>
Φ K.strconv_Itoa [x28] H22 fun x29 H30 =>
 Do (abin .add (.str [32]) x29) fun x31 =>
 Do (abin .add x23 x31) fun x32 =>
 JoinP (tale_Line_k1 Φ Q) [x32] H30) (
 JoinP (tale_Line_k1 Φ Q) [x23] H22)
def tale_Line_k3 (Φ : Calls') (x1 : AV) (x7 : AV) (x8 : AV) (Q : Post) : List AV → AH → Prop := fun j11 H12 =>
 Gd (sl j11 0) true (
 Q (.tup [(.str []), (.int .i64 1)]) H12) (
 JoinP (tale_Line_k2 Φ x1 x7 x8 Q) [] H12)
def tale_Line (Φ : Calls') (a0 : AV) (H : AH) (Q : Post) : Prop :=
 DoH (aboxv H false 3 a0) fun x1 H2 =>
 Do (afaddr 0 x1) fun x3 =>
 Do (aload H2 1 false x3) fun x4 =>
Φ K.tale_word [x4] H2 fun x5 H6 =>
 Do (aextract 0 x5) fun x7 =>
 Do (aextract 1 x5) fun x8 =>
 Do (abin .eql x7 (.str [])) fun x13 =>
 Gd3 x13 false (
 Do (abin .lss x8 (.int .i64 2)) fun x14 =>
 Gd3 x14 true (
 Do (afaddr 2 x1) fun x15 =>
 Do (aload H6 1 false x15) fun x16 =>
 Do (abin .neq x16 (.int .i64 0)) fun x17 =>
 JoinP (tale_Line_k3 Φ x1 x7 x8 Q) [x17] H6) (
 JoinP (tale_Line_k3 Φ x1 x7 x8 Q) [(.bool false)] H6) (
 False)) (
 JoinP (tale_Line_k3 Φ x1 x7 x8 Q) [(.bool true)] H6) (
 False)
def ir_tale_Line : AFunc := ⟨39, [.tmp 2, .tmp 3],
 .seq (.region [
   ⟨some 1, .box false 3 (.t 0), none⟩,
   ⟨some 2, .mv (.k (.str [])), none⟩,
   ⟨some 3, .mv (.k (.int .i64 0)), none⟩])
 (.seq (.region [
   ⟨some 8, .faddr 0 (.t 1), none⟩,
   ⟨some 9, .load 1 false (.t 8), none⟩,
   ⟨some 10, .call K.tale_word [(.t 9)], none⟩,
   ⟨some 7, .mv (.t 10), none⟩,
   ⟨some 11, .extract 0 (.t 7), none⟩,
   ⟨some 12, .extract 1 (.t 7), none⟩,
   ⟨some 4, .mv (.t 11), none⟩,
   ⟨some 5, .mv (.t 12), none⟩])
 (.join [] [2, 3, 13, 14, 15, 16, 17, 18, 19, 20, 21, 22, 23] (.join [23] [13, 14, 15, 16, 17, 18, 19, 20, 21, 22] (.region [
   ⟨some 13, .mv (.t 4), none⟩,
   ⟨some 14, .bin .eql (.t 13) (.k (.str [])), none⟩,
   ⟨some 15, .mv (.t 14), none⟩,
   ⟨some 16, .mv (.t 5), some (15, false)⟩,
   ⟨some 17, .bin .lss (.t 16) (.k (.int .i64 2)), some (15, false)⟩,
   ⟨some 18, .mv (.t 17), some (15, false)⟩,
   ⟨some 19, .faddr 2 (.t 1), some (18, true)⟩,
   ⟨some 20, .load 1 false (.t 19), some (18, true)⟩,
   ⟨some 21, .bin .neq (.t 20) (.k (.int .i64 0)), some (18, true)⟩,
   ⟨some 22, .pick (.t 18) (.t 21) (.k (.bool false)), some (15, false)⟩,
   ⟨some 23, .pick (.t 15) (.k (.bool true)) (.t 22), none⟩])
 (.cond (.t 23) (.seq (.region [
     ⟨some 2, .mv (.k (.str [])), none⟩,
     ⟨some 3, .mv (.k (.int .i64 1)), none⟩])
   (.ret))
   (.skip)))
 (.seq (.region [
   ⟨some 24, .mv (.t 4), none⟩,
   ⟨some 25, .bin .add (.t 24) (.k (.str [32])), none⟩,
   ⟨some 26, .faddr 1 (.t 1), none⟩,
   ⟨some 27, .load 1 false (.t 26), none⟩,
   ⟨some 28, .call K.strconv_Itoa [(.t 27)], none⟩,
   ⟨some 29, .bin .add (.t 25) (.t 28), none⟩,
   ⟨some 6, .mv (.t 29), none⟩])
 (.join [6] [30, 31, 32, 33, 34, 35, 36, 37] (.seq (.region [
   ⟨some 30, .mv (.t 5), none⟩,
   ⟨some 31, .bin .eql (.t 30) (.k (.int .i64 2)), none⟩])
 (.cond (.t 31) (.region [
     ⟨some 32, .mv (.t 6), none⟩,
     ⟨some 33, .faddr 2 (.t 1), none⟩,
     ⟨some 34, .load 1 false (.t 33), none⟩,
     ⟨some 35, .call K.strconv_Itoa [(.t 34)], none⟩,
     ⟨some 36, .bin .add (.k (.str [32])) (.t 35), none⟩,
     ⟨some 37, .bin .add (.t 32) (.t 36), none⟩,
     ⟨some 6, .mv (.t 37), none⟩])
   (.skip)))
 (.seq (.region [
   ⟨some 38, .mv (.t 6), none⟩,
   ⟨some 2, .mv (.t 38), none⟩,
   ⟨some 3, .mv (.k (.int .i64 0)), none⟩])
 (.ret))))))⟩
theorem eq_tale_Line (Φ : Calls') (a0 : AV) (H : AH) (Q : Post) : fnE1 Φ ir_tale_Line [a0] H Q = tale_Line Φ a0 H Q := by kernel_rfl

/-! rabbet/rabbetlaw26.line -/
def rabbetlaw26_line (Φ : Calls') (a0 : AV) (H : AH) (Q : Post) : Prop :=
 DoH (aboxv H false 3 a0) fun x1 H2 =>
 Do (afaddr 0 x1) fun x3 =>
 Do (aload H2 1 false x3) fun x4 =>
 Do (abin .eql x4 (.int .i64 1)) fun x5 =>
 Gd x5 true (
 Do (afaddr 1 x1) fun x6 =>
 Do (aload H2 1 false x6) fun x7 =>
 Do (afaddr 2 x1) fun x8 =>
 Do (aload H2 1 false x8) fun x9 =>
Φ K.rabbetlaw26_digits [x7] H2 fun x10 H11 =>
(aload H11 1 false x8 = some x9) ∧
(Do (abin .add (.str [114, 117, 110, 32]) x10) fun x12 =>
 Do (abin .add x12 (.str [32])) fun x13 =>
Φ K.rabbetlaw26_digits [x9] H11 fun x14 H15 =>
 Do (abin .add x13 x14) fun x16 =>
 Q (.tup [x16, (.bool true)]) H15)) (
 Do (abin .eql x4 (.int .i64 2)) fun x17 =>
 Gd x17 true (
 Do (afaddr 1 x1) fun x18 =>
 Do (aload H2 1 false x18) fun x19 =>
 Do (afaddr 2 x1) fun x20 =>
 Do (aload H2 1 false x20) fun x21 =>
 Do (abin .eql x21 (.int .i64 0)) fun x22 =>
Φ K.rabbetlaw26_digits [x19] H2 fun x23 H24 =>
(aload H24 1 false x20 = some x21) ∧
(Do (abin .add (.str [102, 97, 105, 108, 32]) x23) fun x25 =>
 Q (.tup [x25, x22]) H24)) (
 Do (abin .eql x4 (.int .i64 3)) fun x26 =>
 Gd x26 true (
 Do (afaddr 1 x1) fun x27 =>
 Do (aload H2 1 false x27) fun x28 =>
 Do (afaddr 2 x1) fun x29 =>
 Do (aload H2 1 false x29) fun x30 =>
 Do (abin .eql x30 (.int .i64 0)) fun x31 =>
Φ K.rabbetlaw26_digits [x28] H2 fun x32 H33 =>
(aload H33 1 false x29 = some x30) ∧
(Do (abin .add (.str [97, 108, 108, 32]) x32) fun x34 =>
 Q (.tup [x34, x31]) H33)) (
 Q (.tup [(.str []), (.bool false)]) H2)))
def ir_rabbetlaw26_line : AFunc := ⟨35, [.tmp 2, .tmp 3],
 .seq (.region [
   ⟨some 1, .box false 3 (.t 0), none⟩,
   ⟨some 2, .mv (.k (.str [])), none⟩,
   ⟨some 3, .mv (.k (.bool false)), none⟩])
 (.seq (.seq (.region [
   ⟨some 4, .faddr 0 (.t 1), none⟩,
   ⟨some 5, .load 1 false (.t 4), none⟩])
 (.block 0 (.seq (.region [
   ⟨some 7, .bin .eql (.t 5) (.k (.int .i64 1)), none⟩,
   ⟨some 6, .mv (.t 7), none⟩])
 (.cond (.t 6) (.seq (.draw [
     ⟨some 8, .faddr 1 (.t 1), none⟩,
     ⟨some 9, .load 1 false (.t 8), none⟩,
     ⟨some 10, .call K.rabbetlaw26_digits [(.t 9)], none⟩,
     ⟨some 11, .bin .add (.k (.str [114, 117, 110, 32])) (.t 10), none⟩,
     ⟨some 12, .bin .add (.t 11) (.k (.str [32])), none⟩,
     ⟨some 13, .faddr 2 (.t 1), none⟩,
     ⟨some 14, .load 1 false (.t 13), none⟩,
     ⟨some 15, .call K.rabbetlaw26_digits [(.t 14)], none⟩,
     ⟨some 16, .bin .add (.t 12) (.t 15), none⟩,
     ⟨some 2, .mv (.t 16), none⟩,
     ⟨some 3, .mv (.k (.bool true)), none⟩]
   [[], [0], [0, 1], [0, 1, 2], [0, 1, 2, 3], [], [5], [0, 1, 2, 5, 6], [0, 1, 2, 3, 4, 5, 6, 7], [0, 1, 2, 3, 4, 5, 6, 7, 8], [0, 1, 2, 3, 4, 5, 6, 7, 8, 9]] [([0, 1, 5, 6], 2, [6]), ([3, 4], 7, [])] [8, 9, 10])
   (.ret))
   (.seq (.region [
     ⟨some 18, .bin .eql (.t 5) (.k (.int .i64 2)), none⟩,
     ⟨some 17, .mv (.t 18), none⟩])
   (.cond (.t 17) (.seq (.draw [
       ⟨some 19, .faddr 1 (.t 1), none⟩,
       ⟨some 20, .load 1 false (.t 19), none⟩,
       ⟨some 21, .call K.rabbetlaw26_digits [(.t 20)], none⟩,
       ⟨some 22, .bin .add (.k (.str [102, 97, 105, 108, 32])) (.t 21), none⟩,
       ⟨some 23, .faddr 2 (.t 1), none⟩,
       ⟨some 24, .load 1 false (.t 23), none⟩,
       ⟨some 25, .bin .eql (.t 24) (.k (.int .i64 0)), none⟩,
       ⟨some 2, .mv (.t 22), none⟩,
       ⟨some 3, .mv (.t 25), none⟩]
     [[], [0], [0, 1], [0, 1, 2], [], [4], [4, 5], [0, 1, 2, 3], [0, 1, 2, 3, 4, 5, 6, 7]] [([0, 1, 4, 5, 6], 2, [5])] [3, 7, 8])
     (.ret))
     (.seq (.region [
       ⟨some 27, .bin .eql (.t 5) (.k (.int .i64 3)), none⟩,
       ⟨some 26, .mv (.t 27), none⟩])
     (.cond (.t 26) (.seq (.draw [
         ⟨some 28, .faddr 1 (.t 1), none⟩,
         ⟨some 29, .load 1 false (.t 28), none⟩,
         ⟨some 30, .call K.rabbetlaw26_digits [(.t 29)], none⟩,
         ⟨some 31, .bin .add (.k (.str [97, 108, 108, 32])) (.t 30), none⟩,
         ⟨some 32, .faddr 2 (.t 1), none⟩,
         ⟨some 33, .load 1 false (.t 32), none⟩,
         ⟨some 34, .bin .eql (.t 33) (.k (.int .i64 0)), none⟩,
         ⟨some 2, .mv (.t 31), none⟩,
         ⟨some 3, .mv (.t 34), none⟩]
       [[], [0], [0, 1], [0, 1, 2], [], [4], [4, 5], [0, 1, 2, 3], [0, 1, 2, 3, 4, 5, 6, 7]] [([0, 1, 4, 5, 6], 2, [5])] [3, 7, 8])
       (.ret))
       (.skip)))))))))
 (.seq (.region [
   ⟨some 2, .mv (.k (.str [])), none⟩,
   ⟨some 3, .mv (.k (.bool false)), none⟩])
 (.ret)))⟩
theorem eq_rabbetlaw26_line (Φ : Calls') (a0 : AV) (H : AH) (Q : Post) : fnE1 Φ ir_rabbetlaw26_line [a0] H Q = rabbetlaw26_line Φ a0 H Q := by kernel_rfl

/-! rabbet/rabbetlaw26.awake -/
def rabbetlaw26_awake_k1 (Φ : Calls') (x15 : AV) (Q : Post) : List AV → AH → Prop := fun j33 H34 =>
 Gd3 (sl j33 0) true (
 Do (alen false x15) fun x36 =>
 Do (abin .eql x36 (.int .i64 2)) fun x37 =>
 Q x37 H34) (
 Q (.bool false) H34) (
 False)
def rabbetlaw26_awake_k2 (Φ : Calls') (x11 : AV) (x15 : AV) (Q : Post) : List AV → AH → Prop := fun j28 H29 =>
 Gd3 (sl j28 0) true (
 Do (abin .eql x11 (.str [97, 108, 108, 32, 55])) fun x35 =>
 JoinP (rabbetlaw26_awake_k1 Φ x15 Q) [x35] H29) (
 JoinP (rabbetlaw26_awake_k1 Φ x15 Q) [(.bool false)] H29) (
 False)
def rabbetlaw26_awake_k3 (Φ : Calls') (x5 : AV) (x11 : AV) (x15 : AV) (Q : Post) : List AV → AH → Prop := fun j25 H26 =>
 Gd3 (sl j25 0) true (
 Do (aload H26 3 true x5) fun x30 =>
 Do (abuild [.int .i64 0, .int .i64 0, .int .i64 0] [(0, 1, (.int .i64 1)), (1, 1, (.int .i64 1)), (2, 1, (.int .i64 (-4)))]) fun x31 =>
 Do (aeqAgg false [.n, .n, .n] x30 x31) fun x32 =>
 JoinP (rabbetlaw26_awake_k2 Φ x11 x15 Q) [x32] H26) (
 JoinP (rabbetlaw26_awake_k2 Φ x11 x15 Q) [(.bool false)] H26) (
 False)
def rabbetlaw26_awake_k4 (Φ : Calls') (x5 : AV) (x11 : AV) (x15 : AV) (x16 : AV) (Q : Post) : List AV → AH → Prop := fun j22 H23 =>
 Gd3 (sl j22 0) true (
 Do (abin .eql x16 (.int .i64 0)) fun x27 =>
 JoinP (rabbetlaw26_awake_k3 Φ x5 x11 x15 Q) [x27] H23) (
 JoinP (rabbetlaw26_awake_k3 Φ x5 x11 x15 Q) [(.bool false)] H23) (
 False)
def rabbetlaw26_awake_k5 (Φ : Calls') (x5 : AV) (x11 : AV) (x15 : AV) (x16 : AV) (x17 : AV) (Q : Post) : List AV → AH → Prop := fun j18 H19 =>
 Gd3 (sl j18 0) true (
 Do (abin .eql x17 (.int .i64 0)) fun x24 =>
 JoinP (rabbetlaw26_awake_k4 Φ x5 x11 x15 x16 Q) [x24] H19) (
 JoinP (rabbetlaw26_awake_k4 Φ x5 x11 x15 x16 Q) [(.bool false)] H19) (
 False)
def rabbetlaw26_awake (Φ : Calls') (H : AH) (Q : Post) : Prop :=
Φ K.tale_Step [(.str [114, 117, 110, 32, 49, 32, 45, 52])] H fun x1 H2 =>
 Do (aextract 0 x1) fun x3 =>
 Do (aextract 1 x1) fun x4 =>
 DoH (some (abox H2 true [.int .i64 0, .int .i64 0, .int .i64 0])) fun x5 H6 =>
 Do (astore H6 3 x5 x3) fun H7 =>
 Do (abuild [.int .i64 0, .int .i64 0, .int .i64 0] [(0, 1, (.int .i64 3)), (1, 1, (.int .i64 7))]) fun x8 =>
Φ K.tale_Line [x8] H7 fun x9 H10 =>
 Do (aextract 0 x9) fun x11 =>
 Do (aextract 1 x9) fun x12 =>
Φ K.tale_Read [(.str [102, 97, 105, 108, 32, 48, 10, 97, 108, 108, 32, 50])] H10 fun x13 H14 =>
 Do (aextract 0 x13) fun x15 =>
 Do (aextract 1 x13) fun x16 =>
 Do (aextract 2 x13) fun x17 =>
 Do (abin .eql x4 (.int .i64 0)) fun x20 =>
 Gd3 x20 true (
 Do (abin .eql x12 (.int .i64 0)) fun x21 =>
 JoinP (rabbetlaw26_awake_k5 Φ x5 x11 x15 x16 x17 Q) [x21] H14) (
 JoinP (rabbetlaw26_awake_k5 Φ x5 x11 x15 x16 x17 Q) [(.bool false)] H14) (
 False)
def ir_rabbetlaw26_awake : AFunc := ⟨50, [.tmp 0],
 .seq (.region [
   ⟨some 0, .mv (.k (.bool false)), none⟩])
 (.seq (.region [
   ⟨some 9, .call K.tale_Step [(.k (.str [114, 117, 110, 32, 49, 32, 45, 52]))], none⟩,
   ⟨some 8, .mv (.t 9), none⟩,
   ⟨some 10, .extract 0 (.t 8), none⟩,
   ⟨some 11, .extract 1 (.t 8), none⟩,
   ⟨some 1, .alloc true [.int .i64 0, .int .i64 0, .int .i64 0], none⟩,
   ⟨none, .store 3 (.t 1) (.t 10), none⟩,
   ⟨some 2, .mv (.t 11), none⟩])
 (.seq (.region [
   ⟨some 13, .build [.int .i64 0, .int .i64 0, .int .i64 0] [(0, 1, (.k (.int .i64 3))), (1, 1, (.k (.int .i64 7)))], none⟩,
   ⟨some 14, .call K.tale_Line [(.t 13)], none⟩,
   ⟨some 12, .mv (.t 14), none⟩,
   ⟨some 15, .extract 0 (.t 12), none⟩,
   ⟨some 16, .extract 1 (.t 12), none⟩,
   ⟨some 3, .mv (.t 15), none⟩,
   ⟨some 4, .mv (.t 16), none⟩])
 (.seq (.region [
   ⟨some 18, .call K.tale_Read [(.k (.str [102, 97, 105, 108, 32, 48, 10, 97, 108, 108, 32, 50]))], none⟩,
   ⟨some 17, .mv (.t 18), none⟩,
   ⟨some 19, .extract 0 (.t 17), none⟩,
   ⟨some 20, .extract 1 (.t 17), none⟩,
   ⟨some 21, .extract 2 (.t 17), none⟩,
   ⟨some 5, .mv (.t 19), none⟩,
   ⟨some 6, .mv (.t 20), none⟩,
   ⟨some 7, .mv (.t 21), none⟩])
 (.seq (.rjoin [27] [22, 23, 24, 25, 26] [
   ⟨some 22, .mv (.t 2), none⟩,
   ⟨some 23, .bin .eql (.t 22) (.k (.int .i64 0)), none⟩,
   ⟨some 24, .mv (.t 23), none⟩,
   ⟨some 25, .mv (.t 4), some (24, true)⟩,
   ⟨some 26, .bin .eql (.t 25) (.k (.int .i64 0)), some (24, true)⟩,
   ⟨some 27, .pick (.t 24) (.t 26) (.k (.bool false)), none⟩]
 (.rjoin [31] [28, 29, 30] [
   ⟨some 28, .mv (.t 27), none⟩,
   ⟨some 29, .mv (.t 7), some (28, true)⟩,
   ⟨some 30, .bin .eql (.t 29) (.k (.int .i64 0)), some (28, true)⟩,
   ⟨some 31, .pick (.t 28) (.t 30) (.k (.bool false)), none⟩]
 (.rjoin [35] [32, 33, 34] [
   ⟨some 32, .mv (.t 31), none⟩,
   ⟨some 33, .mv (.t 6), some (32, true)⟩,
   ⟨some 34, .bin .eql (.t 33) (.k (.int .i64 0)), some (32, true)⟩,
   ⟨some 35, .pick (.t 32) (.t 34) (.k (.bool false)), none⟩]
 (.rjoin [40] [36, 37, 38, 39] [
   ⟨some 36, .mv (.t 35), none⟩,
   ⟨some 37, .load 3 true (.t 1), some (36, true)⟩,
   ⟨some 38, .build [.int .i64 0, .int .i64 0, .int .i64 0] [(0, 1, (.k (.int .i64 1))), (1, 1, (.k (.int .i64 1))), (2, 1, (.k (.int .i64 (-4))))], some (36, true)⟩,
   ⟨some 39, .eqagg false [.n, .n, .n] (.t 37) (.t 38), some (36, true)⟩,
   ⟨some 40, .pick (.t 36) (.t 39) (.k (.bool false)), none⟩]
 (.rjoin [44] [41, 42, 43] [
   ⟨some 41, .mv (.t 40), none⟩,
   ⟨some 42, .mv (.t 3), some (41, true)⟩,
   ⟨some 43, .bin .eql (.t 42) (.k (.str [97, 108, 108, 32, 55])), some (41, true)⟩,
   ⟨some 44, .pick (.t 41) (.t 43) (.k (.bool false)), none⟩]
 (.region [
   ⟨some 45, .mv (.t 44), none⟩,
   ⟨some 46, .mv (.t 5), some (45, true)⟩,
   ⟨some 47, .len false (.t 46), some (45, true)⟩,
   ⟨some 48, .bin .eql (.t 47) (.k (.int .i64 2)), some (45, true)⟩,
   ⟨some 49, .pick (.t 45) (.t 48) (.k (.bool false)), none⟩,
   ⟨some 0, .mv (.t 49), none⟩]))))))
 (.ret)))))⟩
theorem eq_rabbetlaw26_awake (Φ : Calls') (H : AH) (Q : Post) : fnE1 Φ ir_rabbetlaw26_awake [] H Q = rabbetlaw26_awake Φ H Q := by kernel_rfl

/-! rabbet/tale.Step -/
def tale_Step_k1 (Φ : Calls') (s7 : List AV × AH) (L8 : (List AV × AH) → Prop) (Q : Post) : List AV → AH → Prop := fun j10 H11 =>
 Do (abin .add (sl s7.1 0) (.int .i64 1)) fun x26 =>
 L8 ([x26], H11)
def tale_Step_k2 (Φ : Calls') (a0 : AV) (x1 : AV) (x28 : AV) (s7 : List AV × AH) (L8 : (List AV × AH) → Prop) (Q : Post) : List AV → AH → Prop := fun j39 H40 =>
 Do (aload H40 3 true x28) fun x50 =>
Φ K.tale_Line [x50] H40 fun x51 H52 =>
 Do (aextract 0 x51) fun x53 =>
 Do (aextract 1 x51) fun x54 =>
 Do (abin .eql x53 a0) fun x55 =>
 Gd x55 true (
 Do (aload H52 3 true x28) fun x56 =>
 Do (astore H52 3 x1 x56) fun H57 =>
 Do (aload H57 3 true x1) fun x58 =>
 Q (.tup [x58, (.int .i64 0)]) H57) (
 JoinP (tale_Step_k1 Φ s7 L8 Q) [] H52)
def tale_Step_k3 (Φ : Calls') (a0 : AV) (x1 : AV) (x3 : AV) (x15 : AV) (s7 : List AV × AH) (L8 : (List AV × AH) → Prop) (Q : Post) : List AV → AH → Prop := fun j16 H17 =>
 Do (abuild [.int .i64 0, .int .i64 0, .int .i64 0] [(0, 1, (sl s7.1 0))]) fun x27 =>
 DoH (some (abox H17 true [.int .i64 0, .int .i64 0, .int .i64 0])) fun x28 H29 =>
 Do (astore H29 3 x28 x27) fun H30 =>
 Do (aiaddr none 1 x3 (.int .i64 1)) fun x31 =>
 Do (aload H30 1 false x31) fun x32 =>
Φ K.strconv_Atoi [x32] H30 fun x33 H34 =>
 Do (aextract 0 x33) fun x35 =>
 Do (aextract 1 x33) fun x36 =>
 Do (afaddr 1 x28) fun x37 =>
 Do (astore H34 1 x37 x35) fun H38 =>
 Do (abin .eql x15 (.int .i64 2)) fun x41 =>
 Gd x41 true (
 Do (aiaddr none 1 x3 (.int .i64 2)) fun x42 =>
 Do (aload H38 1 false x42) fun x43 =>
Φ K.strconv_Atoi [x43] H38 fun x44 H45 =>
 Do (aextract 0 x44) fun x46 =>
 Do (aextract 1 x44) fun x47 =>
 Do (afaddr 2 x28) fun x48 =>
 Do (astore H45 1 x48 x46) fun H49 =>
 JoinP (tale_Step_k2 Φ a0 x1 x28 s7 L8 Q) [] H49) (
 JoinP (tale_Step_k2 Φ a0 x1 x28 s7 L8 Q) [] H38)
def tale_Step_k4 (Φ : Calls') (a0 : AV) (x1 : AV) (x3 : AV) (x15 : AV) (s7 : List AV × AH) (L8 : (List AV × AH) → Prop) (Q : Post) : List AV → AH → Prop := fun j18 H19 =>
 Gd (sl j18 0) true (
 JoinP (tale_Step_k1 Φ s7 L8 Q) [] H19) (
 JoinP (tale_Step_k3 Φ a0 x1 x3 x15 s7 L8 Q) [] H19)
def tale_Step_k5 (Φ : Calls') (x1 : AV) (Q : Post) : List AV → AH → Prop := fun j5 H6 =>
 Do (abuild [.int .i64 0, .int .i64 0, .int .i64 0] []) fun x59 =>
 Do (astore H6 3 x1 x59) fun H60 =>
 Do (aload H60 3 true x1) fun x61 =>
 Q (.tup [x61, (.int .i64 3)]) H60
def tale_Step_l6 (Φ : Calls') (a0 : AV) (x1 : AV) (x3 : AV) (Q : Post) : (List AV × AH) → ((List AV × AH) → Prop) → Prop := fun s7 L8 =>
 Do (abin .leq (sl s7.1 0) (.int .i64 3)) fun x9 =>
 Gd x9 true (
Φ K.tale_word [(sl s7.1 0)] s7.2 fun x12 H13 =>
 Do (aextract 0 x12) fun x14 =>
 Do (aextract 1 x12) fun x15 =>
 Do (aiaddr none 1 x3 (.int .i64 0)) fun x20 =>
 Do (aload H13 1 false x20) fun x21 =>
 Do (abin .neq x21 x14) fun x22 =>
 Gd3 x22 false (
 Do (alen false x3) fun x23 =>
 Do (abin .add x15 (.int .i64 1)) fun x24 =>
 Do (abin .neq x23 x24) fun x25 =>
 JoinP (tale_Step_k4 Φ a0 x1 x3 x15 s7 L8 Q) [x25] H13) (
 JoinP (tale_Step_k4 Φ a0 x1 x3 x15 s7 L8 Q) [(.bool true)] H13) (
 False)) (
 JoinP (tale_Step_k5 Φ x1 Q) [] s7.2)
def tale_Step (Φ : Calls') (a0 : AV) (H : AH) (Q : Post) : Prop :=
 DoH (some (abox H true [.int .i64 0, .int .i64 0, .int .i64 0])) fun x1 H2 =>
Φ K.strings_Split [a0, (.str [32])] H2 fun x3 H4 =>
 LoopP (tale_Step_l6 Φ a0 x1 x3 Q) ([(.int .i64 1)], H4)
def ir_tale_Step : AFunc := ⟨64, [.cell 2 3 true, .tmp 3],
 .seq (.region [
   ⟨some 2, .alloc true [.int .i64 0, .int .i64 0, .int .i64 0], none⟩,
   ⟨some 3, .mv (.k (.int .i64 0)), none⟩])
 (.seq (.region [
   ⟨some 11, .mv (.t 0), none⟩,
   ⟨some 12, .call K.strings_Split [(.t 11), (.k (.str [32]))], none⟩,
   ⟨some 4, .mv (.t 12), none⟩])
 (.join [] [3, 5, 6, 7, 8, 9, 10, 13, 14, 15, 16, 17, 18, 19, 20, 21, 22, 23, 24, 25, 26, 27, 28, 29, 30, 31, 32, 33, 34, 35, 36, 37, 38, 39, 40, 41, 42, 43, 44, 45, 46, 47, 48, 49, 50, 51, 52, 53, 54, 55, 56, 57, 58, 59, 60, 61, 62] (.seq (.region [
   ⟨some 5, .mv (.k (.int .i64 1)), none⟩])
 (.block 0 (.loop [5] [3, 6, 7, 8, 9, 10, 13, 14, 15, 16, 17, 18, 19, 20, 21, 22, 23, 24, 25, 26, 27, 28, 29, 30, 31, 32, 33, 34, 35, 36, 37, 38, 39, 40, 41, 42, 43, 44, 45, 46, 47, 48, 49, 50, 51, 52, 53, 54, 55, 56, 57, 58, 59, 60, 61, 62] (.seq (.seq (.region [
   ⟨some 13, .mv (.t 5), none⟩,
   ⟨some 14, .bin .leq (.t 13) (.k (.int .i64 3)), none⟩])
 (.cond (.t 14) (.skip)
   (.exit 0)))
 (.join [] [3, 6, 7, 8, 9, 10, 17, 18, 19, 20, 21, 22, 23, 24, 25, 26, 27, 28, 29, 30, 31, 32, 33, 34, 35, 36, 37, 38, 39, 40, 41, 42, 43, 44, 45, 46, 47, 48, 49, 50, 51, 52, 53, 54, 55, 56, 57, 58, 59, 60, 61, 62] (.block 1 (.seq (.region [
   ⟨some 18, .mv (.t 5), none⟩,
   ⟨some 19, .call K.tale_word [(.t 18)], none⟩,
   ⟨some 17, .mv (.t 19), none⟩,
   ⟨some 20, .extract 0 (.t 17), none⟩,
   ⟨some 21, .extract 1 (.t 17), none⟩,
   ⟨some 6, .mv (.t 20), none⟩,
   ⟨some 7, .mv (.t 21), none⟩])
 (.join [] [22, 23, 24, 25, 26, 27, 28, 29, 30, 31, 32, 33] (.join [33] [22, 23, 24, 25, 26, 27, 28, 29, 30, 31, 32] (.region [
   ⟨some 22, .mv (.t 4), none⟩,
   ⟨some 23, .iaddr none 1 (.t 22) (.k (.int .i64 0)), none⟩,
   ⟨some 24, .load 1 false (.t 23), none⟩,
   ⟨some 25, .mv (.t 6), none⟩,
   ⟨some 26, .bin .neq (.t 24) (.t 25), none⟩,
   ⟨some 27, .mv (.t 26), none⟩,
   ⟨some 28, .mv (.t 4), some (27, false)⟩,
   ⟨some 29, .len false (.t 28), some (27, false)⟩,
   ⟨some 30, .mv (.t 7), some (27, false)⟩,
   ⟨some 31, .bin .add (.t 30) (.k (.int .i64 1)), some (27, false)⟩,
   ⟨some 32, .bin .neq (.t 29) (.t 31), some (27, false)⟩,
   ⟨some 33, .pick (.t 27) (.k (.bool true)) (.t 32), none⟩])
 (.cond (.t 33) (.exit 1)
   (.skip)))
 (.seq (.region [
   ⟨some 34, .mv (.t 5), none⟩,
   ⟨some 35, .build [.int .i64 0, .int .i64 0, .int .i64 0] [(0, 1, (.t 34))], none⟩,
   ⟨some 8, .alloc true [.int .i64 0, .int .i64 0, .int .i64 0], none⟩,
   ⟨none, .store 3 (.t 8) (.t 35), none⟩])
 (.seq (.region [
   ⟨some 37, .mv (.t 4), none⟩,
   ⟨some 38, .iaddr none 1 (.t 37) (.k (.int .i64 1)), none⟩,
   ⟨some 39, .load 1 false (.t 38), none⟩,
   ⟨some 40, .call K.strconv_Atoi [(.t 39)], none⟩,
   ⟨some 36, .mv (.t 40), none⟩,
   ⟨some 41, .extract 0 (.t 36), none⟩,
   ⟨some 42, .extract 1 (.t 36), none⟩,
   ⟨some 43, .faddr 1 (.t 8), none⟩,
   ⟨none, .store 1 (.t 43) (.t 41), none⟩])
 (.join [] [44, 45, 46, 47, 48, 49, 50, 51, 52, 53] (.seq (.region [
   ⟨some 44, .mv (.t 7), none⟩,
   ⟨some 45, .bin .eql (.t 44) (.k (.int .i64 2)), none⟩])
 (.cond (.t 45) (.region [
     ⟨some 47, .mv (.t 4), none⟩,
     ⟨some 48, .iaddr none 1 (.t 47) (.k (.int .i64 2)), none⟩,
     ⟨some 49, .load 1 false (.t 48), none⟩,
     ⟨some 50, .call K.strconv_Atoi [(.t 49)], none⟩,
     ⟨some 46, .mv (.t 50), none⟩,
     ⟨some 51, .extract 0 (.t 46), none⟩,
     ⟨some 52, .extract 1 (.t 46), none⟩,
     ⟨some 53, .faddr 2 (.t 8), none⟩,
     ⟨none, .store 1 (.t 53) (.t 51), none⟩])
   (.skip)))
 (.seq (.region [
   ⟨some 55, .load 3 true (.t 8), none⟩,
   ⟨some 56, .call K.tale_Line [(.t 55)], none⟩,
   ⟨some 54, .mv (.t 56), none⟩,
   ⟨some 57, .extract 0 (.t 54), none⟩,
   ⟨some 58, .extract 1 (.t 54), none⟩,
   ⟨some 9, .mv (.t 57), none⟩,
   ⟨some 10, .mv (.t 58), none⟩])
 (.seq (.region [
   ⟨some 59, .mv (.t 9), none⟩,
   ⟨some 60, .mv (.t 0), none⟩,
   ⟨some 61, .bin .eql (.t 59) (.t 60), none⟩])
 (.cond (.t 61) (.seq (.region [
     ⟨some 62, .load 3 true (.t 8), none⟩,
     ⟨none, .store 3 (.t 2) (.t 62), none⟩,
     ⟨some 3, .mv (.k (.int .i64 0)), none⟩])
   (.ret))
   (.skip))))))))))
 (.region [
   ⟨some 15, .mv (.t 5), none⟩,
   ⟨some 16, .bin .add (.t 15) (.k (.int .i64 1)), none⟩,
   ⟨some 5, .mv (.t 16), none⟩]))))))
 (.seq (.region [
   ⟨some 63, .build [.int .i64 0, .int .i64 0, .int .i64 0] [], none⟩,
   ⟨none, .store 3 (.t 2) (.t 63), none⟩,
   ⟨some 3, .mv (.k (.int .i64 3)), none⟩])
 (.ret))))⟩
theorem eq_tale_Step (Φ : Calls') (a0 : AV) (H : AH) (Q : Post) : fnE1 Φ ir_tale_Step [a0] H Q = tale_Step Φ a0 H Q := by kernel_rfl

/-! rabbet/tale.word -/
def tale_word (Φ : Calls') (a0 : AV) (H : AH) (Q : Post) : Prop :=
 Do (abin .eql a0 (.int .i64 1)) fun x1 =>
 Gd x1 true (
 Q (.tup [(.str [114, 117, 110]), (.int .i64 2)]) H) (
 Do (abin .eql a0 (.int .i64 2)) fun x2 =>
 Gd x2 true (
 Q (.tup [(.str [102, 97, 105, 108]), (.int .i64 1)]) H) (
 Do (abin .eql a0 (.int .i64 3)) fun x3 =>
 Gd x3 true (
 Q (.tup [(.str [97, 108, 108]), (.int .i64 1)]) H) (
 Q (.tup [(.str []), (.int .i64 0)]) H)))
def ir_tale_word : AFunc := ⟨11, [.tmp 2, .tmp 3],
 .seq (.region [
   ⟨some 2, .mv (.k (.str [])), none⟩,
   ⟨some 3, .mv (.k (.int .i64 0)), none⟩])
 (.seq (.seq (.region [
   ⟨some 4, .mv (.t 0), none⟩])
 (.block 0 (.seq (.region [
   ⟨some 6, .bin .eql (.t 4) (.k (.int .i64 1)), none⟩,
   ⟨some 5, .mv (.t 6), none⟩])
 (.cond (.t 5) (.seq (.region [
     ⟨some 2, .mv (.k (.str [114, 117, 110])), none⟩,
     ⟨some 3, .mv (.k (.int .i64 2)), none⟩])
   (.ret))
   (.seq (.region [
     ⟨some 8, .bin .eql (.t 4) (.k (.int .i64 2)), none⟩,
     ⟨some 7, .mv (.t 8), none⟩])
   (.cond (.t 7) (.seq (.region [
       ⟨some 2, .mv (.k (.str [102, 97, 105, 108])), none⟩,
       ⟨some 3, .mv (.k (.int .i64 1)), none⟩])
     (.ret))
     (.seq (.region [
       ⟨some 10, .bin .eql (.t 4) (.k (.int .i64 3)), none⟩,
       ⟨some 9, .mv (.t 10), none⟩])
     (.cond (.t 9) (.seq (.region [
         ⟨some 2, .mv (.k (.str [97, 108, 108])), none⟩,
         ⟨some 3, .mv (.k (.int .i64 1)), none⟩])
       (.ret))
       (.skip)))))))))
 (.seq (.region [
   ⟨some 2, .mv (.k (.str [])), none⟩,
   ⟨some 3, .mv (.k (.int .i64 0)), none⟩])
 (.ret)))⟩
theorem eq_tale_word (Φ : Calls') (a0 : AV) (H : AH) (Q : Post) : fnE1 Φ ir_tale_word [a0] H Q = tale_word Φ a0 H Q := by kernel_rfl

/-! rabbet/rabbetlaw26.digits -/
def rabbetlaw26_digits_k1 (Φ : Calls') (a0 : AV) (Q : Post) : List AV → AH → Prop := fun j6 H7 =>
 Do (abin .lss a0 (.int .i64 0)) fun x20 =>
 Gd x20 true (
 Do (abin .add (.str [45]) (sl j6 0)) fun x21 =>
 Q x21 H7) (
 Q (sl j6 0) H7)
def rabbetlaw26_digits_l2 (Φ : Calls') (a0 : AV) (Q : Post) : (List AV × AH) → ((List AV × AH) → Prop) → Prop := fun s8 L9 =>
 Do (abin .rem (sl s8.1 1) (.int .u64 10)) fun x10 =>
 Do (abin .add (.int .u64 48) x10) fun x11 =>
 Do (aconv .u8 x11) fun x12 =>
 DoH (abslice s8.2 false 1 1 [.int .u8 0] [(0, 1, x12)]) fun x13 H14 =>
 Do (abstr H14 x13) fun x15 =>
 Do (abin .add x15 (sl s8.1 0)) fun x17 =>
 Do (abin .quo (sl s8.1 1) (.int .u64 10)) fun x18 =>
 Do (abin .eql x18 (.int .u64 0)) fun x19 =>
 Gd x19 true (
 JoinP (rabbetlaw26_digits_k1 Φ a0 Q) [x17] H14) (
 L9 ([x17, x18], H14))
def rabbetlaw26_digits_k3 (Φ : Calls') (a0 : AV) (Q : Post) : List AV → AH → Prop := fun j2 H3 =>
 LoopP (rabbetlaw26_digits_l2 Φ a0 Q) ([(.str []), (sl j2 0)], H3)
def rabbetlaw26_digits (Φ : Calls') (a0 : AV) (H : AH) (Q : Post) : Prop :=
 Do (aconv .u64 a0) fun x1 =>
 Do (abin .lss a0 (.int .i64 0)) fun x4 =>
 Gd x4 true (
 Do (aun .neg x1) fun x5 =>
 JoinP (rabbetlaw26_digits_k3 Φ a0 Q) [x5] H) (
 JoinP (rabbetlaw26_digits_k3 Φ a0 Q) [x1] H)
def ir_rabbetlaw26_digits : AFunc := ⟨28, [.tmp 2],
 .seq (.region [
   ⟨some 2, .mv (.k (.str [])), none⟩])
 (.seq (.region [
   ⟨some 3, .mv (.k (.str [])), none⟩])
 (.seq (.region [
   ⟨some 5, .mv (.t 0), none⟩,
   ⟨some 6, .conv .u64 (.t 5), none⟩,
   ⟨some 4, .mv (.t 6), none⟩])
 (.join [4] [7, 8, 9, 10] (.seq (.region [
   ⟨some 7, .mv (.t 0), none⟩,
   ⟨some 8, .bin .lss (.t 7) (.k (.int .i64 0)), none⟩])
 (.cond (.t 8) (.region [
     ⟨some 9, .mv (.t 4), none⟩,
     ⟨some 10, .un .neg (.t 9), none⟩,
     ⟨some 4, .mv (.t 10), none⟩])
   (.skip)))
 (.join [3] [4, 11, 12, 13, 14, 15, 16, 17, 18, 19, 20, 21, 22] (.block 0 (.loop [3, 4] [11, 12, 13, 14, 15, 16, 17, 18, 19, 20, 21, 22] (.block 1 (.seq (.region [
   ⟨some 11, .mv (.t 4), none⟩,
   ⟨some 12, .bin .rem (.t 11) (.k (.int .u64 10)), none⟩,
   ⟨some 13, .bin .add (.k (.int .u64 48)) (.t 12), none⟩,
   ⟨some 14, .conv .u8 (.t 13), none⟩,
   ⟨some 15, .bslice false 1 1 [.int .u8 0] [(0, 1, (.t 14))], none⟩,
   ⟨some 16, .bstr (.t 15), none⟩,
   ⟨some 17, .mv (.t 3), none⟩,
   ⟨some 18, .bin .add (.t 16) (.t 17), none⟩,
   ⟨some 3, .mv (.t 18), none⟩])
 (.seq (.region [
   ⟨some 19, .mv (.t 4), none⟩,
   ⟨some 20, .bin .quo (.t 19) (.k (.int .u64 10)), none⟩,
   ⟨some 4, .mv (.t 20), none⟩])
 (.seq (.region [
   ⟨some 21, .mv (.t 4), none⟩,
   ⟨some 22, .bin .eql (.t 21) (.k (.int .u64 0)), none⟩])
 (.cond (.t 22) (.exit 0)
   (.skip))))))))
 (.seq (.seq (.region [
   ⟨some 23, .mv (.t 0), none⟩,
   ⟨some 24, .bin .lss (.t 23) (.k (.int .i64 0)), none⟩])
 (.cond (.t 24) (.seq (.region [
     ⟨some 25, .mv (.t 3), none⟩,
     ⟨some 26, .bin .add (.k (.str [45])) (.t 25), none⟩,
     ⟨some 2, .mv (.t 26), none⟩])
   (.ret))
   (.skip)))
 (.seq (.region [
   ⟨some 27, .mv (.t 3), none⟩,
   ⟨some 2, .mv (.t 27), none⟩])
 (.ret)))))))⟩
theorem eq_rabbetlaw26_digits (Φ : Calls') (a0 : AV) (H : AH) (Q : Post) : fnE1 Φ ir_rabbetlaw26_digits [a0] H Q = rabbetlaw26_digits Φ a0 H Q := by kernel_rfl

/-! strings.Split -/
def strings_Split (Φ : Calls') (a0 : AV) (a1 : AV) (H : AH) (Q : Post) : Prop :=
Φ K.strings_genSplit [a0, a1, (.int .i64 0), (.int .i64 (-1))] H fun x1 H2 =>
 Q x1 H2
def ir_strings_Split : AFunc := ⟨8, [.tmp 4],
 .seq (.region [
   ⟨some 4, .mv (.k (.lst .nil 0 [])), none⟩])
 (.seq (.region [
   ⟨some 5, .mv (.t 0), none⟩,
   ⟨some 6, .mv (.t 1), none⟩,
   ⟨some 7, .call K.strings_genSplit [(.t 5), (.t 6), (.k (.int .i64 0)), (.k (.int .i64 (-1)))], none⟩,
   ⟨some 4, .mv (.t 7), none⟩])
 (.ret))⟩
theorem eq_strings_Split (Φ : Calls') (a0 a1 : AV) (H : AH) (Q : Post) : fnE1 Φ ir_strings_Split [a0, a1] H Q = strings_Split Φ a0 a1 H Q := by kernel_rfl

/-! strings.TrimSuffix -/
def strings_TrimSuffix (Φ : Calls') (a0 : AV) (a1 : AV) (H : AH) (Q : Post) : Prop :=
Φ K.internal_stringslite_TrimSuffix [a0, a1] H fun x1 H2 =>
 Q x1 H2
def ir_strings_TrimSuffix : AFunc := ⟨8, [.tmp 4],
 .seq (.region [
   ⟨some 4, .mv (.k (.str [])), none⟩])
 (.seq (.region [
   ⟨some 5, .mv (.t 0), none⟩,
   ⟨some 6, .mv (.t 1), none⟩,
   ⟨some 7, .call K.internal_stringslite_TrimSuffix [(.t 5), (.t 6)], none⟩,
   ⟨some 4, .mv (.t 7), none⟩])
 (.ret))⟩
theorem eq_strings_TrimSuffix (Φ : Calls') (a0 a1 : AV) (H : AH) (Q : Post) : fnE1 Φ ir_strings_TrimSuffix [a0, a1] H Q = strings_TrimSuffix Φ a0 a1 H Q := by kernel_rfl

/-! strings.genSplit -/
def strings_genSplit_k1 (Φ : Calls') (x14 : AV) (Q : Post) : List AV → AH → Prop := fun j17 H18 =>
 Do (aiaddr none 1 x14 (sl j17 1)) fun x25 =>
 Do (astore H18 1 x25 (sl j17 0)) fun H26 =>
 DoH (afreeze H26 x14) fun x27 H28 =>
 Do (abin .add (sl j17 1) (.int .i64 1)) fun x29 =>
 Do (aslice 1 x27 none (some x29) none) fun x30 =>
 Q x30 H28
def strings_genSplit_l2 (Φ : Calls') (a1 : AV) (a2 : AV) (x14 : AV) (x16 : AV) (Q : Post) : (List AV × AH) → ((List AV × AH) → Prop) → Prop := fun s19 L20 =>
 Do (abin .lss (sl s19.1 1) x16) fun x21 =>
 Gd x21 true (
Φ K.strings_Index [(sl s19.1 0), a1] s19.2 fun x22 H23 =>
 Do (abin .lss x22 (.int .i64 0)) fun x24 =>
 Gd x24 true (
 JoinP (strings_genSplit_k1 Φ x14 Q) [(sl s19.1 0), (sl s19.1 1)] H23) (
 Do (abin .add x22 a2) fun x31 =>
 Do (asslice (sl s19.1 0) none (some x31)) fun x32 =>
 Do (aiaddr none 1 x14 (sl s19.1 1)) fun x33 =>
 Do (astore H23 1 x33 x32) fun H34 =>
 Do (alen true a1) fun x35 =>
 Do (abin .add x22 x35) fun x36 =>
 Do (asslice (sl s19.1 0) (some x36) none) fun x37 =>
 Do (abin .add (sl s19.1 1) (.int .i64 1)) fun x38 =>
 L20 ([x37, x38], H34))) (
 JoinP (strings_genSplit_k1 Φ x14 Q) [(sl s19.1 0), (sl s19.1 1)] s19.2)
def strings_genSplit_k3 (Φ : Calls') (a0 : AV) (a1 : AV) (a2 : AV) (Q : Post) : List AV → AH → Prop := fun j5 H6 =>
 Do (alen true a0) fun x11 =>
 Do (abin .add x11 (.int .i64 1)) fun x12 =>
 Do (aminmax false [(sl j5 0), x12]) fun x13 =>
 DoH (amake H6 true 1 16 [.str []] x13 x13) fun x14 H15 =>
 Do (abin .sub x13 (.int .i64 1)) fun x16 =>
 LoopP (strings_genSplit_l2 Φ a1 a2 x14 x16 Q) ([a0, (.int .i64 0)], H15)
def strings_genSplit (Φ : Calls') (a0 : AV) (a1 : AV) (a2 : AV) (a3 : AV) (H : AH) (Q : Post) : Prop :=
 Do (abin .eql a3 (.int .i64 0)) fun x1 =>
 Gd x1 true (
 Q (.lst .nil 0 []) H) (
 Do (abin .eql a1 (.str [])) fun x2 =>
 Gd x2 true (
Φ K.strings_explode [a0, a3] H fun x3 H4 =>
 Q x3 H4) (
 Do (abin .lss a3 (.int .i64 0)) fun x7 =>
 Gd x7 true (
Φ K.strings_Count [a0, a1] H fun x8 H9 =>
 Do (abin .add x8 (.int .i64 1)) fun x10 =>
 JoinP (strings_genSplit_k3 Φ a0 a1 a2 Q) [x10] H9) (
 JoinP (strings_genSplit_k3 Φ a0 a1 a2 Q) [a3] H)))
def ir_strings_genSplit : AFunc := ⟨66, [.tmp 8],
 .seq (.region [
   ⟨some 8, .mv (.k (.lst .nil 0 [])), none⟩])
 (.seq (.seq (.region [
   ⟨some 12, .mv (.t 3), none⟩,
   ⟨some 13, .bin .eql (.t 12) (.k (.int .i64 0)), none⟩])
 (.cond (.t 13) (.seq (.region [
     ⟨some 8, .mv (.k (.lst .nil 0 [])), none⟩])
   (.ret))
   (.skip)))
 (.seq (.seq (.region [
   ⟨some 14, .mv (.t 1), none⟩,
   ⟨some 15, .bin .eql (.t 14) (.k (.str [])), none⟩])
 (.cond (.t 15) (.seq (.region [
     ⟨some 16, .mv (.t 0), none⟩,
     ⟨some 17, .mv (.t 3), none⟩,
     ⟨some 18, .call K.strings_explode [(.t 16), (.t 17)], none⟩,
     ⟨some 8, .mv (.t 18), none⟩])
   (.ret))
   (.skip)))
 (.join [3] [19, 20, 21, 22, 23, 24] (.seq (.region [
   ⟨some 19, .mv (.t 3), none⟩,
   ⟨some 20, .bin .lss (.t 19) (.k (.int .i64 0)), none⟩])
 (.cond (.t 20) (.region [
     ⟨some 21, .mv (.t 0), none⟩,
     ⟨some 22, .mv (.t 1), none⟩,
     ⟨some 23, .call K.strings_Count [(.t 21), (.t 22)], none⟩,
     ⟨some 24, .bin .add (.t 23) (.k (.int .i64 1)), none⟩,
     ⟨some 3, .mv (.t 24), none⟩])
   (.skip)))
 (.seq (.region [
   ⟨some 25, .mv (.t 3), none⟩,
   ⟨some 26, .mv (.t 0), none⟩,
   ⟨some 27, .len true (.t 26), none⟩,
   ⟨some 28, .bin .add (.t 27) (.k (.int .i64 1)), none⟩,
   ⟨some 29, .minmax false [(.t 25), (.t 28)], none⟩,
   ⟨some 3, .mv (.t 29), none⟩])
 (.seq (.region [
   ⟨some 30, .mv (.t 3), none⟩,
   ⟨some 31, .make true 1 16 [.str []] (.t 30) (.t 30), none⟩,
   ⟨some 9, .mv (.t 31), none⟩])
 (.seq (.region [
   ⟨some 32, .mv (.t 3), none⟩,
   ⟨some 33, .bin .sub (.t 32) (.k (.int .i64 1)), none⟩,
   ⟨some 3, .mv (.t 33), none⟩])
 (.seq (.region [
   ⟨some 10, .mv (.k (.int .i64 0)), none⟩])
 (.join [0, 10] [11, 34, 35, 36, 37, 38, 39, 40, 41, 42, 43, 44, 45, 46, 47, 48, 49, 50, 51, 52, 53, 54, 55, 56, 57] (.block 0 (.loop [0, 10] [11, 34, 35, 36, 37, 38, 39, 40, 41, 42, 43, 44, 45, 46, 47, 48, 49, 50, 51, 52, 53, 54, 55, 56, 57] (.seq (.seq (.region [
   ⟨some 34, .mv (.t 10), none⟩,
   ⟨some 35, .mv (.t 3), none⟩,
   ⟨some 36, .bin .lss (.t 34) (.t 35), none⟩])
 (.cond (.t 36) (.skip)
   (.exit 0)))
 (.block 1 (.seq (.region [
   ⟨some 37, .mv (.t 0), none⟩,
   ⟨some 38, .mv (.t 1), none⟩,
   ⟨some 39, .call K.strings_Index [(.t 37), (.t 38)], none⟩,
   ⟨some 11, .mv (.t 39), none⟩])
 (.seq (.seq (.region [
   ⟨some 40, .mv (.t 11), none⟩,
   ⟨some 41, .bin .lss (.t 40) (.k (.int .i64 0)), none⟩])
 (.cond (.t 41) (.exit 0)
   (.skip)))
 (.seq (.region [
   ⟨some 42, .mv (.t 9), none⟩,
   ⟨some 43, .mv (.t 10), none⟩,
   ⟨some 44, .mv (.t 0), none⟩,
   ⟨some 45, .mv (.t 11), none⟩,
   ⟨some 46, .mv (.t 2), none⟩,
   ⟨some 47, .bin .add (.t 45) (.t 46), none⟩,
   ⟨some 48, .sslice (.t 44) none (some (.t 47)), none⟩,
   ⟨some 49, .iaddr none 1 (.t 42) (.t 43), none⟩,
   ⟨none, .store 1 (.t 49) (.t 48), none⟩])
 (.seq (.region [
   ⟨some 50, .mv (.t 0), none⟩,
   ⟨some 51, .mv (.t 11), none⟩,
   ⟨some 52, .mv (.t 1), none⟩,
   ⟨some 53, .len true (.t 52), none⟩,
   ⟨some 54, .bin .add (.t 51) (.t 53), none⟩,
   ⟨some 55, .sslice (.t 50) (some (.t 54)) none, none⟩,
   ⟨some 0, .mv (.t 55), none⟩])
 (.region [
   ⟨some 56, .mv (.t 10), none⟩,
   ⟨some 57, .bin .add (.t 56) (.k (.int .i64 1)), none⟩,
   ⟨some 10, .mv (.t 57), none⟩])))))))))
 (.seq (.region [
   ⟨some 58, .mv (.t 9), none⟩,
   ⟨some 59, .mv (.t 10), none⟩,
   ⟨some 60, .mv (.t 0), none⟩,
   ⟨some 61, .iaddr none 1 (.t 58) (.t 59), none⟩,
   ⟨none, .store 1 (.t 61) (.t 60), none⟩])
 (.seq (.freeze 9 (.region [
   ⟨some 62, .mv (.t 9), none⟩,
   ⟨some 63, .mv (.t 10), none⟩,
   ⟨some 64, .bin .add (.t 63) (.k (.int .i64 1)), none⟩,
   ⟨some 65, .slice 1 (.t 62) none (some (.t 64)) none, none⟩,
   ⟨some 8, .mv (.t 65), none⟩]))
 (.ret)))))))))))⟩
theorem eq_strings_genSplit (Φ : Calls') (a0 a1 a2 a3 : AV) (H : AH) (Q : Post) : fnE1 Φ ir_strings_genSplit [a0, a1, a2, a3] H Q = strings_genSplit Φ a0 a1 a2 a3 H Q := by kernel_rfl

/-! strings.IndexByte -/
def strings_IndexByte (Φ : Calls') (a0 : AV) (a1 : AV) (H : AH) (Q : Post) : Prop :=
Φ K.internal_stringslite_IndexByte [a0, a1] H fun x1 H2 =>
 Q x1 H2
def ir_strings_IndexByte : AFunc := ⟨8, [.tmp 4],
 .seq (.region [
   ⟨some 4, .mv (.k (.int .i64 0)), none⟩])
 (.seq (.region [
   ⟨some 5, .mv (.t 0), none⟩,
   ⟨some 6, .mv (.t 1), none⟩,
   ⟨some 7, .call K.internal_stringslite_IndexByte [(.t 5), (.t 6)], none⟩,
   ⟨some 4, .mv (.t 7), none⟩])
 (.ret))⟩
theorem eq_strings_IndexByte (Φ : Calls') (a0 a1 : AV) (H : AH) (Q : Post) : fnE1 Φ ir_strings_IndexByte [a0, a1] H Q = strings_IndexByte Φ a0 a1 H Q := by kernel_rfl

/-! internal/stringslite.TrimSuffix -/
def internal_stringslite_TrimSuffix (Φ : Calls') (a0 : AV) (a1 : AV) (H : AH) (Q : Post) : Prop :=
Φ K.internal_stringslite_HasSuffix [a0, a1] H fun x1 H2 =>
 Gd x1 true (
 Do (alen true a0) fun x3 =>
 Do (alen true a1) fun x4 =>
 Do (abin .sub x3 x4) fun x5 =>
 Do (asslice a0 none (some x5)) fun x6 =>
 Q x6 H2) (
 Q a0 H2)
def ir_internal_stringslite_TrimSuffix : AFunc := ⟨16, [.tmp 4],
 .seq (.region [
   ⟨some 4, .mv (.k (.str [])), none⟩])
 (.seq (.seq (.region [
   ⟨some 5, .mv (.t 0), none⟩,
   ⟨some 6, .mv (.t 1), none⟩,
   ⟨some 7, .call K.internal_stringslite_HasSuffix [(.t 5), (.t 6)], none⟩])
 (.cond (.t 7) (.seq (.region [
     ⟨some 8, .mv (.t 0), none⟩,
     ⟨some 9, .mv (.t 0), none⟩,
     ⟨some 10, .len true (.t 9), none⟩,
     ⟨some 11, .mv (.t 1), none⟩,
     ⟨some 12, .len true (.t 11), none⟩,
     ⟨some 13, .bin .sub (.t 10) (.t 12), none⟩,
     ⟨some 14, .sslice (.t 8) none (some (.t 13)), none⟩,
     ⟨some 4, .mv (.t 14), none⟩])
   (.ret))
   (.skip)))
 (.seq (.region [
   ⟨some 15, .mv (.t 0), none⟩,
   ⟨some 4, .mv (.t 15), none⟩])
 (.ret)))⟩
theorem eq_internal_stringslite_TrimSuffix (Φ : Calls') (a0 a1 : AV) (H : AH) (Q : Post) : fnE1 Φ ir_internal_stringslite_TrimSuffix [a0, a1] H Q = internal_stringslite_TrimSuffix Φ a0 a1 H Q := by kernel_rfl

/-! strings.Index -/
def strings_Index (Φ : Calls') (a0 : AV) (a1 : AV) (H : AH) (Q : Post) : Prop :=
Φ K.internal_stringslite_Index [a0, a1] H fun x1 H2 =>
 Q x1 H2
def ir_strings_Index : AFunc := ⟨8, [.tmp 4],
 .seq (.region [
   ⟨some 4, .mv (.k (.int .i64 0)), none⟩])
 (.seq (.region [
   ⟨some 5, .mv (.t 0), none⟩,
   ⟨some 6, .mv (.t 1), none⟩,
   ⟨some 7, .call K.internal_stringslite_Index [(.t 5), (.t 6)], none⟩,
   ⟨some 4, .mv (.t 7), none⟩])
 (.ret))⟩
theorem eq_strings_Index (Φ : Calls') (a0 a1 : AV) (H : AH) (Q : Post) : fnE1 Φ ir_strings_Index [a0, a1] H Q = strings_Index Φ a0 a1 H Q := by kernel_rfl

/-! internal/stringslite.HasSuffix -/
def internal_stringslite_HasSuffix (Φ : Calls') (a0 : AV) (a1 : AV) (H : AH) (Q : Post) : Prop :=
 Do (alen true a0) fun x1 =>
 Do (alen true a1) fun x2 =>
 Do (abin .geq x1 x2) fun x3 =>
 Gd3 x3 true (
 Do (alen true a0) fun x4 =>
 Do (alen true a1) fun x5 =>
 Do (abin .sub x4 x5) fun x6 =>
 Do (asslice a0 (some x6) none) fun x7 =>
 Do (abin .eql x7 a1) fun x8 =>
 Q x8 H) (
 Q (.bool false) H) (
 False)
def ir_internal_stringslite_HasSuffix : AFunc := ⟨21, [.tmp 4],
 .seq (.region [
   ⟨some 4, .mv (.k (.bool false)), none⟩])
 (.seq (.region [
   ⟨some 5, .mv (.t 0), none⟩,
   ⟨some 6, .len true (.t 5), none⟩,
   ⟨some 7, .mv (.t 1), none⟩,
   ⟨some 8, .len true (.t 7), none⟩,
   ⟨some 9, .bin .geq (.t 6) (.t 8), none⟩,
   ⟨some 10, .mv (.t 9), none⟩,
   ⟨some 11, .mv (.t 0), some (10, true)⟩,
   ⟨some 12, .mv (.t 0), some (10, true)⟩,
   ⟨some 13, .len true (.t 12), some (10, true)⟩,
   ⟨some 14, .mv (.t 1), some (10, true)⟩,
   ⟨some 15, .len true (.t 14), some (10, true)⟩,
   ⟨some 16, .bin .sub (.t 13) (.t 15), some (10, true)⟩,
   ⟨some 17, .sslice (.t 11) (some (.t 16)) none, some (10, true)⟩,
   ⟨some 18, .mv (.t 1), some (10, true)⟩,
   ⟨some 19, .bin .eql (.t 17) (.t 18), some (10, true)⟩,
   ⟨some 20, .pick (.t 10) (.t 19) (.k (.bool false)), none⟩,
   ⟨some 4, .mv (.t 20), none⟩])
 (.ret))⟩
theorem eq_internal_stringslite_HasSuffix (Φ : Calls') (a0 a1 : AV) (H : AH) (Q : Post) : fnE1 Φ ir_internal_stringslite_HasSuffix [a0, a1] H Q = internal_stringslite_HasSuffix Φ a0 a1 H Q := by kernel_rfl

def tab_Ta : Tab := [
  (K.rabbetlaw26_TaleLines, ir_rabbetlaw26_TaleLines),
  (K.rabbetlaw26_TaleSteps, ir_rabbetlaw26_TaleSteps),
  (K.rabbetlaw26_TaleTexts, ir_rabbetlaw26_TaleTexts),
  (K.tale_Line, ir_tale_Line),
  (K.rabbetlaw26_line, ir_rabbetlaw26_line),
  (K.rabbetlaw26_awake, ir_rabbetlaw26_awake),
  (K.tale_Step, ir_tale_Step),
  (K.tale_word, ir_tale_word),
  (K.rabbetlaw26_digits, ir_rabbetlaw26_digits),
  (K.strings_Split, ir_strings_Split),
  (K.strings_TrimSuffix, ir_strings_TrimSuffix),
  (K.strings_genSplit, ir_strings_genSplit),
  (K.strings_IndexByte, ir_strings_IndexByte),
  (K.internal_stringslite_TrimSuffix, ir_internal_stringslite_TrimSuffix),
  (K.strings_Index, ir_strings_Index),
  (K.internal_stringslite_HasSuffix, ir_internal_stringslite_HasSuffix)]

theorem cl_rabbetlaw26_TaleLines {Φ : Calls'} (hT : Cl Φ tab_Ta) {a0 : AV} {H : AH} {Q : Post} (h : rabbetlaw26_TaleLines Φ a0 H Q) : Φ K.rabbetlaw26_TaleLines [a0] H Q := hT.call (by kernel_rfl) (by kernel_rfl) (by rw [eq_rabbetlaw26_TaleLines]; exact h)
theorem cl_rabbetlaw26_TaleSteps {Φ : Calls'} (hT : Cl Φ tab_Ta) {a0 : AV} {H : AH} {Q : Post} (h : rabbetlaw26_TaleSteps Φ a0 H Q) : Φ K.rabbetlaw26_TaleSteps [a0] H Q := hT.call (by kernel_rfl) (by kernel_rfl) (by rw [eq_rabbetlaw26_TaleSteps]; exact h)
theorem cl_rabbetlaw26_TaleTexts {Φ : Calls'} (hT : Cl Φ tab_Ta) {a0 a1 : AV} {H : AH} {Q : Post} (h : rabbetlaw26_TaleTexts Φ a0 a1 H Q) : Φ K.rabbetlaw26_TaleTexts [a0, a1] H Q := hT.call (by kernel_rfl) (by kernel_rfl) (by rw [eq_rabbetlaw26_TaleTexts]; exact h)
theorem cl_tale_Line {Φ : Calls'} (hT : Cl Φ tab_Ta) {a0 : AV} {H : AH} {Q : Post} (h : tale_Line Φ a0 H Q) : Φ K.tale_Line [a0] H Q := hT.call (by kernel_rfl) (by kernel_rfl) (by rw [eq_tale_Line]; exact h)
theorem cl_rabbetlaw26_line {Φ : Calls'} (hT : Cl Φ tab_Ta) {a0 : AV} {H : AH} {Q : Post} (h : rabbetlaw26_line Φ a0 H Q) : Φ K.rabbetlaw26_line [a0] H Q := hT.call (by kernel_rfl) (by kernel_rfl) (by rw [eq_rabbetlaw26_line]; exact h)
theorem cl_rabbetlaw26_awake {Φ : Calls'} (hT : Cl Φ tab_Ta) {H : AH} {Q : Post} (h : rabbetlaw26_awake Φ H Q) : Φ K.rabbetlaw26_awake [] H Q := hT.call (by kernel_rfl) (by kernel_rfl) (by rw [eq_rabbetlaw26_awake]; exact h)
theorem cl_tale_Step {Φ : Calls'} (hT : Cl Φ tab_Ta) {a0 : AV} {H : AH} {Q : Post} (h : tale_Step Φ a0 H Q) : Φ K.tale_Step [a0] H Q := hT.call (by kernel_rfl) (by kernel_rfl) (by rw [eq_tale_Step]; exact h)
theorem cl_tale_word {Φ : Calls'} (hT : Cl Φ tab_Ta) {a0 : AV} {H : AH} {Q : Post} (h : tale_word Φ a0 H Q) : Φ K.tale_word [a0] H Q := hT.call (by kernel_rfl) (by kernel_rfl) (by rw [eq_tale_word]; exact h)
theorem cl_rabbetlaw26_digits {Φ : Calls'} (hT : Cl Φ tab_Ta) {a0 : AV} {H : AH} {Q : Post} (h : rabbetlaw26_digits Φ a0 H Q) : Φ K.rabbetlaw26_digits [a0] H Q := hT.call (by kernel_rfl) (by kernel_rfl) (by rw [eq_rabbetlaw26_digits]; exact h)
theorem cl_strings_Split {Φ : Calls'} (hT : Cl Φ tab_Ta) {a0 a1 : AV} {H : AH} {Q : Post} (h : strings_Split Φ a0 a1 H Q) : Φ K.strings_Split [a0, a1] H Q := hT.call (by kernel_rfl) (by kernel_rfl) (by rw [eq_strings_Split]; exact h)
theorem cl_strings_TrimSuffix {Φ : Calls'} (hT : Cl Φ tab_Ta) {a0 a1 : AV} {H : AH} {Q : Post} (h : strings_TrimSuffix Φ a0 a1 H Q) : Φ K.strings_TrimSuffix [a0, a1] H Q := hT.call (by kernel_rfl) (by kernel_rfl) (by rw [eq_strings_TrimSuffix]; exact h)
theorem cl_strings_genSplit {Φ : Calls'} (hT : Cl Φ tab_Ta) {a0 a1 a2 a3 : AV} {H : AH} {Q : Post} (h : strings_genSplit Φ a0 a1 a2 a3 H Q) : Φ K.strings_genSplit [a0, a1, a2, a3] H Q := hT.call (by kernel_rfl) (by kernel_rfl) (by rw [eq_strings_genSplit]; exact h)
theorem cl_strings_IndexByte {Φ : Calls'} (hT : Cl Φ tab_Ta) {a0 a1 : AV} {H : AH} {Q : Post} (h : strings_IndexByte Φ a0 a1 H Q) : Φ K.strings_IndexByte [a0, a1] H Q := hT.call (by kernel_rfl) (by kernel_rfl) (by rw [eq_strings_IndexByte]; exact h)
theorem cl_internal_stringslite_TrimSuffix {Φ : Calls'} (hT : Cl Φ tab_Ta) {a0 a1 : AV} {H : AH} {Q : Post} (h : internal_stringslite_TrimSuffix Φ a0 a1 H Q) : Φ K.internal_stringslite_TrimSuffix [a0, a1] H Q := hT.call (by kernel_rfl) (by kernel_rfl) (by rw [eq_internal_stringslite_TrimSuffix]; exact h)
theorem cl_strings_Index {Φ : Calls'} (hT : Cl Φ tab_Ta) {a0 a1 : AV} {H : AH} {Q : Post} (h : strings_Index Φ a0 a1 H Q) : Φ K.strings_Index [a0, a1] H Q := hT.call (by kernel_rfl) (by kernel_rfl) (by rw [eq_strings_Index]; exact h)
theorem cl_internal_stringslite_HasSuffix {Φ : Calls'} (hT : Cl Φ tab_Ta) {a0 a1 : AV} {H : AH} {Q : Post} (h : internal_stringslite_HasSuffix Φ a0 a1 H Q) : Φ K.internal_stringslite_HasSuffix [a0, a1] H Q := hT.call (by kernel_rfl) (by kernel_rfl) (by rw [eq_internal_stringslite_HasSuffix]; exact h)
end Rb.S

/- The texts are the program's. By spec.py. -/
set_option linter.unusedVariables false
namespace Go.Proofs.YtgejcelgofmbgaaDoor.rb
open Rb
theorem cl_Ta : Cl (ACall C) S.tab_Ta := Cl.of (ACall_mono C) (closed_of (idC_fok _ _) (by kernel_rfl))
end Go.Proofs.YtgejcelgofmbgaaDoor.rb

/- strings.Split at blanks, as the program's text says it. -/
set_option linter.unusedVariables false
set_option linter.unusedSimpArgs false
namespace Go.Proofs.YtgejcelgofmbgaaDoor.rb
open Rb Go

/-- A call that gives a value that is never written again: where it is known on the empty memory, it is known. -/
theorem lift {k : Nat} {args : List AV} {v : AV} (h : ACall C k args AH.mt (fun u _ => u = v)) (ha : AV.frozs args = true) (hv : v.froz = true) (H : AH) (Q : Post) (hQ : Q v H) : ACall C k args H Q :=
  ACall.frame2 gtC h ha H Q fun u _ hu => by subst hu; exact ⟨hv, hQ⟩

theorem froz_strs : ∀ l : List (List UInt8), AV.frozs (l.map AV.str) = true
  | [] => rfl
  | w :: r => by simp [AV.frozs, AV.froz, froz_strs r]

theorem set_mid (a b : List AV) (x y : AV) (n : Nat) (hn : n = a.length) : setCells (a ++ x :: b) n [y] = a ++ y :: b := by
  subst hn
  show (a ++ x :: b).set a.length y = _
  rw [List.set_append_right _ _ (Nat.le_refl _), Nat.sub_self]; rfl
theorem rep_flat (n : Nat) (a : AV) : (List.replicate n [a]).flatten = List.replicate n a := by
  induction n with
  | zero => rfl
  | succ n ih => rw [List.replicate_succ, List.flatten_cons, ih, List.replicate_succ]; rfl
theorem min_int2 (a b : Int) (h : a ≤ b) : aminmax false [.int .i64 a, .int .i64 b] = some (.int .i64 a) := by
  simp only [aminmax, mmAll, mm2, Bool.false_eq_true, if_false]
  rw [if_neg (by omega)]

theorem genSplit_mt (s : List UInt8) (hs : s.length ≤ 17592186044000) : ACall C K.strings_genSplit [.str s, .str [32], .int .i64 0, .int .i64 (-1)] AH.mt (fun u _ => u = .lst .dead (splitB s).length ((splitB s).map .str)) := by
  refine S.cl_strings_genSplit cl_Ta ?_
  have hc : s.count 32 ≤ s.length := List.count_le_length
  generalize hN : s.count 32 = N at hc
  simp only [S.strings_genSplit, abin_eql, Do_of, Gd_true]
  rw [if_neg (by decide)]
  simp only [show abin .eql (.str [32]) (.str []) = some (.bool false) from rfl, Do_of, Gd_true, Bool.false_eq_true, if_false, abin_lss]
  rw [if_pos (by decide)]
  refine countOK s _ _ ?_
  rw [hN]
  simp only [abin_add, Do_of, JoinP_def, S.strings_genSplit_k3, sl_zero, alen_str]
  rw [wrap_i64 (by omega) (by omega), wrap_i64 (n := (s.length : Int) + 1) (by omega) (by omega), min_int2 _ _ (by omega)]
  simp only [Do_of, abin_sub]
  rw [wrap_i64 (n := (N : Int) + 1 - 1) (by omega) (by omega), show ((N : Int) + 1 - 1) = N from by omega]
  have hmk : amake AH.mt true 1 16 [.str []] (.int .i64 ((N : Int) + 1)) (.int .i64 ((N : Int) + 1)) = some (.row 0 0 (N + 1) 1, AH.mt.push (.row (List.replicate (N + 1) (.str [])))) := by
    unfold amake
    simp only
    rw [if_pos ⟨by omega, by omega, by omega, by omega, rfl⟩]
    simp only [if_true]
    rw [show ((N : Int) + 1).toNat = N + 1 from by omega, rep_flat]; rfl
  rw [hmk]
  simp only [DoH_some]
  have main : ∀ (m : Nat) (t : List UInt8) (pre : List (List UInt8)) (H : AH), t.count 32 = m → pre.length + m = N → splitB s = pre ++ splitB t → t.length ≤ s.length → At H 0 (.row (pre.map AV.str ++ List.replicate (m + 1) (.str []))) →
      LoopP (S.strings_genSplit_l2 (ACall C) (.str [32]) (.int .i64 0) (.row 0 0 (N + 1) 1) (.int .i64 N) fun x3 H4 => x3 = .lst .dead (splitB s).length ((splitB s).map .str)) ([.str t, .int .i64 pre.length], H) := by
    intro m
    induction m with
    | zero =>
      intro t pre H h1 h2 h3 h4 h5
      rcases splitB_idx t with ⟨_, g2, _⟩ | ⟨k, _, _, _, g4⟩
      · refine LoopP.step ?_
        simp only [S.strings_genSplit_l2, sl_zero, sl_succ, abin_lss, Do_of, Gd_true]
        rw [if_neg (by simp only [decide_eq_true_eq]; omega)]
        simp only [JoinP_def, S.strings_genSplit_k1, sl_zero, sl_succ]
        have ha : aiaddr none 1 (.row 0 0 (N + 1) 1) (.int .i64 (pre.length : Int)) = some (.ptr 0 pre.length) := by
          simp only [aiaddr]
          rw [if_pos ⟨by omega, by omega⟩]
          simp
        have hst := h5.store 1 pre.length (.str t)
        rw [if_pos ⟨rfl, rfl, rfl, by simp⟩] at hst
        rw [show (List.replicate (0 + 1) (AV.str [])) = AV.str [] :: [] from rfl] at hst
        rw [show (AV.str t).cells = [AV.str t] from rfl, set_mid _ _ _ _ _ (by simp)] at hst
        rw [ha]
        simp only [Do_of]
        rw [show List.replicate (0 + 1) (AV.str []) = [AV.str []] from rfl] at h5
        rw [hst]
        simp only [Do_of]
        have hfr : afreeze (H.set 0 (.row (pre.map AV.str ++ [.str t]))) (.row 0 0 (N + 1) 1) = some (.lst .dead (N + 1) (pre.map AV.str ++ [.str t]), (H.set 0 (.row (pre.map AV.str ++ [.str t]))).set 0 .gone) := by
          simp only [afreeze, AH.set_self]
          rw [if_pos (by simp; omega)]
          have : ((pre.map AV.str ++ [AV.str t]).drop 0).take ((N + 1) * 1) = pre.map AV.str ++ [AV.str t] := by
            rw [List.drop_zero]; exact List.take_of_length_le (by simp; omega)
          rw [this]
        rw [hfr]
        simp only [DoH_some, abin_add, Do_of]
        rw [wrap_i64 (by omega) (by omega)]
        have hsl : aslice 1 (.lst .dead (N + 1) (pre.map AV.str ++ [.str t])) none (some (.int .i64 ((pre.length : Int) + 1))) none = some (.lst .dead (N + 1) (pre.map AV.str ++ [.str t])) := by
          simp only [aslice, abound, Option.map_none]
          rw [if_pos (show (0 : Int) ≤ (pre.length : Int) + 1 from by omega)]
          simp only
          rw [if_pos ⟨by omega, by omega, by simp; omega⟩, if_pos ⟨trivial, by omega⟩]
        rw [hsl]
        simp only [Do_of]
        rw [h3, g2]
        simp; omega
      · omega
    | succ m ih =>
      intro t pre H h1 h2 h3 h4 h5
      rcases splitB_idx t with ⟨_, _, g3⟩ | ⟨k, g1, g2, g3, g4⟩
      · omega
      · refine LoopP.step ?_
        simp only [S.strings_genSplit_l2, sl_zero, sl_succ, abin_lss, Do_of, Gd_true]
        rw [if_pos (by simp only [decide_eq_true_eq]; omega)]
        refine indexOK t _ _ ?_
        rw [g1]
        simp only [abin_lss, Do_of, Gd_true, abin_add, alen_str]
        rw [if_neg (by simp only [decide_eq_true_eq]; omega)]
        rw [wrap_i64 (n := (k : Int) + 0) (by omega) (by omega), show (([32] : List UInt8).length : Int) = 1 from rfl, wrap_i64 (n := (k : Int) + 1) (by omega) (by omega), wrap_i64 (n := (pre.length : Int) + 1) (by omega) (by omega)]
        have e1 : asslice (.str t) none (some (.int .i64 ((k : Int) + 0))) = some (.str (t.take k)) := by
          simp only [asslice, abound]
          rw [if_pos (show (0 : Int) ≤ (k : Int) + 0 from by omega)]
          simp only
          rw [if_pos ⟨by omega, by omega⟩]
          simp
        have e2 : asslice (.str t) (some (.int .i64 ((k : Int) + 1))) none = some (.str (t.drop (k + 1))) := by
          simp only [asslice, abound]
          rw [if_pos (show (0 : Int) ≤ (k : Int) + 1 from by omega)]
          simp only
          rw [if_pos ⟨by omega, by omega⟩]
          rw [show ((k : Int) + 1).toNat = k + 1 from by omega, List.take_of_length_le (Nat.le_refl _)]
        have ha : aiaddr none 1 (.row 0 0 (N + 1) 1) (.int .i64 (pre.length : Int)) = some (.ptr 0 pre.length) := by
          simp only [aiaddr]
          rw [if_pos ⟨by omega, by omega⟩]
          simp
        rw [List.replicate_succ] at h5
        have hst := h5.store 1 pre.length (.str (t.take k))
        rw [if_pos ⟨rfl, rfl, rfl, by simp⟩, show (AV.str (t.take k)).cells = [AV.str (t.take k)] from rfl, set_mid _ _ _ _ _ (by simp)] at hst
        rw [e1]
        simp only [Do_of]
        rw [ha]
        simp only [Do_of]
        rw [hst]
        simp only [Do_of]
        rw [e2]
        simp only [Do_of]
        have := ih (t.drop (k + 1)) (pre ++ [t.take k]) (H.set 0 (.row (pre.map AV.str ++ AV.str (t.take k) :: List.replicate (m + 1) (.str [])))) (by omega) (by simp; omega) (by rw [h3, g3]; simp) (by simp; omega)
          (by have := h5.set (.row (pre.map AV.str ++ AV.str (t.take k) :: List.replicate (m + 1) (.str []))); simpa using this)
        simpa using this
  exact main N s [] _ hN (by simp) rfl (Nat.le_refl _) (At.new AH.mt _)
/-- The words between blanks. -/
theorem splitOK (s : List UInt8) (hs : s.length ≤ 17592186044000) (H : AH) (Q : Post) (hQ : Q (.lst .dead (splitB s).length ((splitB s).map .str)) H) : ACall C K.strings_Split [.str s, .str [32]] H Q := by
  refine S.cl_strings_Split cl_Ta ?_
  simp only [S.strings_Split]
  exact lift (genSplit_mt s hs) rfl (by simp only [AV.froz]; exact froz_strs _) H _ hQ
end Go.Proofs.YtgejcelgofmbgaaDoor.rb

/- tale.Line, and the law's line, as the program's texts say them. -/
set_option linter.unusedVariables false
set_option linter.unusedSimpArgs false
namespace Go.Proofs.YtgejcelgofmbgaaDoor.rb
open Rb Go

section
variable {H : AH} {Q : Post}
theorem bload (H : AH) (a b c : AV) : aload H 1 false (.fptr [a, b, c]) = some a := rfl
theorem bload2 (H : AH) (b c : AV) : aload H 1 false (.fptr [b, c]) = some b := rfl
theorem bload3 (H : AH) (c : AV) : aload H 1 false (.fptr [c]) = some c := rfl
theorem bfa0 (a b c : AV) : afaddr 0 (.fptr [a, b, c]) = some (.fptr [a, b, c]) := rfl
theorem bfa1 (a b c : AV) : afaddr 1 (.fptr [a, b, c]) = some (.fptr [b, c]) := rfl
theorem bfa2 (a b c : AV) : afaddr 2 (.fptr [a, b, c]) = some (.fptr [c]) := rfl
theorem sadd (a b : List UInt8) (h : a.length + b.length ≤ 9223372036854775807) : abin .add (.str a) (.str b) = some (.str (a ++ b)) := by
  show abinStr .add a b = _
  simp only [abinStr]
  rw [if_pos h]
theorem seql (a b : List UInt8) : abin .eql (.str a) (.str b) = some (.bool (a == b)) := rfl
theorem ext0 (a b : AV) : aextract 0 (.tup [a, b]) = some a := rfl
theorem ext1 (a b : AV) : aextract 1 (.tup [a, b]) = some b := rfl

/-- A step as a line, or that there is none. -/
def lineV (x : Stp) : AV := match lineS x with | some t => .tup [.str t, .int .i64 0] | none => .tup [.str [], .int .i64 1]
theorem lineOK (x : Stp) (hx : InR x) (hQ : Q (lineV x) H) : ACall C K.tale_Line [.agg (stA x)] H Q := by
  obtain ⟨k, a, b⟩ := x
  have la := itoa_short hx.1.1 hx.1.2
  have lb := itoa_short hx.2.1 hx.2.2
  simp only at la lb
  refine S.cl_tale_Line cl_Ta ?_
  have hb : aboxv H false 3 (.agg (stA (k, a, b))) = some (.fptr [.int .i64 k, .int .i64 a, .int .i64 b], H) := rfl
  simp only [S.tale_Line, hb, DoH_some, bfa0, Do_of, bload]
  refine S.cl_tale_word cl_Ta ?_
  simp only [S.tale_word, abin_eql, Do_of, Gd_true]
  by_cases h1 : k = 1
  · subst h1
    rw [if_pos (by decide)]
    simp only [ext0, ext1, Do_of, seql, Gd3_false, abin_lss]
    rw [if_pos (by decide)]
    simp only [Gd3_true]
    rw [if_neg (by decide)]
    simp (disch := first | decide | (simp only [List.length_append, List.length_cons, List.length_nil]; omega)) only [JoinP_def, S.tale_Line_k3, sl_zero, Gd_true, Bool.false_eq_true, if_false, S.tale_Line_k2, sadd, Do_of, bfa1, bload2]
    refine itoaOK a hx.1.1 hx.1.2 H _ ?_
    simp (disch := first | decide | (simp only [List.length_append, List.length_cons, List.length_nil]; omega)) only [sadd, Do_of, abin_eql, Gd_true, bfa2, bload3]
    rw [if_pos (by decide)]
    refine itoaOK b hx.2.1 hx.2.2 H _ ?_
    simp (disch := first | decide | (simp only [List.length_append, List.length_cons, List.length_nil]; omega)) only [sadd, Do_of, JoinP_def, S.tale_Line_k1, sl_zero]
    simpa [lineV, lineS, lineM] using hQ
  · rw [if_neg (by simpa using h1)]
    by_cases h2 : k = 2
    · subst h2
      rw [if_pos (by decide)]
      simp only [ext0, ext1, Do_of, seql, Gd3_false, abin_lss]
      rw [if_pos (by decide)]
      simp only [Gd3_true, bfa2, bload3, Do_of, abin_neq]
      rw [if_pos (by decide)]
      simp only [JoinP_def, S.tale_Line_k3, sl_zero, Gd_true]
      by_cases hb0 : b = 0
      · subst hb0
        rw [if_neg (by decide)]
        simp (disch := first | decide | (simp only [List.length_append, List.length_cons, List.length_nil]; omega)) only [S.tale_Line_k2, sadd, Do_of, bfa1, bload2]
        refine itoaOK a hx.1.1 hx.1.2 H _ ?_
        simp (disch := first | decide | (simp only [List.length_append, List.length_cons, List.length_nil]; omega)) only [sadd, Do_of, abin_eql, Gd_true]
        rw [if_neg (by decide)]
        simp only [JoinP_def, S.tale_Line_k1, sl_zero]
        simpa [lineV, lineS, lineM] using hQ
      · rw [if_pos (by simpa using hb0)]
        simpa [lineV, lineS, lineM, hb0] using hQ
    · rw [if_neg (by simpa using h2)]
      by_cases h3 : k = 3
      · subst h3
        rw [if_pos (by decide)]
        simp only [ext0, ext1, Do_of, seql, Gd3_false, abin_lss]
        rw [if_pos (by decide)]
        simp only [Gd3_true, bfa2, bload3, Do_of, abin_neq]
        rw [if_pos (by decide)]
        simp only [JoinP_def, S.tale_Line_k3, sl_zero, Gd_true]
        by_cases hb0 : b = 0
        · subst hb0
          rw [if_neg (by decide)]
          simp (disch := first | decide | (simp only [List.length_append, List.length_cons, List.length_nil]; omega)) only [S.tale_Line_k2, sadd, Do_of, bfa1, bload2]
          refine itoaOK a hx.1.1 hx.1.2 H _ ?_
          simp (disch := first | decide | (simp only [List.length_append, List.length_cons, List.length_nil]; omega)) only [sadd, Do_of, abin_eql, Gd_true]
          rw [if_neg (by decide)]
          simp only [JoinP_def, S.tale_Line_k1, sl_zero]
          simpa [lineV, lineS, lineM] using hQ
        · rw [if_pos (by simpa using hb0)]
          simpa [lineV, lineS, lineM, hb0] using hQ
      · rw [if_neg (by simpa using h3)]
        simp only [ext0, ext1, Do_of, seql, Gd3_false]
        rw [if_neg (by decide)]
        simp only [JoinP_def, S.tale_Line_k3, sl_zero, Gd_true, if_true]
        simpa [lineV, lineS, lineM, h1, h2, h3] using hQ

/-- A number in digits. -/
theorem digitsOK (n : Int) (h0 : -9223372036854775808 ≤ n) (h1 : n ≤ 9223372036854775807) (hQ : Q (.str (Go.Lib.itoa n)) H) : ACall C K.rabbetlaw26_digits [.int .i64 n] H Q := by
  refine S.cl_rabbetlaw26_digits cl_Ta ?_
  have hlen : (Go.Lib.decDigits n.natAbs).length ≤ 40 := by
    have := itoa_short h0 h1
    unfold Go.Lib.itoa at this
    split at this
    · simp at this; omega
    · rwa [show n.toNat = n.natAbs from by omega] at this
  have main : ∀ (u : Nat) (out : List UInt8), u < 18446744073709551616 → Go.Lib.decDigits u ++ out = Go.Lib.decDigits n.natAbs →
      LoopP (S.rabbetlaw26_digits_l2 (ACall C) (.int .i64 n) Q) ([.str out, .int .u64 u], H) := by
    intro u
    induction u using Nat.strongRecOn with
    | _ u ih =>
      intro out hu he
      refine LoopP.step ?_
      have hol : out.length ≤ 40 := by
        have := congrArg List.length he
        simp at this; omega
      have hr : ((u : Int).tmod 10) = ((u % 10 : Nat) : Int) := (Int.ofNat_tmod u 10).symm
      have hq : ((u : Int).tdiv 10) = ((u / 10 : Nat) : Int) := (Int.ofNat_tdiv u 10).symm
      simp only [S.rabbetlaw26_digits_l2, sl_zero, sl_succ]
      rw [abin_rem _ _ _ (by decide), hr]
      simp only [Do_of, abin_add]
      rw [wrap_u64 (by omega) (by omega)]
      simp only [aconv_int, Do_of]
      rw [wrap_u8 (by omega) (by omega)]
      have hbs : abslice H false 1 1 [.int .u8 0] [(0, 1, .int .u8 (48 + ((u % 10 : Nat) : Int)))] = some (.lst .full 1 [.int .u8 (48 + ((u % 10 : Nat) : Int))], H) := rfl
      have hst : abstr H (.lst .full 1 [.int .u8 (48 + ((u % 10 : Nat) : Int))]) = some (.str [UInt8.ofNat (48 + u % 10)]) := by
        have this := bytes_str (H := H) (xs := [48 + ((u % 10 : Nat) : Int)]) (fun x hx => by simp at hx; subst hx; omega)
        have hz : (48 + ((u % 10 : Nat) : Int)).toNat = 48 + u % 10 := by omega
        have h2 : ([48 + ((u % 10 : Nat) : Int)].map fun x => UInt8.ofNat x.toNat) = [UInt8.ofNat (48 + u % 10)] := by rw [List.map_cons, hz]; rfl
        rw [h2] at this
        exact this
      rw [hbs]
      simp only [DoH_some]
      rw [hst]
      simp only [Do_of]
      rw [sadd _ _ (by simp; omega)]
      simp only [Do_of]
      rw [abin_quo _ _ _ (by decide), hq, wrap_u64 (by omega) (by omega)]
      simp only [Do_of, abin_eql, Gd_true]
      by_cases hz : u / 10 = 0
      · rw [if_pos (by simp; omega)]
        simp only [JoinP_def, S.rabbetlaw26_digits_k1, sl_zero, abin_lss, Do_of, Gd_true]
        have hd : Go.Lib.decDigits u = [UInt8.ofNat (48 + u % 10)] := by
          rw [Go.Lib.decDigits, dif_pos (by omega), Nat.mod_eq_of_lt (by omega)]
        rw [hd] at he
        by_cases hn : n < 0
        · rw [if_pos (by simpa using hn)]
          simp (disch := first | decide | (simp only [List.length_append, List.length_cons, List.length_nil]; omega)) only [sadd, Do_of]
          rw [he]
          simpa [Go.Lib.itoa, hn] using hQ
        · rw [if_neg (by simpa using hn), he]
          have : n.natAbs = n.toNat := by omega
          simpa [Go.Lib.itoa, hn, this] using hQ
      · rw [if_neg (by simp; omega)]
        refine ih (u / 10) (by omega) _ (by omega) ?_
        rw [← he, Go.Lib.decDigits.eq_def u, dif_neg (by omega)]
        simp
  simp only [S.rabbetlaw26_digits, aconv_int, Do_of, abin_lss, Gd_true]
  by_cases hn : n < 0
  · rw [if_pos (by simpa using hn)]
    have hw : IntKind.wrap .u64 n = n + 18446744073709551616 := by
      simp [IntKind.wrap, IntKind.signed, IntKind.bits]; omega
    have hneg : aun .neg (.int .u64 (n + 18446744073709551616)) = some (.int .u64 ((n.natAbs : Nat) : Int)) := by
      simp [aun, IntKind.wrap, IntKind.signed, IntKind.bits]; omega
    rw [hw, hneg]
    simp only [Do_of, JoinP_def, S.rabbetlaw26_digits_k3, sl_zero]
    exact main _ _ (by omega) (by simp)
  · rw [if_neg (by simpa using hn), wrap_u64 (by omega) (by omega)]
    simp only [JoinP_def, S.rabbetlaw26_digits_k3, sl_zero]
    have := main n.natAbs [] (by omega) (by simp)
    rwa [show ((n.natAbs : Nat) : Int) = n from by omega] at this
end
end Go.Proofs.YtgejcelgofmbgaaDoor.rb

/- tale.Step, as the program's text says it. -/
set_option linter.unusedVariables false
set_option linter.unusedSimpArgs false
namespace Go.Proofs.YtgejcelgofmbgaaDoor.rb
open Rb Go

section
variable {H : AH} {Q : Post}
theorem sneq (a b : List UInt8) : abin .neq (.str a) (.str b) = some (.bool !(a == b)) := rfl
theorem wordOK (k : Int) (hQ : Q (.tup [.str (stepW k).1, .int .i64 (stepW k).2]) H) : ACall C K.tale_word [.int .i64 k] H Q := by
  refine S.cl_tale_word cl_Ta ?_
  simp only [S.tale_word, abin_eql, Do_of, Gd_true]
  unfold stepW at hQ
  by_cases h1 : k = 1
  · subst h1; simpa using hQ
  · by_cases h2 : k = 2
    · subst h2; simpa using hQ
    · by_cases h3 : k = 3
      · subst h3; simpa using hQ
      · simpa [h1, h2, h3] using hQ

/-- What a line's words say of the step. -/
theorem words_at {x : Stp} {s : List UInt8} (h : lineS x = some s) : (splitB s)[0]? = some (stepW x.1).1 ∧ ((splitB s).length : Int) = (stepW x.1).2 + 1 ∧ (splitB s)[1]? = some (Go.Lib.itoa x.2.1) ∧
    (((stepW x.1).2 = 2 ∧ (splitB s)[2]? = some (Go.Lib.itoa x.2.2)) ∨ ((stepW x.1).2 = 1 ∧ x.2.2 = 0)) := by
  rw [lineS_words h]
  rcases lineS_kind h with h1 | ⟨h1, h2⟩ | ⟨h1, h2⟩ <;> simp [wordsS, stepW, h1, *]

/-- What a line says. -/
def StepR (s : List UInt8) (v : AV) : Prop :=
  (v = .tup [.agg [.int .i64 0, .int .i64 0, .int .i64 0], .int .i64 3] ∧ ∀ x, InR x → lineS x ≠ some s) ∨ ∃ x, InR x ∧ lineS x = some s ∧ v = .tup [.agg (stA x), .int .i64 0]

/-- Some number, the one that the text spells if it spells one. -/
theorem numOK (t : List UInt8) (ht : t.length ≤ 281474976710656) (hQ : ∀ (v : Int) (e : AV), -9223372036854775808 ≤ v → v ≤ 9223372036854775807 → (∀ a, -9223372036854775808 ≤ a → a ≤ 9223372036854775807 → t = Go.Lib.itoa a → v = a) → Q (.tup [.int .i64 v, e]) H) :
    ACall C K.strconv_Atoi [.str t] H Q := by
  refine atoiOK t ht H Q (fun v hv => ?_) fun hno v T h0 h1 => ?_
  · obtain ⟨b0, b1⟩ := Go.Lib.atoiAll_bounds hv
    refine hQ v _ b0 b1 fun a a0 a1 e => ?_
    rw [e, atoi_itoa a0 a1] at hv
    injection hv with hv
    exact hv.symm
  · exact hQ v _ h0 h1 fun a a0 a1 e => absurd (by rw [e]; exact atoi_itoa a0 a1) (hno a)

theorem lst_at {n i : Nat} {ws : List (List UInt8)} {w : List UInt8} (hn : n = ws.length) (h : ws[i]? = some w) : ∃ cells, aiaddr none 1 (.lst .dead n (ws.map AV.str)) (.int .i64 i) = some (.fptr cells) ∧ ∀ H : AH, aload H 1 false (.fptr cells) = some (.str w) := by
  obtain ⟨hlt, he⟩ := List.getElem?_eq_some_iff.1 h
  refine ⟨(ws.map AV.str).drop (i * 1), ?_, fun H => ?_⟩
  · simp only [aiaddr]
    rw [if_pos ⟨by omega, by omega⟩]
    simp
  · have hd : (ws.map AV.str).drop (i * 1) = .str w :: (ws.map AV.str).drop (i + 1) := by
      rw [Nat.mul_one, List.drop_eq_getElem_cons (by simpa using hlt)]
      simp [he]
    rw [hd]
    simp [aload, takeCells]
theorem split_len : ∀ (s w : List UInt8), w ∈ splitB s → w.length ≤ s.length := by
  intro s
  induction s with
  | nil => intro w h; simp [splitB] at h; subst h; simp
  | cons c r ih =>
    intro w h
    unfold splitB at h
    split at h
    · rcases List.mem_cons.1 h with rfl | h
      · simp
      · have := ih w h; simp; omega
    · split at h
      · rename_i he; exact absurd he (splitB_ne r)
      · rename_i v vs he
        rcases List.mem_cons.1 h with rfl | h
        · have := ih v (by rw [he]; simp); simp; omega
        · have := ih w (by rw [he]; simp [h]); simp; omega

theorem stepOK (s : List UInt8) (hs : s.length ≤ 17592186044000) : ACall C K.tale_Step [.str s] AH.mt (fun v _ => StepR s v) := by
  refine S.cl_tale_Step cl_Ta ?_
  have hne := splitB_ne s
  generalize hW : splitB s = ws at hne
  obtain ⟨w0, wr, hws⟩ : ∃ w0 wr, ws = w0 :: wr := by cases ws with
    | nil => exact absurd rfl hne
    | cons a b => exact ⟨a, b, rfl⟩
  have h0 : ws[0]? = some w0 := by rw [hws]; rfl
  have hlen : ∀ w ∈ ws, w.length ≤ s.length := fun w h => split_len s w (by rw [hW]; exact h)
  have main : ∀ (m : Nat) (k : Int) (H : AH), k + m = 4 → 1 ≤ k → At H 0 (.row [.int .i64 0, .int .i64 0, .int .i64 0]) → (∀ x, InR x → lineS x = some s → k ≤ x.1) →
      LoopP (S.tale_Step_l6 (ACall C) (.str s) (.ptr 0 0) (.lst .dead ws.length (ws.map AV.str)) fun v _ => StepR s v) ([.int .i64 k], H) := by
    intro m
    induction m with
    | zero =>
      intro k H hk _ hA hno
      obtain rfl : k = 4 := by omega
      refine LoopP.step ?_
      simp only [S.tale_Step_l6, sl_zero, abin_leq, Do_of, Gd_true]
      rw [if_neg (by decide)]
      have hst := hA.store 3 0 (.agg [.int .i64 0, .int .i64 0, .int .i64 0])
      rw [if_pos ⟨rfl, rfl, rfl, by simp⟩] at hst
      have hld := (hA.set (.row (setCells [.int .i64 0, .int .i64 0, .int .i64 0] 0 (AV.agg [.int .i64 0, .int .i64 0, .int .i64 0]).cells))).load 3 0 true
      simp only [JoinP_def, S.tale_Step_k5, show abuild [.int .i64 0, .int .i64 0, .int .i64 0] [] = some (.agg [.int .i64 0, .int .i64 0, .int .i64 0]) from rfl, Do_of]
      rw [hst]
      simp only [Do_of]
      rw [hld]
      refine ⟨_, rfl, .inl ⟨rfl, fun x hx hl => ?_⟩⟩
      have := hno x hx hl
      rcases lineS_kind hl with h | ⟨h, _⟩ | ⟨h, _⟩ <;> omega
    | succ m ih =>
      intro k H hk hk1 hA hno
      refine LoopP.step ?_
      simp only [S.tale_Step_l6, sl_zero, abin_leq, Do_of, Gd_true]
      rw [if_pos (by simp only [decide_eq_true_eq]; omega)]
      refine wordOK k ?_
      obtain ⟨c0, ha0, hl0⟩ := lst_at (n := ws.length) (i := 0) rfl h0
      simp only [ext0, ext1, Do_of]
      rw [show (AV.int IntKind.i64 ((0 : Nat) : Int)) = .int .i64 0 from rfl] at ha0
      rw [ha0]
      simp only [Do_of, hl0]
      have hkk : k = 1 ∨ k = 2 ∨ k = 3 := by omega
      have hword : (stepW k).1 ≠ [] ∧ ((stepW k).2 = 1 ∨ (stepW k).2 = 2) := by
        rcases hkk with rfl | rfl | rfl <;> simp [stepW]
      -- to the next kind
      have next : ∀ H', At H' 0 (.row [.int .i64 0, .int .i64 0, .int .i64 0]) → (∀ x, InR x → lineS x = some s → x.1 ≠ k) →
          S.tale_Step_k1 (ACall C) ([.int .i64 k], H) (LoopP (S.tale_Step_l6 (ACall C) (.str s) (.ptr 0 0) (.lst .dead ws.length (ws.map AV.str)) fun v _ => StepR s v)) (fun v _ => StepR s v) [] H' := by
        intro H' hA' hk'
        simp only [S.tale_Step_k1, sl_zero, abin_add, Do_of]
        rw [wrap_i64 (by omega) (by omega)]
        refine ih (k + 1) H' (by omega) (by omega) hA' fun x hx hl => ?_
        have e1 := hno x hx hl
        have e2 := hk' x hx hl
        omega
      simp only [sneq, Do_of, Gd3_false, JoinP_def, S.tale_Step_k4, sl_zero, Gd_true]
      by_cases hw : w0 = (stepW k).1
      · rw [if_pos (by simp [hw])]
        simp only [alen_lst, abin_add, Do_of, abin_neq]
        rw [wrap_i64 (by omega) (by omega), Gd_true]
        by_cases hl : (ws.length : Int) = (stepW k).2 + 1
        · rw [if_neg (by simpa using hl)]
          -- the numbers have been read
          have fin : ∀ v v2 : Int, InR (k, v, v2) → (∀ x, InR x → lineS x = some s → x.1 = k → x = (k, v, v2)) →
              S.tale_Step_k2 (ACall C) (.str s) (.ptr 0 0) (.ptr H.n 0) ([.int .i64 k], H) (LoopP (S.tale_Step_l6 (ACall C) (.str s) (.ptr 0 0) (.lst .dead ws.length (ws.map AV.str)) fun v _ => StepR s v)) (fun v _ => StepR s v) [] (H.push (.row (stA (k, v, v2)))) := by
            intro v v2 hin hone
            have hld : aload (H.push (.row (stA (k, v, v2)))) 3 true (.ptr H.n 0) = some (.agg (stA (k, v, v2))) := by rw [load_push]; rfl
            simp only [S.tale_Step_k2]
            rw [hld]
            simp only [Do_of]
            refine lineOK (k, v, v2) hin ?_
            unfold lineV
            cases hL : lineS (k, v, v2) with
            | some t =>
              simp only [ext0, ext1, Do_of, seql, Gd_true]
              by_cases ht : t = s
              · subst ht
                rw [if_pos (by simp), hld]
                simp only [Do_of]
                have hst := (hA.push (.row (stA (k, v, v2)))).store 3 0 (.agg (stA (k, v, v2)))
                rw [if_pos ⟨rfl, rfl, rfl, by simp⟩] at hst
                have hl2 := ((hA.push (.row (stA (k, v, v2)))).set (.row (setCells [.int .i64 0, .int .i64 0, .int .i64 0] 0 (AV.agg (stA (k, v, v2))).cells))).load 3 0 true
                rw [hst]
                simp only [Do_of]
                rw [hl2]
                exact ⟨_, rfl, .inr ⟨(k, v, v2), hin, hL, rfl⟩⟩
              · rw [if_neg (by simpa using ht)]
                refine next _ (hA.push _) fun x hx hl' e => ht ?_
                rw [hone x hx hl' e, hL] at hl'
                exact Option.some.inj hl'
            | none =>
              simp only [ext0, ext1, Do_of, seql, Gd_true]
              have hs0 : s ≠ [] := by
                intro e
                subst e
                rw [show splitB [] = [[]] from rfl, hws] at hW
                injection hW with h1 _
                exact hword.1 (hw.symm.trans h1.symm)
              rw [if_neg (by simpa using hs0)]
              refine next _ (hA.push _) fun x hx hl' e => ?_
              rw [hone x hx hl' e, hL] at hl'
              cases hl'
          have h1 : ∃ w1, ws[1]? = some w1 := by
            rcases hword.2 with h | h
            · exact ⟨ws[1]'(by omega), List.getElem?_eq_getElem _⟩
            · exact ⟨ws[1]'(by omega), List.getElem?_eq_getElem _⟩
          obtain ⟨w1, h1⟩ := h1
          have hw1 := hlen w1 (List.mem_of_getElem? h1)
          obtain ⟨c1, ha1, hl1⟩ := lst_at (n := ws.length) (i := 1) rfl h1
          rw [show (AV.int IntKind.i64 ((1 : Nat) : Int)) = .int .i64 1 from rfl] at ha1
          simp only [S.tale_Step_k3, sl_zero, abox, if_true, DoH_some]
          rw [show abuild [.int .i64 0, .int .i64 0, .int .i64 0] [(0, 1, .int .i64 k)] = some (.agg [.int .i64 k, .int .i64 0, .int .i64 0]) from rfl]
          simp only [Do_of]
          rw [store_new H [.int .i64 0, .int .i64 0, .int .i64 0] [.int .i64 k, .int .i64 0, .int .i64 0] 3 rfl rfl rfl]
          simp only [Do_of]
          rw [ha1]
          simp only [Do_of, hl1]
          refine numOK w1 (by omega) fun v e1 hv0 hv1 hva => ?_
          have st : ∀ (a b c : AV) (o : Nat) (z : Int), o < 3 → astore (H.push (.row [a, b, c])) 1 (.ptr H.n o) (.int .i64 z) = some (H.push (.row ([a, b, c].set o (.int .i64 z)))) := fun a b c o z ho => by
            rw [store_push H _ 1 o _ rfl rfl rfl (by simp; omega)]; rfl
          simp only [ext0, ext1, Do_of, afaddr, Nat.zero_add]
          rw [st _ _ _ 1 v (by omega)]
          simp only [Do_of, abin_eql, Gd_true]
          rcases hword.2 with hn | hn
          · rw [if_neg (by rw [hn]; decide)]
            refine fin v 0 ⟨⟨hv0, hv1⟩, (by decide : (-9223372036854775808 : Int) ≤ 0), (by decide : (0 : Int) ≤ 9223372036854775807)⟩ fun x hx hl' e => ?_
            obtain ⟨_, _, g3, g4⟩ := words_at hl'
            rw [hW, h1] at g3
            rw [e] at g4
            have g5 : x.2.2 = 0 := by
              rcases g4 with ⟨g, _⟩ | ⟨_, g⟩
              · omega
              · exact g
            have g6 := hva x.2.1 hx.1.1 hx.1.2 (Option.some.inj g3)
            obtain ⟨x0, x1, x2⟩ := x
            simp only at e g5 g6
            rw [e, g5, g6]
          · rw [if_pos (by rw [hn]; decide)]
            have h2 : ws[2]? = some (ws[2]'(by omega)) := List.getElem?_eq_getElem _
            generalize ws[2]'(by omega) = w2 at h2
            have hw2 := hlen w2 (List.mem_of_getElem? h2)
            obtain ⟨c2, ha2, hl2⟩ := lst_at (n := ws.length) (i := 2) rfl h2
            rw [show (AV.int IntKind.i64 ((2 : Nat) : Int)) = .int .i64 2 from rfl] at ha2
            rw [ha2]
            simp only [Do_of, hl2]
            refine numOK w2 (by omega) fun v2 e2 hv20 hv21 hva2 => ?_
            simp only [ext0, ext1, Do_of, afaddr, Nat.zero_add, List.set_cons_succ, List.set_cons_zero]
            rw [st _ _ _ 2 v2 (by omega)]
            simp only [Do_of]
            refine fin v v2 ⟨⟨hv0, hv1⟩, hv20, hv21⟩ fun x hx hl' e => ?_
            obtain ⟨_, _, g3, g4⟩ := words_at hl'
            rw [hW, h1] at g3
            rw [e, hW, h2] at g4
            have g5 : v2 = x.2.2 := by
              rcases g4 with ⟨_, g⟩ | ⟨g, _⟩
              · exact hva2 x.2.2 hx.2.1 hx.2.2 (Option.some.inj g)
              · omega
            have g6 := hva x.2.1 hx.1.1 hx.1.2 (Option.some.inj g3)
            obtain ⟨x0, x1, x2⟩ := x
            simp only at e g5 g6
            rw [e, g5, g6]
        · rw [if_pos (by simpa using hl)]
          refine next H hA fun x hx hl' e => hl ?_
          have := (words_at hl').2.1
          rw [hW, e] at this
          exact this
      · rw [if_neg (by simp [hw])]
        simp only [if_true]
        refine next H hA fun x hx hl' e => hw ?_
        have := (words_at hl').1
        rw [hW, h0, e] at this
        exact Option.some.inj this
  simp only [S.tale_Step, abox, if_true, DoH_some]
  refine splitOK s hs _ _ ?_
  rw [hW]
  exact main 3 1 _ (by omega) (by omega) (At.new AH.mt _) fun x hx hl => by
    rcases lineS_kind hl with h | ⟨h, _⟩ | ⟨h, _⟩ <;> omega
end
end Go.Proofs.YtgejcelgofmbgaaDoor.rb

/- Law 26, TaleLines and TaleSteps: by the texts' meanings. -/
set_option linter.unusedVariables false
set_option linter.unusedSimpArgs false
namespace Go.Proofs.YtgejcelgofmbgaaDoor.rb
open Rb Go

theorem lines_len : ∀ (n : Nat) (s x : List UInt8), s.length ≤ n → x ∈ linesOf s → x.length ≤ s.length ∧ x ≠ [] := by
  intro n
  induction n with
  | zero =>
    intro s x hs hx
    obtain rfl : s = [] := List.length_eq_zero_iff.1 (by omega)
    rw [linesOf_nil] at hx; cases hx
  | succ n ih =>
    intro s x hs hx
    by_cases h : s = []
    · subst h; rw [linesOf_nil] at hx; cases hx
    · rw [linesOf_cons h] at hx
      have ha := congrArg List.length (cutL_app s)
      have hl := cutL_lt s h
      rw [List.length_append] at ha
      rcases List.mem_cons.1 hx with rfl | hx
      · refine ⟨by omega, fun e => ?_⟩
        rw [e] at ha; simp at ha; omega
      · have := ih (cutL s).2 x (by omega) hx
        exact ⟨by omega, this.2⟩

section
variable {H : AH} {Q : Post}
/-- A line without its end. -/
theorem trimOK (x : List UInt8) (hx : x.length ≤ 4611686018427387904) (hQ : Q (.str (trimL x)) H) : ACall C K.strings_TrimSuffix [.str x, .str [10]] H Q := by
  refine S.cl_strings_TrimSuffix cl_Ta ?_
  simp only [S.strings_TrimSuffix]
  refine S.cl_internal_stringslite_TrimSuffix cl_Ta ?_
  simp only [S.internal_stringslite_TrimSuffix]
  refine S.cl_internal_stringslite_HasSuffix cl_Ta ?_
  simp only [S.internal_stringslite_HasSuffix, alen_str, Do_of, abin_geq, Gd3_true]
  have h1 : (([10] : List UInt8).length : Int) = 1 := rfl
  rw [h1]
  by_cases h0 : x = []
  · subst h0
    rw [if_neg (by decide)]
    simp only [Gd_true, Bool.false_eq_true, if_false]
    simpa [trimL] using hQ
  · have hpos : 0 < x.length := List.length_pos_iff.2 h0
    rw [if_pos (by simp only [decide_eq_true_eq]; omega)]
    simp only [abin_sub, Do_of]
    rw [wrap_i64 (by omega) (by omega)]
    have e1 : asslice (.str x) (some (.int .i64 ((x.length : Int) - 1))) none = some (.str (x.drop (x.length - 1))) := by
      simp only [asslice, abound]
      rw [if_pos (show (0 : Int) ≤ (x.length : Int) - 1 from by omega)]
      simp only
      rw [if_pos ⟨by omega, by omega⟩]
      rw [show ((x.length : Int) - 1).toNat = x.length - 1 from by omega, List.take_of_length_le (Nat.le_refl _)]
    have e2 : asslice (.str x) none (some (.int .i64 ((x.length : Int) - 1))) = some (.str (x.take (x.length - 1))) := by
      simp only [asslice, abound]
      rw [if_pos (show (0 : Int) ≤ (x.length : Int) - 1 from by omega)]
      simp only
      rw [if_pos ⟨by omega, by omega⟩]
      rw [show ((x.length : Int) - 1).toNat = x.length - 1 from by omega, List.drop_zero]
    rw [e1]
    simp only [Do_of, seql, Gd_true]
    have hdrop : x.drop (x.length - 1) = [x.getLast h0] := by
      have e := List.dropLast_concat_getLast h0
      have l : x.dropLast.length = x.length - 1 := List.length_dropLast
      have d := List.drop_left' (l₂ := [x.getLast h0]) l
      rw [e] at d
      exact d
    rw [hdrop]
    by_cases hl : x.getLast h0 = 10
    · rw [if_pos (by simp [hl]), e2]
      simp only [Do_of]
      have : trimL x = x.take (x.length - 1) := by
        unfold trimL
        rw [if_pos (by rw [List.getLast?_eq_some_getLast h0, hl]), List.dropLast_eq_take]
      rw [← this]; exact hQ
    · rw [if_neg (by simpa using hl)]
      have : trimL x = x := by
        unfold trimL
        rw [if_neg (by rw [List.getLast?_eq_some_getLast h0]; simpa using hl)]
      rw [← this]; exact hQ

theorem froz_st (x : Stp) (e : Int) : (AV.tup [.agg (stA x), .int .i64 e]).froz = true := rfl
/-- What a line says: the step, or that it is none. -/
theorem stepOK' (s : List UInt8) (hs : s.length ≤ 17592186044000) (h1 : (∀ x, InR x → lineS x ≠ some s) → Q (.tup [.agg [.int .i64 0, .int .i64 0, .int .i64 0], .int .i64 3]) H)
    (h2 : ∀ x, InR x → lineS x = some s → Q (.tup [.agg (stA x), .int .i64 0]) H) : ACall C K.tale_Step [.str s] H Q := by
  by_cases hx : ∃ x, InR x ∧ lineS x = some s
  · obtain ⟨x, hr, hl⟩ := hx
    refine lift (v := .tup [.agg (stA x), .int .i64 0]) (ACall_mono C _ _ _ _ _ (fun v _ hv => ?_) (stepOK s hs)) rfl rfl H Q (h2 x hr hl)
    rcases hv with ⟨_, h⟩ | ⟨y, hy, hyl, rfl⟩
    · exact absurd hl (h x hr)
    · rw [line_inj hr hy hl hyl]
  · refine lift (v := .tup [.agg [.int .i64 0, .int .i64 0, .int .i64 0], .int .i64 3]) (ACall_mono C _ _ _ _ _ (fun v _ hv => ?_) (stepOK s hs)) rfl rfl H Q (h1 fun x hr hl => hx ⟨x, hr, hl⟩)
    rcases hv with ⟨rfl, _⟩ | ⟨y, hy, hyl, _⟩
    · rfl
    · exact absurd ⟨y, hy, hyl⟩ hx

/-- What the law itself takes for the line: a text, and whether there is one. -/
theorem lawlineOK (x : Stp) (hx : InR x) (hQ : ∀ (t : List UInt8) (b : Bool), (b = (lineS x).isSome) → (∀ u, lineS x = some u → t = u) → Q (.tup [.str t, .bool b]) H) : ACall C K.rabbetlaw26_line [.agg (stA x)] H Q := by
  obtain ⟨k, a, b⟩ := x
  have la := itoa_short hx.1.1 hx.1.2
  have lb := itoa_short hx.2.1 hx.2.2
  simp only at la lb
  refine S.cl_rabbetlaw26_line cl_Ta ?_
  have hb : aboxv H false 3 (.agg (stA (k, a, b))) = some (.fptr [.int .i64 k, .int .i64 a, .int .i64 b], H) := rfl
  simp only [S.rabbetlaw26_line, hb, DoH_some, bfa0, bfa1, bfa2, Do_of, bload, bload2, bload3, abin_eql, Gd_true, true_and]
  by_cases h1 : k = 1
  · subst h1
    rw [if_pos (by decide)]
    refine digitsOK a hx.1.1 hx.1.2 ?_
    simp (disch := first | decide | (simp only [List.length_append, List.length_cons, List.length_nil]; omega)) only [sadd, Do_of]
    refine digitsOK b hx.2.1 hx.2.2 ?_
    simp (disch := first | decide | (simp only [List.length_append, List.length_cons, List.length_nil]; omega)) only [sadd, Do_of]
    exact hQ _ _ (by simp [lineS, lineM]) fun u hu => by simpa [lineS, lineM] using hu
  · rw [if_neg (by simpa using h1)]
    by_cases h2 : k = 2
    · subst h2
      rw [if_pos (by decide)]
      refine digitsOK a hx.1.1 hx.1.2 ?_
      simp (disch := first | decide | (simp only [List.length_append, List.length_cons, List.length_nil]; omega)) only [sadd, Do_of]
      refine hQ _ _ ?_ fun u hu => ?_
      · by_cases hb0 : b = 0 <;> simp [lineS, lineM, hb0]
      · by_cases hb0 : b = 0
        · simpa [lineS, lineM, hb0] using hu
        · simp [lineS, lineM, hb0] at hu
    · rw [if_neg (by simpa using h2)]
      by_cases h3 : k = 3
      · subst h3
        rw [if_pos (by decide)]
        refine digitsOK a hx.1.1 hx.1.2 ?_
        simp (disch := first | decide | (simp only [List.length_append, List.length_cons, List.length_nil]; omega)) only [sadd, Do_of]
        refine hQ _ _ ?_ fun u hu => ?_
        · by_cases hb0 : b = 0 <;> simp [lineS, lineM, hb0]
        · by_cases hb0 : b = 0
          · simpa [lineS, lineM, hb0] using hu
          · simp [lineS, lineM, hb0] at hu
      · rw [if_neg (by simpa using h3)]
        exact hQ _ _ (by simp [lineS, lineM, h1, h2, h3]) fun u hu => by simp [lineS, lineM, h1, h2, h3] at hu

theorem line_run : lineS (1, 1, -4) = some [114, 117, 110, 32, 49, 32, 45, 52] := by simp [lineS, lineM, Go.Lib.itoa, Go.Lib.decDigits]
theorem line_all7 : lineS (3, 7, 0) = some [97, 108, 108, 32, 55] := by simp [lineS, lineM, Go.Lib.itoa, Go.Lib.decDigits]
theorem line_fail0 : lineS (2, 0, 0) = some [102, 97, 105, 108, 32, 48] := by simp [lineS, lineM, Go.Lib.itoa, Go.Lib.decDigits]
theorem line_all2 : lineS (3, 2, 0) = some [97, 108, 108, 32, 50] := by simp [lineS, lineM, Go.Lib.itoa, Go.Lib.decDigits]
theorem inR_small (k : Int) {a b : Int} (ha : -100 ≤ a ∧ a ≤ 100) (hb : -100 ≤ b ∧ b ≤ 100) : InR (k, a, b) := ⟨⟨by show (-9223372036854775808 : Int) ≤ a; omega, by show a ≤ (9223372036854775807 : Int); omega⟩, by show (-9223372036854775808 : Int) ≤ b; omega, by show b ≤ (9223372036854775807 : Int); omega⟩
/-- A line that says a step. -/
theorem step_at {s : List UInt8} {x : Stp} (hs : s.length ≤ 17592186044000) (hx : InR x) (hl : lineS x = some s) (hQ : Q (.tup [.agg (stA x), .int .i64 0]) H) : ACall C K.tale_Step [.str s] H Q :=
  stepOK' s hs (fun h => absurd hl (h x hx)) fun y hy hyl => by rw [← line_inj hx hy hl hyl]; exact hQ

/-- The fixed fact. -/
theorem awakeOK (H : AH) (Q : Post) (hQ : Q (.bool true) H) : ACall C K.rabbetlaw26_awake [] H Q := by
  refine lift (v := .bool true) ?_ rfl rfl H Q hQ
  refine S.cl_rabbetlaw26_awake cl_Ta ?_
  simp only [S.rabbetlaw26_awake]
  refine step_at (by decide) (inR_small 1 (by decide) (by decide)) line_run ?_
  simp only [ext0, ext1, Do_of, abox, if_true, DoH_some]
  rw [store_new AH.mt [.int .i64 0, .int .i64 0, .int .i64 0] (stA (1, 1, -4)) 3 rfl rfl rfl]
  simp only [Do_of]
  rw [show abuild [.int .i64 0, .int .i64 0, .int .i64 0] [(0, 1, .int .i64 3), (1, 1, .int .i64 7)] = some (.agg (stA (3, 7, 0))) from rfl]
  simp only [Do_of]
  refine lineOK (3, 7, 0) (inR_small 3 (by decide) (by decide)) ?_
  unfold lineV
  rw [line_all7]
  simp only [ext0, ext1, Do_of]
  have hL : linesOf [102, 97, 105, 108, 32, 48, 10, 97, 108, 108, 32, 50] = [[102, 97, 105, 108, 32, 48, 10], [97, 108, 108, 32, 50]] := by decide
  refine readOK _ (by decide) (fun l => if l = [97, 108, 108, 32, 50] then (3, 2, 0) else (2, 0, 0)) (by rw [hL]; decide) (fun x hx => ?_) (fun x hx => ?_) _ _ ?_
  · rw [hL] at hx
    refine trimOK x ?_ rfl
    simp only [List.mem_cons, List.not_mem_nil, or_false] at hx
    rcases hx with rfl | rfl <;> decide
  · rw [hL] at hx
    simp only [List.mem_cons, List.not_mem_nil, or_false] at hx
    rcases hx with rfl | rfl
    · exact step_at (by decide) (inR_small 2 (by decide) (by decide)) (by rw [line_fail0]; rfl) rfl
    · exact step_at (by decide) (inR_small 3 (by decide) (by decide)) (by rw [line_all2]; rfl) rfl
  rw [hL]
  have e3 : ∀ a b c : AV, aextract 0 (.tup [a, b, c]) = some a ∧ aextract 1 (.tup [a, b, c]) = some b ∧ aextract 2 (.tup [a, b, c]) = some c := fun _ _ _ => ⟨rfl, rfl, rfl⟩
  simp only [e3, Do_of, abin_eql, Gd3_true, beq_self_eq_true, if_true, JoinP_def, S.rabbetlaw26_awake_k5, S.rabbetlaw26_awake_k4, S.rabbetlaw26_awake_k3, sl_zero, load_push]
  rw [show takeCells (stA (1, 1, -4)) 0 3 true = some (.agg (stA (1, 1, -4))) from rfl]
  rw [show abuild [.int .i64 0, .int .i64 0, .int .i64 0] [(0, 1, .int .i64 1), (1, 1, .int .i64 1), (2, 1, .int .i64 (-4))] = some (.agg (stA (1, 1, -4))) from rfl]
  simp only [Do_of]
  rw [show aeqAgg false [.n, .n, .n] (.agg (stA (1, 1, -4))) (.agg (stA (1, 1, -4))) = some (.bool true) from rfl]
  simp only [Do_of, S.rabbetlaw26_awake_k2, sl_zero, Gd3_true, if_true, seql, beq_self_eq_true, JoinP_def, S.rabbetlaw26_awake_k1, alen_lst, abin_eql]
  rfl
end
end Go.Proofs.YtgejcelgofmbgaaDoor.rb

/- Law 26: TaleLines, TaleSteps, TaleTexts. -/
set_option linter.unusedVariables false
set_option linter.unusedSimpArgs false
namespace Go.Proofs.YtgejcelgofmbgaaDoor.rb
open Rb Go

/-- A step's numbers are numbers of 64 bits. -/
def InS (x : Stp) : Prop := (-9223372036854775808 ≤ x.1 ∧ x.1 ≤ 9223372036854775807) ∧ InR x

theorem line_short {x : Stp} {t : List UInt8} (hx : InR x) (h : lineS x = some t) : t.length ≤ 100 := by
  obtain ⟨k, a, b⟩ := x
  have la := itoa_short hx.1.1 hx.1.2
  have lb := itoa_short hx.2.1 hx.2.2
  simp only at la lb
  rcases lineS_kind h with h1 | ⟨h1, h2⟩ | ⟨h1, h2⟩ <;> simp only at h1 <;> subst h1
  · simp [lineS, lineM] at h; subst h; simp; omega
  · simp only at h2; subst h2; simp [lineS, lineM] at h; subst h; simp; omega
  · simp only at h2; subst h2; simp [lineS, lineM] at h; subst h; simp; omega

theorem taleLines.any (x : Stp) (hs : InS x) : ACall C K.rabbetlaw26_TaleLines [.agg (stA x)] AH.mt (fun v _ => v = .bool true) := by
  have hx := hs.2
  refine S.cl_rabbetlaw26_TaleLines cl_Ta ?_
  have hb : aboxv AH.mt false 3 (.agg (stA x)) = some (.fptr (stA x), AH.mt) := rfl
  have hld : ∀ H : AH, aload H 3 true (.fptr (stA x)) = some (.agg (stA x)) := fun _ => rfl
  simp only [S.rabbetlaw26_TaleLines, hb, DoH_some, hld, Do_of]
  refine lineOK x hx ?_
  unfold lineV
  cases hL : lineS x with
  | none =>
    simp only [ext0, ext1, Do_of]
    refine lawlineOK x hx fun t b hbs htx => ?_
    rw [hL] at hbs
    subst hbs
    simp only [ext0, ext1, Do_of, aun_not, Gd_true, Option.isSome_none, Bool.not_false, if_true]
    refine awakeOK _ _ ?_
    simp only [Gd3_true, if_true, abin_eql, Do_of, beq_self_eq_true, JoinP_def, S.rabbetlaw26_TaleLines_k1, sl_zero, seql]
  | some t =>
    simp only [ext0, ext1, Do_of]
    refine lawlineOK x hx fun t' b hbs htx => ?_
    obtain rfl := htx t hL
    rw [hL] at hbs
    subst hbs
    simp only [ext0, ext1, Do_of, aun_not, Gd_true, Option.isSome_some, Bool.not_true, Bool.false_eq_true, if_false]
    have hsh := line_short hx hL
    refine step_at (by omega) hx hL ?_
    simp only [ext0, ext1, Do_of, abox, if_true, DoH_some]
    rw [store_new AH.mt [.int .i64 0, .int .i64 0, .int .i64 0] (stA x) 3 rfl rfl rfl]
    simp only [Do_of]
    refine awakeOK _ _ ?_
    simp only [Gd3_true, if_true, abin_eql, Do_of, beq_self_eq_true, JoinP_def, S.rabbetlaw26_TaleLines_k4, S.rabbetlaw26_TaleLines_k3, S.rabbetlaw26_TaleLines_k2, sl_zero, seql, hld, load_push]
    rw [show takeCells (stA x) 0 3 true = some (.agg (stA x)) from rfl]
    simp only [Do_of]
    have : aeqAgg false [.n, .n, .n] (.agg (stA x)) (.agg (stA x)) = some (.bool true) := by
      simp [aeqAgg, eqCells, stA]
    rw [this]
    simp only [Do_of]

theorem taleSteps.any (s : List UInt8) (hs : s.length ≤ 17592186044000) : ACall C K.rabbetlaw26_TaleSteps [.str s] AH.mt (fun v _ => v = .bool true) := by
  refine S.cl_rabbetlaw26_TaleSteps cl_Ta ?_
  simp only [S.rabbetlaw26_TaleSteps]
  refine stepOK' s hs (fun h => ?_) fun x hx hl => ?_
  · simp only [ext0, ext1, Do_of, abox, if_true, DoH_some]
    rw [store_new AH.mt [.int .i64 0, .int .i64 0, .int .i64 0] [.int .i64 0, .int .i64 0, .int .i64 0] 3 rfl rfl rfl]
    simp only [Do_of, abin_neq, Gd_true]
    rw [if_pos (by decide)]
    refine awakeOK _ _ ?_
    simp only [Gd3_true, if_true, abin_eql, Do_of, beq_self_eq_true, JoinP_def, S.rabbetlaw26_TaleSteps_k1, sl_zero, load_push]
    exact ⟨_, rfl, _, rfl, _, rfl, rfl⟩
  · simp only [ext0, ext1, Do_of, abox, if_true, DoH_some]
    rw [store_new AH.mt [.int .i64 0, .int .i64 0, .int .i64 0] (stA x) 3 rfl rfl rfl]
    simp only [Do_of, abin_neq, Gd_true]
    rw [if_neg (by decide)]
    simp only [load_push]
    rw [show takeCells (stA x) 0 3 true = some (.agg (stA x)) from rfl]
    simp only [Do_of]
    refine lawlineOK x hx fun t b hbs htx => ?_
    obtain rfl := htx s hl
    rw [hl] at hbs
    subst hbs
    simp only [ext0, ext1, Do_of]
    refine awakeOK _ _ ?_
    simp only [Gd3_true, if_true, Option.isSome_some, JoinP_def, S.rabbetlaw26_TaleSteps_k2, sl_zero, seql, Do_of, beq_self_eq_true]
end Go.Proofs.YtgejcelgofmbgaaDoor.rb

set_option linter.unusedVariables false
set_option linter.unusedSimpArgs false
namespace Go.Proofs.YtgejcelgofmbgaaDoor.rb.taleSteps
open Rb Go.ChangeShapes Go.WideShapes Go.ChangeAt Go.RowKit

theorem short {H : Type} {s : ByteArray} (hk : Rows.uptoSmall H [.lit (.string s.data.toList)] = true) : s.data.toList.length ≤ 17592186044000 := by
  have h : Rows.uptoBulkAll [DataW.lit (H := H) (.string s.data.toList)] ≤ 1048576 := of_decide_eq_true hk
  simp only [Rows.uptoBulkAll, Rows.uptoBulk] at h
  omega

theorem reads (os : Os) {H : Type} (enc : TypeId × Value → H) : ∃ places, DataW.whole enc Tryd.prog ((laidWorld os).forCall (fun _ _ => 0) ⟨#[], #[.string ⟨#[]⟩], []⟩).memory Tryd.f4.params.toList Rows.taleStepsSpec.vars false (#[.string ⟨#[]⟩] : Array Value).toList 8 = some ([.lit (.string [])], [], places) :=
  ⟨[], by kernel_rfl⟩

set_option maxRecDepth 100000 in
theorem lifted (os : Os) (started : os.Started) (H : Type) (enc : TypeId × Value → H) (F : Stop.Interp) :
    ReturnsInHanded {} Tryd.checked os 4 .any ((Rows.OpenSpec.upto Rows.taleStepsSpec).preRow enc Tryd.prog Tryd.f4 Rows.taleStepsUptoRow.domain false Rows.taleStepsUptoRow.laid) (((Rows.OpenSpec.upto Rows.taleStepsSpec).at F).post enc Tryd.prog Tryd.f4 false true false false) := by
  obtain ⟨places, hx⟩ := reads os enc
  refine returnsInHanded_of_row (C := Tryd.checked) (s := Rows.OpenSpec.upto Rows.taleStepsSpec) own started (by kernel_rfl) Tryd.func4
    (witness_row_atRef (enc := enc) (C := Tryd.checked) false (laidWorld os) #[.string ⟨#[]⟩] rfl (by kernel_rfl) (by kernel_rfl) (by kernel_rfl)
      (OpenSpec.preRow_of_cond 8 hx (by kernel_rfl) (fun k hk => by cases hk; kernel_rfl) (by kernel_rfl) (laid_met os #[.string ⟨#[]⟩]))) ?_
  intro W base args ds gs before hval0 hW _ hcond hsz hL _ _
  have hval : ∀ (j : Nat) t v, Tryd.f4.params[j]? = some t → args[j]? = some v → Value.okWide Tryd.prog W .any base t v := hval0
  have hW' := hW
  obtain ⟨p, q, hA0, hV0, rfl, hfz, hnd⟩ := hW
  have hA : DataW.TrodAll enc Tryd.prog W 0 (fun _ => true) true Tryd.f4.params.toList args.toList ds p := hA0
  have hV : DataW.TrodVars enc Tryd.prog W (fun _ => true) [] gs q := hV0
  rw [Tryd.params4] at hA hval
  obtain ⟨v0, d0, rfl, rfl, h0⟩ := trodAll_one hA
  obtain ⟨rfl, rfl⟩ : gs = [] ∧ q = [] := by
    cases gs with
    | nil => exact ⟨rfl, hV⟩
    | cons g r => exact absurd hV (by intro h; cases h)
  obtain ⟨a0, rfl, rfl, rfl, w0⟩ := Go.ChangeMaps.open_string Tryd.underlying9 (hval 0 9 v0 rfl rfl) h0
  refine (law_calls (C := C) (f := 4) (by kernel_rfl) (any a0.data.toList (short (hcond _ rfl))) (gok hL) (VRs.one (VR_string _))).mono fun e W' ⟨he, hbel⟩ => ?_
  subst he
  exact ⟨_, rfl, post_true (bt := 4) hW' laidOut (by kernel_rfl) (by kernel_rfl) (by kernel_rfl) Tryd.underlying4 rfl hbel⟩

theorem facts : joinedFacts Tryd.checked.prog 4 Tryd.f4 (Rows.OpenSpec.upto Rows.taleStepsSpec).bare Rows.taleStepsUptoRow = true := of_forced (by kernel_rfl)
theorem row : Rows.TaleStepsUptoSaid :=
  OpenClaim.holds_of_cond 4 Tryd.f4 rfl rfl rfl rfl rfl rfl rfl ⟨rfl, rfl, rfl, rfl, rfl⟩ rfl rfl rfl rfl rfl (by kernel_rfl) Tryd.func4 facts
    (of_decide_eq_true (by kernel_rfl)) (by unfold Func.isWrapper; first | (rw [if_pos (by decide +kernel)]; kernel_rfl) | (rw [if_neg (by decide +kernel)]; exact ⟨rfl, rfl⟩))
    (fun os started H enc _ F => by rw [OpenClaim.pre_eq_preRow]; exact lifted os started H enc F)
end Go.Proofs.YtgejcelgofmbgaaDoor.rb.taleSteps
namespace Go.Proofs.YtgejcelgofmbgaaDoor
open Go

theorem taleStepsUpto_holds : Rows.TaleStepsUptoCardSaid :=
  Claim7.holds_tied_plain_at .later [] [.data, .data, .data, .data, .sentinel, .sentinel, .pinned] true (true, "1f76c00d5a62571382213d382f82060c06a563a6de6bc03491dd72d682990b83") true
    rb.taleSteps.row (fun _ h => by cases h) (by kernel_rfl) (fun _ h => by cases h) taleStepsUpto_row_tie rfl ⟨rfl, rfl⟩ (by kernel_rfl) rfl
    (fun f fn hf hfn => by
      obtain rfl : f = 4 := Option.some.inj ((show Tryd.prog.funcNamed Rows.taleStepsUptoRow.func = some 4 by kernel_rfl).symm.trans hf) |>.symm
      obtain rfl : fn = Tryd.f4 := (Option.some.inj (Tryd.func4.symm.trans hfn)).symm
      exact ⟨by kernel_rfl, fun j t ht => by
        rw [Tryd.params4] at ht
        rcases j with _ | j
        · obtain rfl : t = 9 := by simpa using ht.symm
          exact (show Tryd.prog.wantsStandIn 9 = false by kernel_rfl)
        · simp at ht⟩)
    (by kernel_rfl)
#print axioms taleStepsUpto_holds
end Go.Proofs.YtgejcelgofmbgaaDoor
