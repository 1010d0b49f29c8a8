/- For every two texts: the words of the one, and then those of the other one on lines of their own, are the words of both (law LexJoins of chapter 8 returns true and leaves its arguments). No condition beyond the card's own. -/
import Derived.Test.YtpmpckhgkhiebaaDoorRb3
import Derived.Lib.ParseIntB
import Derived.Lib.Bytealg
import Derived.Below
import Derived.Shelf.Pu.ParseUintPublic10
import Derived.Lib.AtoiErrMem
import Derived.Stop.LaidErr
import Derived.ChangeBears2
import Derived.Test.YtpmpckhgkhiebaaDoorRb2
import Derived.Test.YtpmpckhgkhiebaaDoorTie
import Derived.Test.YtpmpckhgkhiebaaDoorCards
import Derived.SizedLaws
/- Package lex: the words of a text. -/
set_option linter.unusedVariables false
set_option linter.unusedSimpArgs false
set_option linter.unusedSectionVars false
namespace Rb
open Go

section
variable {Φ : Calls'} {H H0 : AH} {Q : Post} {id : Nat} {s : List UInt8} {a : Nat} {line : Int} {ws : List (List UInt8 × Int)}
theorem SCN.move (h : SCN H0 H id s a line ws) (a' : Nat) : ∃ H', astore H 1 (.ptr id 1) (.int .i64 (a' : Int)) = some H' ∧ SCN H0 H' id s a' line ws := by
  obtain ⟨hid, x, hat, hl⟩ := h
  refine ⟨_, by rw [hat.store, if_pos ⟨rfl, rfl, rfl, by simp⟩]; rfl, hid, x, hat.set _, hl.oth hat hid _⟩
theorem SCN.newline (h : SCN H0 H id s a line ws) (l' : Int) : ∃ H', astore H 1 (.ptr id 2) (.int .i64 l') = some H' ∧ SCN H0 H' id s a l' ws := by
  obtain ⟨hid, x, hat, hl⟩ := h
  refine ⟨_, by rw [hat.store, if_pos ⟨rfl, rfl, rfl, by simp⟩]; rfl, hid, x, hat.set _, hl.oth hat hid _⟩

theorem lex_next_spec (hT : Cl Φ S.tab_Lex) {num : List UInt8 → Bool} (hnum : NumS Φ num) (hidx : IdxS Φ) {y : UInt8} {r : List UInt8} (h : SCN H0 H id s a line ws) (hd : s.drop a = y :: r) (hl : s.length ≤ 1048576) (hws : ws.length ≤ 1048576) (hl0 : 0 ≤ line) (hl1 : line ≤ 2000000)
    (hQ : ∀ H', if y = 10 then (SCN H0 H' id s (a + 1) (line + 1) ws → Q (.bool true) H') else if y = 32 then (SCN H0 H' id s (a + 1) line ws → Q (.bool true) H')
      else (match wordM num (y :: r) with | none => SCN H0 H' id s a line ws → Q (.bool false) H' | some k => SCN H0 H' id s (a + k) line (ws ++ [((s.drop a).take k, line)]) → Q (.bool true) H')) : Φ K.lex_scanner_next [.ptr id 0] H Q := by
  refine S.cl_lex_scanner_next hT ?_
  have hlt := (drop_cons_lt hd).1
  have hget := (drop_cons_lt hd).2.1
  unfold S.lex_scanner_next
  simp only [anilck, afaddr, Do_of, Nat.zero_add, Nat.add_zero, h.l0, h.l1, h.l2, abin_add]
  have hx : aidxs (.str s) (.int .i64 a) = some (.int .u8 y.toNat) := by
    simp only [aidxs]; rw [if_pos (by omega)]; simp [hget]
  have e1 : IntKind.wrap .i64 ((a : Int) + 1) = ((a + 1 : Nat) : Int) := by rw [wrap_i64 (by omega) (by omega)]; simp
  have e2 : IntKind.wrap .i64 (line + 1) = line + 1 := wrap_i64 (by omega) (by omega)
  have hyn : ∀ n : Nat, n < 256 → (((y.toNat : Int) == (n : Int)) = true ↔ y = UInt8.ofNat n) := by
    intro n hn
    simp only [beq_iff_eq]
    constructor
    · intro e
      apply UInt8.toNat_inj.1
      rw [UInt8.toNat_ofNat']
      omega
    · rintro rfl
      rw [UInt8.toNat_ofNat']
      omega
  rw [hx]
  simp only [Do_of, abin_eql, Gd_true]
  refine ite_both (fun h10 => ?_) (fun h10 => ?_)
  · have hy : y = 10 := (hyn 10 (by omega)).1 h10
    rw [e2]
    obtain ⟨H1, q1, s1⟩ := h.newline (line + 1)
    rw [q1]
    simp only [Do_of, s1.l1, abin_add, e1]
    obtain ⟨H2, q2, s2⟩ := s1.move (a + 1)
    rw [q2]
    simp only [Do_of]
    have := hQ H2
    rw [if_pos hy] at this
    exact this s2
  · have hy10 : y ≠ 10 := fun e => h10 ((hyn 10 (by omega)).2 e)
    refine ite_both (fun h32 => ?_) (fun h32 => ?_)
    · have hy : y = 32 := (hyn 32 (by omega)).1 h32
      rw [e1]
      obtain ⟨H2, q2, s2⟩ := h.move (a + 1)
      rw [q2]
      simp only [Do_of]
      have := hQ H2
      rw [if_neg hy10, if_pos hy] at this
      exact this s2
    · have hy32 : y ≠ 32 := fun e => h32 ((hyn 32 (by omega)).2 e)
      have hQ' : ∀ H', (match wordM num (y :: r) with | none => SCN H0 H' id s a line ws → Q (.bool false) H' | some k => SCN H0 H' id s (a + k) line (ws ++ [((s.drop a).take k, line)]) → Q (.bool true) H') := fun H' => by
        have := hQ H'
        rw [if_neg hy10, if_neg hy32] at this
        exact this
      refine S.cl_lex_letter hT (lex_letter_spec ?_)
      simp only [Gd_true]
      refine ite_both (fun hlet => ?_) (fun hlet => ?_)
      · exact lex_word_spec hT h hd hlet hl hws hQ'
      · refine S.cl_lex_digit hT (lex_digit_spec ?_)
        simp only [Gd_true]
        refine ite_both (fun hdig => ?_) (fun hdig => ?_)
        · exact lex_number_spec hT hnum h hd (by simpa using hlet) hdig hl hws hQ'
        · exact lex_sign_spec hT hidx h hd (by simpa using hlet) (by simpa using hdig) hl hws hQ'

/-- The words of a text, or the fault. -/
def lexM (num : List UInt8 → Bool) (s : List UInt8) : Except (Int × Int) (List (List UInt8 × Int)) :=
  if 1048576 < s.length then .error (0, 12) else match toks num s.length s 1 with
    | .ok ws => .ok ws
    | .error l => .error (l, 3)
def lexV : Except (Int × Int) (List (List UInt8 × Int)) → AV
  | .ok ws => .tup [lstA tokC ws, .agg [.int .i64 0, .int .i64 0]]
  | .error e => .tup [.lst .dead 0 [], .agg [.int .i64 e.1, .int .i64 e.2]]
theorem tokC_weak (ws : List (List UInt8 × Int)) : AV.weaks (ws.flatMap tokC) = ws.flatMap tokC := by
  rw [weaks_map]
  induction ws with
  | nil => rfl
  | cons w r ih => rw [List.flatMap_cons, List.map_append, ih]; rfl
theorem tokC_froz (w : List UInt8 × Int) : AV.frozs (tokC w) = true := rfl
theorem lexV_froz (r : Except (Int × Int) (List (List UInt8 × Int))) : (lexV r).froz = true := by
  cases r with
  | ok ws => simp only [lexV, AV.froz, AV.frozs, lstA_froz tokC_froz, Bool.and_self]
  | error e => rfl

theorem lex_Tokens_spec (hT : Cl Φ S.tab_Lex) {num : List UInt8 → Bool} (hnum : NumS Φ num) (hidx : IdxS Φ) (hQ : ∀ (v : AV) H', v.weak = lexV (lexM num s) → Q v H') : S.lex_Tokens Φ (.str s) H Q := by
  unfold S.lex_Tokens
  simp only [abox, if_true, DoH_some, alen_str, Do_of, abin_gtr, Gd_true]
  have at1 := At.new H (.row [.int .i64 0, .int .i64 0])
  generalize H.push (.row [.int .i64 0, .int .i64 0]) = H2 at *
  generalize H.n = id1 at *
  have out : ∀ (x : AV) (p q : Int) (H1 : AH), At H1 id1 (.row [.int .i64 0, .int .i64 0]) → (AV.tup [x, .agg [.int .i64 p, .int .i64 q]]).weak = lexV (lexM num s) → Do (astore H1 2 (.ptr id1 0) (.agg [.int .i64 p, .int .i64 q])) fun H33 => Do (aload H33 2 true (.ptr id1 0)) fun x34 => Q (.tup [x, x34]) H33 := by
    intro x p q H1 ha he
    rw [ha.store, if_pos ⟨rfl, rfl, rfl, by simp [AV.cells]⟩]
    simp only [Do_of]
    rw [(ha.set _).load]
    rw [show takeCells (setCells [AV.int .i64 0, .int .i64 0] 0 (AV.agg [.int .i64 p, .int .i64 q]).cells) 0 2 true = some (.agg [.int .i64 p, .int .i64 q]) from rfl]
    simp only [Do_of]
    exact hQ _ _ he
  refine ite_both (fun hg => ?_) (fun hg => ?_)
  · have hg' : 1048576 < s.length := by simp only [decide_eq_true_eq] at hg; omega
    rw [show abuild [.int .i64 0, .int .i64 0] [(1, 1, .int .i64 12)] = some (.agg [.int .i64 0, .int .i64 12]) from rfl]
    simp only [Do_of]
    refine out _ 0 12 H2 at1 ?_
    unfold lexM
    rw [if_pos hg']; rfl
  · have hl : s.length ≤ 1048576 := by simp only [decide_eq_true_eq] at hg; omega
    have hM : lexM num s = match toks num s.length s 1 with | .ok ws => .ok ws | .error l => .error (l, 3) := by unfold lexM; rw [if_neg (by omega)]
    rw [show abuild [.str [], .int .i64 0, .int .i64 0, .lst .nil 0 []] [(0, 1, .str s), (2, 1, .int .i64 1)] = some (.agg [.str s, .int .i64 0, .int .i64 1, .lst .nil 0 []]) from rfl]
    simp only [Do_of]
    have hb : aboxv H2 true 4 (.agg [.str s, .int .i64 0, .int .i64 1, .lst .nil 0 []]) = some (.ptr H2.n 0, H2.push (.row [.str s, .int .i64 0, .int .i64 1, .lst .nil 0 []])) := by unfold aboxv; rw [if_pos ⟨rfl, rfl⟩]; rfl
    rw [hb]
    simp only [DoH_some]
    have sc0 : SCN H2 (H2.push (.row [.str s, .int .i64 0, .int .i64 1, .lst .nil 0 []])) H2.n s 0 1 [] := ⟨Nat.le_refl _, .lst .nil 0 [], At.new H2 _, (Lst.nil H2 2).psh _⟩
    generalize H2.push (.row [.str s, .int .i64 0, .int .i64 1, .lst .nil 0 []]) = H10 at *
    generalize hid : H2.n = id at *
    have keep1 : ∀ {H1 : AH} {a : Nat} {line : Int} {ws}, SCN H2 H1 id s a line ws → At H1 id1 (.row [.int .i64 0, .int .i64 0]) := fun h => by
      obtain ⟨_, x, _, hl⟩ := h
      exact at1.ext hl.1
    have main : ∀ (n a : Nat) (line : Int) (ws : List (List UInt8 × Int)) (H1 : AH), s.length - a ≤ n → a ≤ s.length → ws.length ≤ a → 1 ≤ line → line ≤ a + 1 → SCN H2 H1 id s a line ws →
        (match toks num n (s.drop a) line with | .error l => toks num s.length s 1 = .error l | .ok r => toks num s.length s 1 = .ok (ws ++ r)) →
        LoopP (S.lex_Tokens_l2 Φ (.str s) (.ptr id1 0) (.ptr id 0) Q) ([], H1) := by
      intro n
      induction n with
      | zero =>
        intro a line ws H1 hn ha hw hl1 hl2 hsc hfin
        have hd : s.drop a = [] := List.drop_eq_nil_of_le (by omega)
        rw [hd, toks_nil] at hfin
        simp only [List.append_nil] at hfin
        refine LoopP.step ?_
        simp only [S.lex_Tokens_l2, anilck, afaddr, Do_of, Nat.zero_add, hsc.l1, alen_str, abin_lss, Gd_true]
        rw [if_neg (by simp only [decide_eq_true_eq]; omega)]
        simp only [JoinP_def, S.lex_Tokens_k1, anilck, afaddr, Do_of, Nat.zero_add]
        obtain ⟨hid', x, hat, hlst⟩ := hsc
        have l3 : aload H1 1 false (.ptr id 3) = some x := by rw [hat.load]; rfl
        rw [l3]
        simp only [Do_of]
        rw [show abuild [.int .i64 0, .int .i64 0] [] = some (.agg [.int .i64 0, .int .i64 0]) from rfl]
        simp only [Do_of]
        refine out x 0 0 H1 (at1.ext hlst.1) ?_
        rw [hM, hfin]
        obtain ⟨_, tk, rfl, _⟩ := hlst
        simp only [AV.weak, AV.weaks, tokC_weak, lexV, lstA]
      | succ n ih =>
        intro a line ws H1 hn ha hw hl1 hl2 hsc hfin
        by_cases hend : a = s.length
        · have hd : s.drop a = [] := List.drop_eq_nil_of_le (by omega)
          rw [hd, toks_nil] at hfin
          refine ih a line ws H1 (by omega) ha hw hl1 hl2 hsc ?_
          rw [hd, toks_nil]; exact hfin
        · have hlt : a < s.length := by omega
          obtain ⟨y, r, hd⟩ : ∃ y r, s.drop a = y :: r := by
            cases hc : s.drop a with
            | nil => rw [List.drop_eq_nil_iff] at hc; omega
            | cons y r => exact ⟨y, r, rfl⟩
          have hd' := (drop_cons_lt hd).2.2
          have hrl : r.length = s.length - (a + 1) := by rw [← hd', List.length_drop]
          rw [hd, toks] at hfin
          refine LoopP.step ?_
          simp only [S.lex_Tokens_l2, anilck, afaddr, Do_of, Nat.zero_add, hsc.l1, alen_str, abin_lss, Gd_true]
          rw [if_pos (by simp only [decide_eq_true_eq]; omega)]
          refine lex_next_spec hT hnum hidx hsc hd hl (by omega) (by omega) (by omega) fun H3 => ?_
          by_cases h10 : y = 10
          · rw [if_pos h10]
            rw [if_pos h10] at hfin
            intro s3
            simp only [aun_not, Do_of, Bool.not_true, Gd_true, Bool.false_eq_true, if_false]
            refine ih (a + 1) (line + 1) ws H3 (by omega) (by omega) (by omega) (by omega) (by omega) s3 ?_
            rw [hd']; exact hfin
          · rw [if_neg h10]
            rw [if_neg h10] at hfin
            by_cases h32 : y = 32
            · rw [if_pos h32]
              rw [if_pos h32] at hfin
              intro s3
              simp only [aun_not, Do_of, Bool.not_true, Gd_true, Bool.false_eq_true, if_false]
              refine ih (a + 1) line ws H3 (by omega) (by omega) (by omega) (by omega) (by omega) s3 ?_
              rw [hd']; exact hfin
            · rw [if_neg h32]
              rw [if_neg h32] at hfin
              cases hw2 : wordM num (y :: r) with
              | none =>
                rw [hw2] at hfin
                simp only at hfin
                intro s3
                simp only [aun_not, Do_of, Bool.not_false, Gd_true, if_true, anilck, afaddr, Nat.zero_add, s3.l2]
                rw [show abuild [.int .i64 0, .int .i64 0] [(0, 1, .int .i64 line), (1, 1, .int .i64 3)] = some (.agg [.int .i64 line, .int .i64 3]) from rfl]
                simp only [Do_of]
                refine out _ line 3 H3 (keep1 s3) ?_
                rw [hM, hfin]; rfl
              | some k =>
                rw [hw2] at hfin
                obtain ⟨k1, k2⟩ := wordM_pos hw2
                simp only [List.length_cons] at k2
                intro s3
                simp only [aun_not, Do_of, Bool.not_true, Gd_true, Bool.false_eq_true, if_false]
                refine ih (a + k) line _ H3 (by omega) (by omega) (by rw [List.length_append, List.length_singleton]; omega) hl1 (by omega) s3 ?_
                have hdk : s.drop (a + k) = (y :: r).drop k := by rw [← hd, List.drop_drop]
                rw [hdk, hd]
                simp only at hfin
                cases ht : toks num n ((y :: r).drop k) line with
                | error l => rw [ht] at hfin; exact hfin
                | ok r2 => rw [ht] at hfin; simp only at hfin ⊢; rw [hfin]; simp
    refine main s.length 0 1 [] H10 (by omega) (by omega) (by simp) (by omega) (by omega) sc0 ?_
    rw [List.drop_zero]
    cases toks num s.length s 1 with
    | error l => rfl
    | ok r => rfl
end

section
variable {C : Ctx} (hGT : GTok C) (hT : Cl (ACall C) S.tab_Lex) {num : List UInt8 → Bool} (hnum : NumS (ACall C) num) (hidx : IdxS (ACall C))
include hGT hT hnum hidx
theorem Tokens_val (s : List UInt8) : Val (ACall C) K.lex_Tokens [.str s] (lexV (lexM num s)) :=
  Val.of hGT rfl (lexV_froz _) fun Q hQ => ACall.weak (S.cl_lex_Tokens hT (lex_Tokens_spec hT hnum hidx fun v H' hv => by rw [hv]; exact hQ H'))
end
end Rb

/- Law 8: LexBack, LexJoins. -/
set_option linter.unusedVariables false
set_option linter.unusedSimpArgs false
set_option linter.unusedSectionVars false
namespace Rb
open Go

section
variable {num : List UInt8 → Bool}
theorem lexM_err {s : List UInt8} {e : Int × Int} (h : lexM num s = .error e) : e.2 ≠ 0 := by
  unfold lexM at h
  split at h
  · cases h; decide
  · split at h
    · cases h
    · cases h; exact (by decide : (3 : Int) ≠ 0)
theorem lexM_small {s : List UInt8} (h : s.length ≤ 1048576) : lexM num s = match toks num s.length s 1 with | .ok ws => .ok ws | .error l => .error (l, 3) := by
  unfold lexM; rw [if_neg (by omega)]; all_goals (cases toks num s.length s 1 <;> rfl)
theorem lexM_ok {s : List UInt8} {ws : List (List UInt8 × Int)} (h : lexM num s = .ok ws) : toks num s.length s 1 = .ok ws := by
  unfold lexM at h
  split at h
  · cases h
  · split at h
    · rename_i h2; cases h; exact h2
    · cases h
theorem toks_lines : ∀ (n : Nat) (s : List UInt8) (line : Int) (ws : List (List UInt8 × Int)), toks num n s line = .ok ws → ∀ w ∈ ws, line ≤ w.2 ∧ w.2 ≤ line + s.length := by
  intro n
  induction n with
  | zero => intro s line ws h w hw; rw [toks] at h; cases h; cases hw
  | succ n ih =>
    intro s line ws h w hw
    cases s with
    | nil => rw [toks] at h; cases h; cases hw
    | cons x r =>
      rw [toks] at h
      split at h
      · have := ih _ _ _ h w hw
        simp only [List.length_cons]; omega
      · split at h
        · have := ih _ _ _ h w hw
          simp only [List.length_cons]; omega
        · cases hk : wordM num (x :: r) with
          | none => rw [hk] at h; cases h
          | some k =>
            rw [hk] at h
            simp only at h
            cases ht : toks num n ((x :: r).drop k) line with
            | error l => rw [ht] at h; cases h
            | ok a =>
              rw [ht] at h
              cases h
              rcases List.mem_cons.1 hw with rfl | hw
              · exact ⟨Int.le_refl _, by simp only [List.length_cons]; omega⟩
              · have h1 := ih _ _ _ ht w hw
                have h2 : ((x :: r).drop k).length ≤ (x :: r).length := by rw [List.length_drop]; omega
                omega

theorem toks_count : ∀ {n : Nat} {s : List UInt8} {line : Int} {ws : List (List UInt8 × Int)}, toks num n s line = .ok ws → ws.length ≤ s.length := by
  intro n
  induction n with
  | zero => intro s line ws h; rw [toks] at h; cases h; simp
  | succ n ih =>
    intro s line ws h
    cases s with
    | nil => rw [toks] at h; cases h; simp
    | cons x r =>
      rw [toks] at h
      split at h
      · have := ih h
        simp only [List.length_cons]; omega
      · split at h
        · have := ih h
          simp only [List.length_cons]; omega
        · cases hk : wordM num (x :: r) with
          | none => rw [hk] at h; cases h
          | some k =>
            obtain ⟨k1, k2⟩ := wordM_pos hk
            rw [hk] at h
            simp only at h
            cases ht : toks num n ((x :: r).drop k) line with
            | error l => rw [ht] at h; cases h
            | ok a =>
              rw [ht] at h
              cases h
              have h1 := ih ht
              rw [List.length_drop] at h1
              simp only [List.length_cons] at h1 ⊢
              omega

/-- One text, and then another one. -/
theorem joins_law {s t : List UInt8} (h : s.length + t.length ≤ 100000) :
    (match lexM num s, lexM num t with
      | .ok a, .ok b => lexM num (s ++ 10 :: t) = .ok (a ++ b.map fun w => (w.1, w.2 + (1 + nls s)))
      | _, _ => ∃ e, lexM num (s ++ 10 :: t) = .error e) := by
  have hl : (s ++ 10 :: t).length = s.length + 1 + t.length := by rw [List.length_append, List.length_cons]; omega
  rw [lexM_small (s := s) (by omega), lexM_small (s := t) (by omega), lexM_small (s := s ++ 10 :: t) (by omega), hl]
  rw [toks_app t (s.length + 1 + t.length) s 1 (Nat.le_refl _)]
  rw [toks_fuel (s.length + 1 + t.length) s.length s 1 (by omega) (Nat.le_refl _), toks_fuel (s.length + 1 + t.length) t.length t (1 + nls s + 1) (by omega) (Nat.le_refl _)]
  have hs : (1 : Int) + nls s + 1 = 1 + (1 + nls s) := by omega
  rw [hs, toks_shift]
  cases toks num s.length s 1 with
  | error l => exact ⟨_, rfl⟩
  | ok a =>
    cases toks num t.length t 1 with
    | error l => exact ⟨_, rfl⟩
    | ok b => rfl
end

theorem tok_text (H : AH) {ws : List (List UInt8 × Int)} {i : Nat} {w : List UInt8 × Int} (hi : ws[i]? = some w) : aload H 1 false (.fptr (((ws.flatMap tokC).drop (i * 2)).drop 0)) = some (.str w.1) := by
  have hlt := (List.getElem?_eq_some_iff.1 hi).1
  show takeCells _ 0 1 false = _
  rw [List.drop_zero, flatMap_drop tokC_len]
  have hd : ws.drop i = w :: ws.drop (i + 1) := by
    rw [List.drop_eq_getElem_cons hlt]
    rw [List.getElem?_eq_getElem hlt] at hi
    simp at hi
    rw [hi]
  rw [hd, List.flatMap_cons]
  rfl
theorem tok_line (H : AH) {ws : List (List UInt8 × Int)} {i : Nat} {w : List UInt8 × Int} (hi : ws[i]? = some w) : aload H 1 false (.fptr (((ws.flatMap tokC).drop (i * 2)).drop 1)) = some (.int .i64 w.2) := by
  have hlt := (List.getElem?_eq_some_iff.1 hi).1
  show takeCells _ 0 1 false = _
  rw [flatMap_drop tokC_len]
  have hd : ws.drop i = w :: ws.drop (i + 1) := by
    rw [List.drop_eq_getElem_cons hlt]
    rw [List.getElem?_eq_getElem hlt] at hi
    simp at hi
    rw [hi]
  rw [hd, List.flatMap_cons]
  rfl
theorem str_add {s t : List UInt8} (h : s.length + t.length ≤ 9223372036854775807) : abin .add (.str s) (.str t) = some (.str (s ++ t)) := by
  show abinStr .add s t = _
  unfold abinStr
  rw [if_pos h]

section
variable {C : Ctx} (hGT : GTok C) (hT : Cl (ACall C) S.tab_Lex) {num : List UInt8 → Bool} (hnum : NumS (ACall C) num) (hidx : IdxS (ACall C)) (haw : Val (ACall C) K.rabbetlaw08_awake [] (.bool true))
include hGT hT hnum hidx haw

theorem LexBack_spec (hlen : ∀ w, num w = true → ¬ (1 < w.length ∧ w.head? = some 48) → w.length ≤ 20) (s : List UInt8) {H : AH} {Q : Post} (hQ : ∀ H', Q (.bool true) H') : S.rabbetlaw08_LexBack (ACall C) (.str s) H Q := by
  unfold S.rabbetlaw08_LexBack
  refine Tokens_val hGT hT hnum hidx s _ _ ?_
  cases hM : lexM num s with
  | error e =>
    simp only [lexV, aextract, List.getElem?_cons_zero, List.getElem?_cons_succ, Do_of, abox, if_true, DoH_some]
    rw [store_new _ _ _ 2 rfl rfl rfl]
    simp only [Do_of]
    refine haw _ _ ?_
    have l1 : aload (H.push (.row [.int .i64 e.1, .int .i64 e.2])) 1 false (.ptr H.n 1) = some (.int .i64 e.2) := by rw [load_push]; rfl
    simp only [aun_not, Do_of, Bool.not_true, Gd3_false, if_true, afaddr, Nat.zero_add, l1, abin_neq, JoinP_def, S.rabbetlaw08_LexBack_k12, sl_zero, Gd_true]
    rw [if_pos (by simpa using lexM_err hM)]
    exact haw _ _ (hQ _)
  | ok ws =>
    simp only [lexV, aextract, List.getElem?_cons_zero, List.getElem?_cons_succ, Do_of, abox, if_true, DoH_some]
    rw [store_new _ _ _ 2 rfl rfl rfl]
    simp only [Do_of]
    refine haw _ _ ?_
    have l1 : aload (H.push (.row [.int .i64 0, .int .i64 0])) 1 false (.ptr H.n 1) = some (.int .i64 0) := by rw [load_push]; rfl
    simp only [aun_not, Do_of, Bool.not_true, Gd3_false, if_true, afaddr, Nat.zero_add, l1, abin_neq, JoinP_def, S.rabbetlaw08_LexBack_k12, sl_zero, Gd_true]
    rw [if_neg (by decide)]
    simp only [S.rabbetlaw08_LexBack_k11]
    generalize H.push (.row [.int .i64 0, .int .i64 0]) = H1 at *
    have hW := toks_wok hlen _ _ _ _ (lexM_ok hM)
    -- what is read again
    have k8 : JoinP (S.rabbetlaw08_LexBack_k8 (ACall C) (lstA tokC ws) Q) [.str (blanks ((ws.take 2000).map (·.1)))] H1 := by
      simp only [JoinP_def, S.rabbetlaw08_LexBack_k8, sl_zero]
      refine Tokens_val hGT hT hnum hidx _ _ _ ?_
      have hwok : ∀ w ∈ (ws.take 2000).map (·.1), WOK num w := by
        intro w hw
        obtain ⟨v, hv, rfl⟩ := List.mem_map.1 hw
        exact hW v (List.mem_of_mem_take hv)
      have hbl := blanks_len _ hwok
      have hn : ((ws.take 2000).map (·.1)).length ≤ 2000 := by rw [List.length_map, List.length_take]; omega
      have hL : lexM num (blanks ((ws.take 2000).map (·.1))) = .ok (((ws.take 2000).map (·.1)).map fun w => (w, 1)) := by
        rw [lexM_small (by omega), toks_back _ _ _ hwok (Nat.le_refl _)]
      rw [hL]
      simp only [lexV, aextract, List.getElem?_cons_zero, List.getElem?_cons_succ, Do_of, abox, if_true, DoH_some]
      rw [store_new _ _ _ 2 rfl rfl rfl]
      simp only [Do_of, lstA_len', abin_gtr, Gd_true]
      generalize hV : (((ws.take 2000).map (·.1)).map fun w => (w, (1 : Int))) = vs
      have hvl : vs.length = min 2000 ws.length := by rw [← hV, List.length_map, List.length_map, List.length_take]
      have l2 : aload (H1.push (.row [.int .i64 0, .int .i64 0])) 1 false (.ptr H1.n 1) = some (.int .i64 0) := by rw [load_push]; rfl
      have k7 : ∀ n : Nat, n = min 2000 ws.length → JoinP (S.rabbetlaw08_LexBack_k7 (ACall C) (lstA tokC ws) (lstA tokC vs) (.ptr H1.n 0) Q) [.int .i64 n] (H1.push (.row [.int .i64 0, .int .i64 0])) := by
        intro n hnn
        simp only [JoinP_def, S.rabbetlaw08_LexBack_k7, afaddr, Nat.zero_add, Do_of, l2, abin_neq, Gd3_false, sl_zero]
        rw [if_pos (by decide)]
        simp only [lstA_len', Do_of, abin_neq, S.rabbetlaw08_LexBack_k6, sl_zero, Gd_true]
        rw [if_neg (by rw [hvl, hnn]; simp)]
        simp only [JoinP_def, S.rabbetlaw08_LexBack_k5]
        generalize H1.push (.row [.int .i64 0, .int .i64 0]) = H2 at *
        have main : ∀ (d i : Nat), i + d = n → LoopP (S.rabbetlaw08_LexBack_l4 (ACall C) (lstA tokC ws) (lstA tokC vs) [.int .i64 n] Q) ([.int .i64 i], H2) := by
          intro d
          induction d with
          | zero =>
            intro i hi
            refine LoopP.step ?_
            simp only [S.rabbetlaw08_LexBack_l4, sl_zero, abin_lss, Do_of, Gd_true]
            rw [if_neg (by simp only [decide_eq_true_eq]; omega)]
            exact hQ H2
          | succ d ih =>
            intro i hi
            have h1 : i < vs.length := by omega
            have h2 : i < ws.length := by omega
            obtain ⟨w, hw⟩ : ∃ w, ws[i]? = some w := ⟨_, List.getElem?_eq_getElem h2⟩
            have hv : vs[i]? = some (w.1, 1) := by
              rw [← hV, List.getElem?_map, List.getElem?_map, List.getElem?_take, if_pos (by omega), hw]; rfl
            refine LoopP.step ?_
            simp only [S.rabbetlaw08_LexBack_l4, sl_zero, abin_lss, Do_of, Gd_true]
            rw [if_pos (by simp only [decide_eq_true_eq]; omega), lstA_addr h1, lstA_addr h2]
            simp only [Do_of, elA, afaddr, tok_text H2 hv, tok_text H2 hw, tok_line H2 hv, str_neq, beq_self_eq_true, Bool.not_true, Gd3_false, if_true, abin_neq, bne_self_eq_false, JoinP_def, S.rabbetlaw08_LexBack_k3, sl_zero, Gd_true, Bool.false_eq_true, if_false, S.rabbetlaw08_LexBack_k2, abin_add]
            rw [wrap_i64 (by omega) (by omega), show ((i : Int) + 1) = ((i + 1 : Nat) : Int) by simp]
            exact ih (i + 1) (by omega)
        exact main n 0 (by omega)
      refine ite_both (fun h => ?_) (fun h => ?_)
      · have h' : 2000 < ws.length := by simp only [decide_eq_true_eq] at h; omega
        exact k7 2000 (by omega)
      · have h' : ¬ 2000 < ws.length := by simp only [decide_eq_true_eq] at h; omega
        exact k7 ws.length (by omega)
    have main : ∀ (d i : Nat), i + d = min 2000 ws.length → LoopP (S.rabbetlaw08_LexBack_l10 (ACall C) (lstA tokC ws) Q) ([.str (blanks ((ws.take i).map (·.1))), .int .i64 i], H1) := by
      intro d
      induction d with
      | zero =>
        intro i hi
        have ht : ws.take i = ws.take 2000 := by
          by_cases h : ws.length ≤ 2000
          · rw [List.take_of_length_le (by omega), List.take_of_length_le h]
          · have : i = 2000 := by omega
            rw [this]
        rw [ht]
        refine LoopP.step ?_
        simp only [S.rabbetlaw08_LexBack_l10, sl_zero, sl_succ, lstA_len', Do_of, abin_lss, Gd3_true]
        refine ite_both (fun h => ?_) (fun h => ?_)
        · have h' : i < ws.length := by simp only [decide_eq_true_eq] at h; omega
          simp only [JoinP_def, S.rabbetlaw08_LexBack_k9, sl_zero, Gd_true]
          rw [if_neg (by simp only [decide_eq_true_eq]; omega)]
          exact k8
        · simp only [JoinP_def, S.rabbetlaw08_LexBack_k9, sl_zero, Gd_true, Bool.false_eq_true, if_false]
          exact k8
      | succ d ih =>
        intro i hi
        have h2 : i < ws.length := by omega
        obtain ⟨w, hw⟩ : ∃ w, ws[i]? = some w := ⟨_, List.getElem?_eq_getElem h2⟩
        have hwok : ∀ v ∈ (ws.take i).map (·.1), WOK num v := by
          intro v hv
          obtain ⟨u, hu, rfl⟩ := List.mem_map.1 hv
          exact hW u (List.mem_of_mem_take hu)
        have hbl := blanks_len _ hwok
        have hw20 := (hW w (List.mem_of_getElem? hw)).2.1
        have hil : ((ws.take i).map (·.1)).length = i := by rw [List.length_map, List.length_take]; omega
        refine LoopP.step ?_
        simp only [S.rabbetlaw08_LexBack_l10, sl_zero, sl_succ, lstA_len', Do_of, abin_lss, Gd3_true]
        rw [if_pos (by simp only [decide_eq_true_eq]; omega)]
        simp only [JoinP_def, S.rabbetlaw08_LexBack_k9, sl_zero, Gd_true]
        rw [if_pos (by simp only [decide_eq_true_eq]; omega)]
        simp only [S.rabbetlaw08_LexBack_k1, sl_zero, sl_succ]
        rw [lstA_addr h2]
        simp only [Do_of, elA, afaddr, tok_text H1 hw]
        rw [str_add (by rw [List.length_singleton]; omega)]
        simp only [Do_of]
        rw [str_add (by rw [List.length_append, List.length_singleton]; omega)]
        simp only [Do_of, abin_add]
        rw [wrap_i64 (by omega) (by omega), show ((i : Int) + 1) = ((i + 1 : Nat) : Int) by simp]
        have e : blanks ((ws.take i).map (·.1)) ++ (w.1 ++ [32]) = blanks ((ws.take (i + 1)).map (·.1)) := by
          rw [List.take_add_one, hw, List.map_append]
          simp [blanks]
        rw [e]
        exact ih (i + 1) (by omega)
    exact main (min 2000 ws.length) 0 (by omega)

theorem LexJoins_spec (s t : List UInt8) (hs : s.length ≤ 140737488351232) (ht : t.length ≤ 140737488351232) {H : AH} {Q : Post} (hQ : ∀ H', Q (.bool true) H') : S.rabbetlaw08_LexJoins (ACall C) (.str s) (.str t) H Q := by
  unfold S.rabbetlaw08_LexJoins
  simp only [alen_str, Do_of, abin_add]
  rw [wrap_i64 (by omega) (by omega)]
  simp only [abin_gtr, Do_of, Gd_true]
  refine ite_both (fun h => ?_) (fun h => ?_)
  · exact haw _ _ (hQ _)
  have hl : s.length + t.length ≤ 100000 := by simp only [decide_eq_true_eq] at h; omega
  have law := joins_law (num := num) hl
  -- what a call leaves
  have errC : ∀ (r : Except (Int × Int) (List (List UInt8 × Int))), ∃ (l : List (List UInt8 × Int)) (p q : Int), lexV r = .tup [lstA tokC l, .agg [.int .i64 p, .int .i64 q]] ∧ (∀ ws, r = .ok ws → l = ws ∧ p = 0 ∧ q = 0) := by
    intro r
    cases r with
    | ok ws => exact ⟨ws, 0, 0, rfl, fun w h => by cases h; exact ⟨rfl, rfl, rfl⟩⟩
    | error e => exact ⟨[], e.1, e.2, rfl, fun w h => by cases h⟩
  refine Tokens_val hGT hT hnum hidx s _ _ ?_
  cases hA : lexM num s with
  | error e =>
    rw [hA] at law
    obtain ⟨e3, hG⟩ := law
    simp only [lexV, aextract, List.getElem?_cons_zero, List.getElem?_cons_succ, Do_of, abox, if_true, DoH_some]
    rw [store_new _ _ _ 2 rfl rfl rfl]
    simp only [Do_of]
    have at11 := At.new H (.row [.int .i64 e.1, .int .i64 e.2])
    generalize H.push (.row [.int .i64 e.1, .int .i64 e.2]) = H1 at *
    generalize H.n = id11 at *
    refine Tokens_val hGT hT hnum hidx t _ _ ?_
    obtain ⟨l, p, q, hV, _⟩ := errC (lexM num t)
    rw [hV]
    simp only [aextract, List.getElem?_cons_zero, List.getElem?_cons_succ, Do_of, DoH_some]
    rw [store_new _ _ _ 2 rfl rfl rfl]
    simp only [Do_of]
    rw [str_add (by simp; omega)]
    simp only [Do_of]
    rw [str_add (by rw [List.length_append]; simp; omega)]
    simp only [Do_of]
    have b11 := at11.push (.row [.int .i64 p, .int .i64 q])
    generalize H1.push (.row [.int .i64 p, .int .i64 q]) = H2 at *
    generalize H1.n = id18 at *
    rw [show s ++ [10] ++ t = s ++ 10 :: t by simp]
    refine Tokens_val hGT hT hnum hidx _ _ _ ?_
    rw [hG]
    simp only [lexV, aextract, List.getElem?_cons_zero, List.getElem?_cons_succ, Do_of, DoH_some]
    rw [store_new _ _ _ 2 rfl rfl rfl]
    have at27 := At.new H2 (.row [.int .i64 e3.1, .int .i64 e3.2])
    have c11 := b11.push (.row [.int .i64 e3.1, .int .i64 e3.2])
    generalize H2.push (.row [.int .i64 e3.1, .int .i64 e3.2]) = H3 at *
    generalize H2.n = id27 at *
    have m1 : aload H3 1 false (.ptr id11 1) = some (.int .i64 e.2) := by rw [c11.load]; rfl
    have m3 : aload H3 1 false (.ptr id27 1) = some (.int .i64 e3.2) := by rw [at27.load]; rfl
    simp only [Do_of, afaddr, Nat.zero_add, m1, abin_neq, Gd3_false]
    rw [if_neg (by simpa using lexM_err hA)]
    simp only [JoinP_def, S.rabbetlaw08_LexJoins_k11, sl_zero, Gd_true, if_true]
    refine haw _ _ ?_
    simp only [Gd3_true, if_true, afaddr, Nat.zero_add, m3, Do_of, abin_neq]
    have : (e3.2 != 0) = true := by simpa using lexM_err hG
    rw [this]; exact hQ _
  | ok a =>
    simp only [lexV, aextract, List.getElem?_cons_zero, List.getElem?_cons_succ, Do_of, abox, if_true, DoH_some]
    rw [store_new _ _ _ 2 rfl rfl rfl]
    simp only [Do_of]
    have at11 := At.new H (.row [.int .i64 0, .int .i64 0])
    generalize H.push (.row [.int .i64 0, .int .i64 0]) = H1 at *
    generalize H.n = id11 at *
    refine Tokens_val hGT hT hnum hidx t _ _ ?_
    rw [hA] at law
    cases hB : lexM num t with
    | error e =>
      rw [hB] at law
      obtain ⟨e3, hG⟩ := law
      simp only [lexV, aextract, List.getElem?_cons_zero, List.getElem?_cons_succ, Do_of, DoH_some]
      rw [store_new _ _ _ 2 rfl rfl rfl]
      simp only [Do_of]
      rw [str_add (by simp; omega)]
      simp only [Do_of]
      rw [str_add (by rw [List.length_append]; simp; omega)]
      simp only [Do_of]
      have b11 := at11.push (.row [.int .i64 e.1, .int .i64 e.2])
      have at18 := At.new H1 (.row [.int .i64 e.1, .int .i64 e.2])
      generalize H1.push (.row [.int .i64 e.1, .int .i64 e.2]) = H2 at *
      generalize H1.n = id18 at *
      rw [show s ++ [10] ++ t = s ++ 10 :: t by simp]
      refine Tokens_val hGT hT hnum hidx _ _ _ ?_
      rw [hG]
      simp only [lexV, aextract, List.getElem?_cons_zero, List.getElem?_cons_succ, Do_of, DoH_some]
      rw [store_new _ _ _ 2 rfl rfl rfl]
      have at27 := At.new H2 (.row [.int .i64 e3.1, .int .i64 e3.2])
      have c11 := b11.push (.row [.int .i64 e3.1, .int .i64 e3.2])
      have c18 := at18.push (.row [.int .i64 e3.1, .int .i64 e3.2])
      generalize H2.push (.row [.int .i64 e3.1, .int .i64 e3.2]) = H3 at *
      generalize H2.n = id27 at *
      have m1 : aload H3 1 false (.ptr id11 1) = some (.int .i64 0) := by rw [c11.load]; rfl
      have m2 : aload H3 1 false (.ptr id18 1) = some (.int .i64 e.2) := by rw [c18.load]; rfl
      have m3 : aload H3 1 false (.ptr id27 1) = some (.int .i64 e3.2) := by rw [at27.load]; rfl
      simp only [Do_of, afaddr, Nat.zero_add, m1, m2, abin_neq, Gd3_false]
      rw [if_pos (by decide)]
      have he : (e.2 != 0) = true := by simpa using lexM_err hB
      simp only [JoinP_def, S.rabbetlaw08_LexJoins_k11, sl_zero, Gd_true, he, if_true]
      refine haw _ _ ?_
      simp only [Gd3_true, if_true, afaddr, Nat.zero_add, m3, Do_of, abin_neq]
      have : (e3.2 != 0) = true := by simpa using lexM_err hG
      rw [this]; exact hQ _
    | ok b =>
      rw [hB] at law
      simp only [lexV, aextract, List.getElem?_cons_zero, List.getElem?_cons_succ, Do_of, DoH_some]
      rw [store_new _ _ _ 2 rfl rfl rfl]
      simp only [Do_of]
      rw [str_add (by simp; omega)]
      simp only [Do_of]
      rw [str_add (by rw [List.length_append]; simp; omega)]
      simp only [Do_of]
      have b11 := at11.push (.row [.int .i64 0, .int .i64 0])
      have at18 := At.new H1 (.row [.int .i64 0, .int .i64 0])
      generalize H1.push (.row [.int .i64 0, .int .i64 0]) = H2 at *
      generalize H1.n = id18 at *
      rw [show s ++ [10] ++ t = s ++ 10 :: t by simp]
      refine Tokens_val hGT hT hnum hidx _ _ _ ?_
      rw [law]
      simp only [lexV, aextract, List.getElem?_cons_zero, List.getElem?_cons_succ, Do_of, DoH_some]
      rw [store_new _ _ _ 2 rfl rfl rfl]
      have at27 := At.new H2 (.row [.int .i64 0, .int .i64 0])
      have c11 := b11.push (.row [.int .i64 0, .int .i64 0])
      have c18 := at18.push (.row [.int .i64 0, .int .i64 0])
      generalize H2.push (.row [.int .i64 0, .int .i64 0]) = H3 at *
      generalize H2.n = id27 at *
      have m1 : aload H3 1 false (.ptr id11 1) = some (.int .i64 0) := by rw [c11.load]; rfl
      have m2 : aload H3 1 false (.ptr id18 1) = some (.int .i64 0) := by rw [c18.load]; rfl
      have m3 : aload H3 1 false (.ptr id27 1) = some (.int .i64 0) := by rw [at27.load]; rfl
      simp only [Do_of, afaddr, Nat.zero_add, m1, m2, abin_neq, Gd3_false]
      rw [if_pos (by decide)]
      simp only [JoinP_def, S.rabbetlaw08_LexJoins_k11, sl_zero, Gd_true]
      rw [if_neg (by decide)]
      simp only [S.rabbetlaw08_LexJoins_k10]
      generalize hall : (a ++ b.map fun w => (w.1, w.2 + (1 + nls s))) = all
      have hlen : all.length = a.length + b.length := by rw [← hall, List.length_append, List.length_map]
      have hbl := toks_lines _ _ _ _ (lexM_ok hB)
      have hnl : 0 ≤ nls s ∧ nls s ≤ s.length := by
        unfold nls
        have := List.countP_le_length (p := (· == (10 : UInt8))) (l := s)
        omega
      -- word by word
      have k8 : JoinP (S.rabbetlaw08_LexJoins_k8 (ACall C) (lstA tokC a) (lstA tokC b) (lstA tokC all) (.ptr id27 0) Q) [.int .i64 (1 + nls s)] H3 := by
        have hal : a.length ≤ s.length ∧ b.length ≤ t.length := ⟨toks_count (lexM_ok hA), toks_count (lexM_ok hB)⟩
        simp only [JoinP_def, S.rabbetlaw08_LexJoins_k8, afaddr, Nat.zero_add, m3, Do_of, abin_neq, Gd3_false]
        rw [if_pos (by decide)]
        simp only [lstA_len', Do_of, abin_add]
        rw [wrap_i64 (by omega) (by omega)]
        simp only [abin_neq, Do_of, S.rabbetlaw08_LexJoins_k7, sl_zero, Gd_true]
        rw [if_neg (by rw [hlen]; simp)]
        simp only [JoinP_def, S.rabbetlaw08_LexJoins_k6]
        have main : ∀ (d i : Nat) (H4 : AH), i + d = all.length → LoopP (S.rabbetlaw08_LexJoins_l5 (ACall C) (lstA tokC a) (lstA tokC b) (lstA tokC all) [.int .i64 (1 + nls s)] Q) ([.int .i64 i], H4) := by
          intro d
          induction d with
          | zero =>
            intro i H4 hi
            refine LoopP.step ?_
            simp only [S.rabbetlaw08_LexJoins_l5, sl_zero, lstA_len', Do_of, abin_lss, Gd_true]
            rw [if_neg (by simp only [decide_eq_true_eq]; omega)]
            simp only [JoinP_def, S.rabbetlaw08_LexJoins_k4]
            exact haw _ _ (hQ _)
          | succ d ih =>
            intro i H4 hi
            have hlt : i < all.length := by omega
            refine LoopP.step ?_
            simp only [S.rabbetlaw08_LexJoins_l5, sl_zero, lstA_len', Do_of, abin_lss, Gd_true]
            rw [if_pos (by simp only [decide_eq_true_eq]; omega)]
            rw [show abuild [.str [], .int .i64 0] [] = some (.agg [.str [], .int .i64 0]) from rfl]
            simp only [Do_of, abox, if_true, DoH_some]
            rw [store_new _ _ _ 2 rfl rfl rfl]
            simp only [Do_of]
            have at78 := At.new H4 (.row [.str [], .int .i64 0])
            generalize H4.push (.row [.str [], .int .i64 0]) = H5 at *
            generalize H4.n = id78 at *
            have k3 : ∀ (w : List UInt8 × Int) (H6 : AH), all[i]? = some w → At H6 id78 (.row (tokC w)) → JoinP (S.rabbetlaw08_LexJoins_k3 (ACall C) (lstA tokC all) (.ptr id78 0) ([.int .i64 i], H4) (LoopP (S.rabbetlaw08_LexJoins_l5 (ACall C) (lstA tokC a) (lstA tokC b) (lstA tokC all) [.int .i64 (1 + nls s)] Q)) Q) [] H6 := by
              intro w H6 hw ha
              simp only [JoinP_def, S.rabbetlaw08_LexJoins_k3, sl_zero]
              rw [lstA_addr hlt]
              simp only [Do_of]
              rw [elA_load tokC_len (by decide) _ hw]
              simp only [Do_of]
              rw [ha.load, takeCells_whole (tokC_len w)]
              simp only [Do_of]
              have he : aeqAgg true [.t, .n] (.agg (tokC w)) (.agg (tokC w)) = some (.bool false) := by simp [aeqAgg, eqCells, tokC]
              rw [he]
              simp only [Do_of, Gd_true, Bool.false_eq_true, if_false, S.rabbetlaw08_LexJoins_k2, sl_zero, abin_add]
              rw [wrap_i64 (by omega) (by omega), show ((i : Int) + 1) = ((i + 1 : Nat) : Int) by simp]
              exact ih (i + 1) H6 (by omega)
            refine ite_both (fun hia => ?_) (fun hia => ?_)
            · have hia' : i < a.length := by simp only [decide_eq_true_eq] at hia; omega
              obtain ⟨w, hw⟩ : ∃ w, a[i]? = some w := ⟨_, List.getElem?_eq_getElem hia'⟩
              rw [lstA_addr hia']
              simp only [Do_of]
              rw [elA_load tokC_len (by decide) _ hw]
              simp only [Do_of]
              rw [at78.store, if_pos ⟨rfl, rfl, rfl, by simp⟩]
              simp only [Do_of]
              refine k3 w _ ?_ (at78.set _)
              rw [← hall, List.getElem?_append_left hia']; exact hw
            · have hia' : a.length ≤ i := by simp only [decide_eq_true_eq] at hia; omega
              have hib : i - a.length < b.length := by omega
              obtain ⟨w, hw⟩ : ∃ w, b[i - a.length]? = some w := ⟨_, List.getElem?_eq_getElem hib⟩
              have hwl := hbl w (List.mem_of_getElem? hw)
              simp only [abin_sub, Do_of]
              rw [wrap_i64 (by omega) (by omega), show ((i : Int) - a.length) = ((i - a.length : Nat) : Int) by omega, lstA_addr hib]
              simp only [Do_of]
              rw [elA_load tokC_len (by decide) _ hw]
              simp only [Do_of]
              rw [at78.store, if_pos ⟨rfl, rfl, rfl, by simp⟩]
              simp only [Do_of]
              have e1 : setCells [AV.str [], .int .i64 0] 0 (AV.agg (tokC w)).cells = tokC w := rfl
              rw [e1]
              have a2 := at78.set (.row (tokC w))
              generalize H5.set id78 (.row (tokC w)) = H6 at *
              simp only [afaddr, Nat.zero_add, Do_of]
              rw [a2.load, show takeCells (tokC w) 1 1 false = some (.int .i64 w.2) from rfl]
              simp only [Do_of, abin_add]
              rw [wrap_i64 (by omega) (by omega), a2.store, if_pos ⟨rfl, rfl, rfl, by simp [tokC]⟩]
              simp only [Do_of]
              refine k3 (w.1, w.2 + (1 + nls s)) _ ?_ (a2.set _)
              rw [← hall, List.getElem?_append_right hia', List.getElem?_map, hw]; rfl
        exact main all.length 0 H3 (by omega)
      have main : ∀ (r : List UInt8) (i : Nat), s.drop i = r → LoopP (S.rabbetlaw08_LexJoins_l9 (ACall C) (.str s) (lstA tokC a) (lstA tokC b) (lstA tokC all) (.ptr id27 0) Q) ([.int .i64 (1 + nls (s.take i)), .int .i64 i], H3) := by
        intro r
        induction r with
        | nil =>
          intro i hd
          have hle := drop_nil_le hd
          rw [List.take_of_length_le hle]
          refine LoopP.step ?_
          simp only [S.rabbetlaw08_LexJoins_l9, sl_zero, sl_succ, alen_str, Do_of, abin_lss, Gd_true]
          rw [if_neg (by simp only [decide_eq_true_eq]; omega)]
          exact k8
        | cons y r ih =>
          intro i hd
          obtain ⟨hlt, hy, hd'⟩ := drop_cons_lt hd
          have hx : aidxs (.str s) (.int .i64 i) = some (.int .u8 y.toNat) := by
            simp only [aidxs]; rw [if_pos (by omega)]; simp [hy]
          have hnt : 0 ≤ nls (s.take i) ∧ nls (s.take i) ≤ 100000 := by
            unfold nls
            have := List.countP_le_length (p := (· == (10 : UInt8))) (l := s.take i)
            rw [List.length_take] at this
            omega
          have htk : nls (s.take (i + 1)) = nls (s.take i) + (if y = 10 then 1 else 0) := by
            unfold nls
            rw [List.take_add_one, hy, List.countP_append]
            by_cases h : y = 10
            · simp [h]
            · simp [h]
          refine LoopP.step ?_
          simp only [S.rabbetlaw08_LexJoins_l9, sl_zero, sl_succ, alen_str, Do_of, abin_lss, Gd_true]
          rw [if_pos (by simp only [decide_eq_true_eq]; omega), hx]
          simp only [Do_of, abin_eql, Gd_true]
          have next : ∀ z : Int, z = 1 + nls (s.take (i + 1)) → JoinP (S.rabbetlaw08_LexJoins_k1 (ACall C) ([.int .i64 (1 + nls (s.take i)), .int .i64 i], H3) (LoopP (S.rabbetlaw08_LexJoins_l9 (ACall C) (.str s) (lstA tokC a) (lstA tokC b) (lstA tokC all) (.ptr id27 0) Q)) Q) [.int .i64 z] H3 := by
            intro z hz
            simp only [JoinP_def, S.rabbetlaw08_LexJoins_k1, sl_zero, sl_succ, abin_add, Do_of]
            rw [wrap_i64 (by omega) (by omega), show ((i : Int) + 1) = ((i + 1 : Nat) : Int) by simp, hz]
            exact ih (i + 1) hd'
          have hy10 : ((y.toNat : Int) == 10) = true ↔ y = 10 := by
            simp only [beq_iff_eq]
            constructor
            · intro e
              apply UInt8.toNat_inj.1
              show y.toNat = 10
              omega
            · rintro rfl; rfl
          refine ite_both (fun h => ?_) (fun h => ?_)
          · simp only [abin_add, Do_of]
            rw [wrap_i64 (by omega) (by omega)]
            refine next _ ?_
            rw [htk, if_pos (hy10.1 h)]; omega
          · refine next _ ?_
            rw [htk, if_neg fun e => h (hy10.2 e)]; omega
      have := main s 0 rfl
      simpa [nls] using this
end
end Rb

/- Numbers in digits: how long they may be; where a byte stands. -/
set_option linter.unusedVariables false
set_option linter.unusedSimpArgs false
namespace Rb
open Go

/-- Is a text a number of 64 bits? -/
def numX (w : List UInt8) : Bool := match Go.Lib.parseUintB 64 w with
  | .ok _ => true
  | _ => false
theorem parseM_len : ∀ (l : List UInt8) (acc k v : Nat), 10 ^ k ≤ acc → acc ≤ 18446744073709551615 → Go.Lib.parseUintM 18446744073709551615 acc l = .ok v → l.length + k ≤ 19
  | [], acc, k, v, h1, h2, _ => by
    simp only [List.length_nil, Nat.zero_add]
    by_cases hk : k ≤ 19
    · exact hk
    · have : 10 ^ 20 ≤ 10 ^ k := Nat.pow_le_pow_right (by omega) (by omega)
      omega
  | c :: r, acc, k, v, h1, h2, h => by
    unfold Go.Lib.parseUintM at h
    split at h
    · split at h
      · cases h
      · rename_i hc hacc
        split at h
        · cases h
        · rename_i hm
          have h3 : 10 ^ (k + 1) ≤ acc * 10 + (c.toNat - 48) := by rw [Nat.pow_succ]; omega
          have := parseM_len r _ (k + 1) v h3 (by omega) h
          simp only [List.length_cons]
          omega
    · cases h
theorem numX_len (w : List UInt8) (h : numX w = true) (h0 : ¬ (1 < w.length ∧ w.head? = some 48)) : w.length ≤ 20 := by
  unfold numX Go.Lib.parseUintB at h
  split at h
  · rename_i v hv
    split at hv
    · cases hv
    · cases w with
      | nil => simp
      | cons c r =>
        by_cases hr : r = []
        · subst hr; simp
        · have hc : c ≠ 48 := by
            intro e
            subst e
            refine h0 ⟨?_, rfl⟩
            cases r with
            | nil => exact absurd rfl hr
            | cons _ _ => simp
          unfold Go.Lib.parseUintM at hv
          split at hv
          · rename_i hd
            split at hv
            · cases hv
            · split at hv
              · cases hv
              · have hcn : c.toNat ≠ 48 := fun e => hc (UInt8.toNat_inj.1 e)
                have := parseM_len r _ 0 v (by simp; omega) (by omega) hv
                simp only [List.length_cons]
                omega
          · cases hv
  · cases h
theorem indexByte_neg : ∀ (l : List UInt8) (c : UInt8), -1 ≤ Go.Lib.indexByte l c ∧ (Go.Lib.indexByte l c < 0 ↔ l.contains c = false)
  | [], c => by simp [Go.Lib.indexByte]
  | b :: l, c => by
    obtain ⟨h1, h2⟩ := indexByte_neg l c
    unfold Go.Lib.indexByte
    rw [List.contains_cons]
    by_cases hb : (b == c) = true
    · rw [if_pos hb]
      have : (c == b) = true := by rw [beq_iff_eq] at hb ⊢; exact hb.symm
      rw [this]; simp
    · rw [if_neg hb]
      have hcb : (c == b) = false := by
        simp only [Bool.not_eq_true, beq_eq_false_iff_ne, ne_eq] at hb ⊢
        exact fun e => hb e.symm
      rw [hcb, Bool.false_or, ← h2]
      split
      · rename_i he
        have : Go.Lib.indexByte l c = -1 := by simpa using he
        rw [this]; decide
      · rename_i he
        have : Go.Lib.indexByte l c ≠ -1 := by simpa using he
        omega
end Rb

/- A call that leaves all that was there: the relation to the world stands. -/
set_option linter.unusedVariables false
set_option linter.unusedSimpArgs false
namespace Rb
open Go Go.RowKit

theorem cell_lt {w : World} {b o : Nat} {V : Value} (h : w.cell? ⟨b, o, none⟩ = some V) : b < w.heap.size := by
  unfold World.cell? at h
  split at h
  · rename_i hb
    exact (Array.getElem?_eq_some_iff.1 hb).1
  · cases h
theorem gle_below {w w' : World} {G : Ghost} (hb : Below w.heap.size w w') : GLe w G w' G :=
  ⟨Nat.le_refl _, fun _ _ => rfl, fun _ _ => rfl, fun _ _ h => h, fun b o V _ hc => by rw [hb.cell (p := ⟨b, o, none⟩) (cell_lt hc)]; exact hc⟩
theorem obj_below {F : FTab} {w w' : World} {G : Ghost} (hb : Below w.heap.size w w') {i : Nat} {x : AObj} (h : ObjR F w G i x) : ObjR F w' G i x := by
  have hg := gle_below (G := G) hb
  cases x with
  | row cs =>
    obtain ⟨c, e, h1, h2, h3, h4⟩ := h
    refine ⟨c, e, by rw [hb.block _ (Array.getElem?_eq_some_iff.1 h1).1]; exact h1, h2, h3, fun j c hj => ?_⟩
    obtain ⟨V, h5, h6⟩ := h4 j c hj
    exact ⟨V, h5, h6.mono hg⟩
  | tok k sz =>
    obtain ⟨c, e, h1, h2, h3, h4⟩ := h
    exact ⟨c, e, by rw [hb.block _ (Array.getElem?_eq_some_iff.1 h1).1]; exact h1, h2, h3, h4⟩
  | map es =>
    obtain ⟨c, e, h1, h2, h3, h4⟩ := h
    refine ⟨c, e, by rw [hb.block _ (Array.getElem?_eq_some_iff.1 h1).1]; exact h1, h2, h3, fun j k v hj => ?_⟩
    obtain ⟨m, h5, h6, h7⟩ := h4 j k v hj
    exact ⟨m, h5, h6.mono hg, h7.mono hg⟩
  | siter s pos =>
    obtain ⟨h1, h2⟩ := h
    exact ⟨by rw [hb.block _ (Array.getElem?_eq_some_iff.1 h1).1]; exact h1, h2⟩
  | gone => trivial
theorem obj_lt {F : FTab} {w : World} {G : Ghost} {i : Nat} {x : AObj} (h : ObjR F w G i x) (hl : x.live = true) : G.loc i < w.heap.size := by
  cases x with
  | row cs => obtain ⟨c, e, h1, _⟩ := h; exact (Array.getElem?_eq_some_iff.1 h1).1
  | tok k sz => obtain ⟨c, e, h1, _⟩ := h; exact (Array.getElem?_eq_some_iff.1 h1).1
  | map es => obtain ⟨c, e, h1, _⟩ := h; exact (Array.getElem?_eq_some_iff.1 h1).1
  | siter s pos => exact (Array.getElem?_eq_some_iff.1 h.1).1
  | gone => cases hl
theorem rel_below {F : FTab} {w w' : World} {G : Ghost} {H : AH} (hb : Below w.heap.size w w') (h : Rel F w G H) : Rel F w' G H :=
  ⟨h.n, h.over, fun i => obj_below hb (h.obj i), h.dist, fun b o hf => by
    obtain ⟨V, hV⟩ := h.fzc b o hf
    exact ⟨V, by rw [hb.cell (p := ⟨b, o, none⟩) (cell_lt hV)]; exact hV⟩⟩
theorem step_below {F : FTab} {w w' : World} {G : Ghost} {H : AH} (hb : Below w.heap.size w w') (h : Rel F w G H) : Step w G H w' G H :=
  { gle_below hb with
    size := hb.size
    os := hb.os
    tape := hb.tape
    output := hb.output
    old := fun k hk _ => hb.block k hk
    owned := fun i hl _ => ⟨i, hl, rfl⟩
    fznew := fun _ _ hf => .inl hf }
end Rb

/- The scanner's calls into the library: numbers, bytes. -/
set_option linter.unusedVariables false
set_option linter.unusedSimpArgs false
namespace Go.Proofs.YtpmpckhgkhiebaaDoor.rb
open Rb Go.Shelf Go.RowKit

def laysPu14_ren : Go.Shelf.Ren := ⟨fun | 14 => 19 | 16 => 25 | 17 => 26 | 19 => 30 | 20 => 31 | 21 => 32 | 22 => 33 | 23 => 34 | 24 => 35 | 25 => 39 | 27 => 41 | 26 => 40 | 28 => 42 | 29 => 43 | 30 => 44 | 31 => 45 | 32 => 46 | 33 => 47 | 35 => 49 | 34 => 48 | 36 => 50 | 37 => 51 | 38 => 52 | 39 => 53 | 40 => 54 | n => n, fun | 9 => 9 | 3 => 3 | 22 => 42 | 24 => 44 | 25 => 45 | 4 => 4 | 34 => 60 | 5 => 5 | 36 => 62 | 37 => 63 | 0 => 0 | 39 => 64 | 21 => 21 | 44 => 80 | 47 => 85 | 50 => 88 | 48 => 86 | 2 => 2 | 52 => 90 | 55 => 93 | 59 => 97 | 60 => 57 | 20 => 20 | 61 => 98 | 65 => 102 | 66 => 103 | 67 => 104 | n => n, fun | 0 => 2 | 1 => 3 | 2 => 5 | 3 => 6 | 4 => 7 | n => n⟩
theorem laysPu14 : Go.Proofs.LaysPu.n14 Tryd.prog laysPu14_ren := {
  mixed := by kernel_rfl
  f14 := Tryd.func19.trans (congrArg some (by kernel_rfl))
  f16 := Tryd.func25.trans (congrArg some (by kernel_rfl))
  f17 := Tryd.func26.trans (congrArg some (by kernel_rfl))
  f19 := Tryd.func30.trans (congrArg some (by kernel_rfl))
  f20 := Tryd.func31.trans (congrArg some (by kernel_rfl))
  f21 := Tryd.func32.trans (congrArg some (by kernel_rfl))
  f22 := Tryd.func33.trans (congrArg some (by kernel_rfl))
  f23 := Tryd.func34.trans (congrArg some (by kernel_rfl))
  f24 := Tryd.func35.trans (congrArg some (by kernel_rfl))
  f25 := Tryd.func39.trans (congrArg some (by kernel_rfl))
  f26 := Tryd.func40.trans (congrArg some (by kernel_rfl))
  f27 := Tryd.func41.trans (congrArg some (by kernel_rfl))
  f28 := Tryd.func42.trans (congrArg some (by kernel_rfl))
  f29 := Tryd.func43.trans (congrArg some (by kernel_rfl))
  f30 := Tryd.func44.trans (congrArg some (by kernel_rfl))
  f31 := Tryd.func45.trans (congrArg some (by kernel_rfl))
  f32 := Tryd.func46.trans (congrArg some (by kernel_rfl))
  f33 := Tryd.func47.trans (congrArg some (by kernel_rfl))
  f34 := Tryd.func48.trans (congrArg some (by kernel_rfl))
  f35 := Tryd.func49.trans (congrArg some (by kernel_rfl))
  f36 := Tryd.func50.trans (congrArg some (by kernel_rfl))
  f37 := Tryd.func51.trans (congrArg some (by kernel_rfl))
  f38 := Tryd.func52.trans (congrArg some (by kernel_rfl))
  f39 := Tryd.func53.trans (congrArg some (by kernel_rfl))
  f40 := Tryd.func54.trans (congrArg some (by kernel_rfl))
  t0 := Tryd.underlying0
  a0 := Tryd.isAgg0
  z0 := Tryd.sizeOf0
  v0 := Tryd.zeroValue0
  i0 := by kernel_rfl
  t2 := Tryd.underlying2
  a2 := Tryd.isAgg2
  z2 := Tryd.sizeOf2
  v2 := Tryd.zeroValue2
  i2 := by kernel_rfl
  t3 := Tryd.underlying3
  a3 := Tryd.isAgg3
  z3 := Tryd.sizeOf3
  v3 := Tryd.zeroValue3
  i3 := by kernel_rfl
  t4 := Tryd.underlying4
  a4 := Tryd.isAgg4
  z4 := Tryd.sizeOf4
  v4 := Tryd.zeroValue4
  i4 := by kernel_rfl
  t5 := Tryd.underlying5
  a5 := Tryd.isAgg5
  z5 := Tryd.sizeOf5
  v5 := Tryd.zeroValue5
  i5 := by kernel_rfl
  t9 := Tryd.underlying9
  a9 := Tryd.isAgg9
  z9 := Tryd.sizeOf9
  v9 := Tryd.zeroValue9
  i9 := by kernel_rfl
  t20 := Tryd.underlying20
  a20 := Tryd.isAgg20
  z20 := Tryd.sizeOf20
  v20 := Tryd.zeroValue20
  i20 := by kernel_rfl
  t21 := Tryd.underlying21
  a21 := Tryd.isAgg21
  z21 := Tryd.sizeOf21
  v21 := Tryd.zeroValue21
  i21 := by kernel_rfl
  t22 := Tryd.underlying42
  a22 := Tryd.isAgg42
  z22 := Tryd.sizeOf42
  v22 := Tryd.zeroValue42
  i22 := by kernel_rfl
  t24 := Tryd.underlying44
  a24 := Tryd.isAgg44
  z24 := Tryd.sizeOf44
  v24 := Tryd.zeroValue44
  i24 := by kernel_rfl
  t25 := Tryd.underlying45
  a25 := Tryd.isAgg45
  z25 := Tryd.sizeOf45
  v25 := Tryd.zeroValue45
  i25 := by kernel_rfl
  t34 := Tryd.underlying60
  a34 := Tryd.isAgg60
  z34 := Tryd.sizeOf60
  v34 := Tryd.zeroValue60
  i34 := by kernel_rfl
  c34 := by kernel_rfl
  t36 := Tryd.underlying62
  a36 := Tryd.isAgg62
  z36 := Tryd.sizeOf62
  v36 := Tryd.zeroValue62
  i36 := by kernel_rfl
  t37 := Tryd.underlying63
  a37 := Tryd.isAgg63
  z37 := Tryd.sizeOf63
  v37 := Tryd.zeroValue63
  i37 := by kernel_rfl
  t39 := Tryd.underlying64
  a39 := Tryd.isAgg64
  z39 := Tryd.sizeOf64
  v39 := Tryd.zeroValue64
  i39 := by kernel_rfl
  t44 := Tryd.underlying80
  a44 := Tryd.isAgg80
  z44 := Tryd.sizeOf80
  v44 := Tryd.zeroValue80
  i44 := by kernel_rfl
  t47 := Tryd.underlying85
  a47 := Tryd.isAgg85
  z47 := Tryd.sizeOf85
  v47 := Tryd.zeroValue85
  i47 := by kernel_rfl
  t48 := Tryd.underlying86
  a48 := Tryd.isAgg86
  z48 := Tryd.sizeOf86
  v48 := Tryd.zeroValue86
  i48 := by kernel_rfl
  t50 := Tryd.underlying88
  a50 := Tryd.isAgg88
  z50 := Tryd.sizeOf88
  v50 := Tryd.zeroValue88
  i50 := by kernel_rfl
  t52 := Tryd.underlying90
  a52 := Tryd.isAgg90
  z52 := Tryd.sizeOf90
  v52 := Tryd.zeroValue90
  i52 := by kernel_rfl
  t55 := Tryd.underlying93
  a55 := Tryd.isAgg93
  z55 := Tryd.sizeOf93
  v55 := Tryd.zeroValue93
  i55 := by kernel_rfl
  t59 := Tryd.underlying97
  a59 := Tryd.isAgg97
  z59 := Tryd.sizeOf97
  v59 := Tryd.zeroValue97
  i59 := by kernel_rfl
  t60 := Tryd.underlying57
  a60 := Tryd.isAgg57
  z60 := Tryd.sizeOf57
  v60 := Tryd.zeroValue57
  i60 := by kernel_rfl
  t61 := Tryd.underlying98
  a61 := Tryd.isAgg98
  z61 := Tryd.sizeOf98
  t65 := Tryd.underlying102
  a65 := Tryd.isAgg102
  z65 := Tryd.sizeOf102
  v65 := Tryd.zeroValue102
  i65 := by kernel_rfl
  t66 := Tryd.underlying103
  a66 := Tryd.isAgg103
  z66 := Tryd.sizeOf103
  v66 := Tryd.zeroValue103
  i66 := by kernel_rfl
  t67 := Tryd.underlying104
  a67 := Tryd.isAgg104
  z67 := Tryd.sizeOf104
  v67 := Tryd.zeroValue104
  i67 := by kernel_rfl
  g0 := by kernel_rfl
  m0 := by kernel_rfl
  g1 := by kernel_rfl
  m1 := by kernel_rfl
  g2 := by kernel_rfl
  m2 := by kernel_rfl
  g3 := by kernel_rfl
  m3 := by kernel_rfl
  g4 := by kernel_rfl
  m4 := by kernel_rfl }

theorem errCell {W : World} {G : Ghost} (hG : GOK C W G) {g : Nat} (hg : gt g = some [.iface 86 (.fptr [])]) : ∃ V, W.cell? ⟨g, 0, none⟩ = some (.iface 86 V) := by
  have h := hG g _ hg
  cases h with
  | fptr cells b o Vs h hv =>
    have h1 := (h 0 _ rfl).2
    have h2 := hv 0 _ rfl
    rw [Nat.add_zero] at h1
    generalize Vs 0 = V at *
    cases h2
    exact ⟨_, h1⟩
theorem tup2 {F : FTab} {w : World} {G : Ghost} {a b : AV} {A B : Value} (h1 : VR F w G a A) (h2 : VR F w G b B) : VR F w G (.tup [a, b]) (.tuple #[A, B]) := by
  refine .tup _ _ rfl fun j c V hc hV => ?_
  rcases j with _ | _ | j
  · simp at hc hV; subst hc hV; exact h1
  · simp at hc hV; subst hc hV; exact h2
  · simp at hc
theorem numOK : NumS (ACall C) numX := by
  intro w H Q hw h1 h2 f hf G W Vs hG hrel hargs
  obtain rfl : f = 19 := by
    have : C.F K.strconv_ParseUint = some 19 := by kernel_rfl
    rw [this] at hf; exact (Option.some.inj hf).symm
  obtain ⟨hl, hv⟩ := hargs
  obtain ⟨Vl⟩ := Vs
  match Vl, hl with
  | [V0, V1, V2], _ =>
    have e0 := (hv 0 _ V0 rfl rfl).str_inv
    have e1 := (hv 1 _ V1 rfl rfl).int_inv
    have e2 := (hv 2 _ V2 rfl rfl).int_inv
    subst e0 e1 e2
    have hs : (⟨w.toArray⟩ : ByteArray).size ≤ 1048576 := by show w.toArray.size ≤ _; simpa using hw
    have hd : (⟨w.toArray⟩ : ByteArray).data.toList = w := by simp
    obtain ⟨VS, hS⟩ := errCell hG (g := 2) rfl
    obtain ⟨VT, hR⟩ := errCell hG (g := 3) rfl
    cases hp : Go.Lib.parseUintB 64 w
    · rename_i u
      have hb : numX w = true := by simp [numX, hp]
      refine (Any.strconv_ParseUint_10_at64_ok laysPu14 ⟨w.toArray⟩ (by omega) u (by rw [hd]; exact hp) W).mono fun e w' ⟨he, hw'⟩ => ?_
      have hbel : Below W.heap.size W w' := by
        rcases hw' with rfl | rfl
        · exact Below.refl _ _
        · exact Lib.bytesWorld_below _ _ _
      exact ⟨_, _, H, G, he, h1 hb u, tup2 (.int _ _) .nilif, rel_below hbel hrel, step_below hbel hrel⟩
    · have hb : numX w = false := by simp [numX, hp]
      refine (Any.strconv_ParseUint_10_at64_syntax laysPu14 ⟨w.toArray⟩ (by omega) (by rw [hd]; exact hp) _ W hS (.inr ⟨_, _, rfl⟩)).mono fun e w' ⟨N, he, _, _, hbel⟩ => ?_
      exact ⟨_, _, H, G, he, h2 hb _ _, tup2 (.int _ _) (.iface _ _ _ (.bot _)), rel_below hbel hrel, step_below hbel hrel⟩
    · have hb : numX w = false := by simp [numX, hp]
      refine (Any.strconv_ParseUint_10_at64_range laysPu14 ⟨w.toArray⟩ (by omega) (by rw [hd]; exact hp) _ W hR (.inr ⟨_, _, rfl⟩)).mono fun e w' ⟨N, he, _, _, hbel⟩ => ?_
      exact ⟨_, _, H, G, he, h2 hb _ _, tup2 (.int _ _) (.iface _ _ _ (.bot _)), rel_below hbel hrel, step_below hbel hrel⟩
theorem idxOK : IdxS (ACall C) := by
  intro c H Q hQ
  refine indexByte sgn1 c.toNat H Q ?_
  have : ((c.toNat : Int)).toNat.toUInt8 = c := by
    rw [Int.toNat_natCast]
    apply UInt8.toNat_inj.1
    simp
  rw [this]
  exact hQ _ (indexByte_neg sgn1 c).2
end Go.Proofs.YtpmpckhgkhiebaaDoor.rb

/- Law 8: LexBack, LexJoins. -/
set_option linter.unusedVariables false
namespace Go.Proofs.YtpmpckhgkhiebaaDoor.rb
open Rb
theorem awake08 : Val (ACall C) K.rabbetlaw08_awake [] (.bool true) := fun H Q hQ => RbM08_rootok0 K.rabbetlaw08_awake [] (.bool true) rfl H Q hQ
theorem lexBack.any (s : List UInt8) : ACall C K.rabbetlaw08_LexBack [.str s] AH.mt (fun v _ => v = .bool true) :=
  S.cl_rabbetlaw08_LexBack cl_Lex (LexBack_spec gtC cl_Lex numOK idxOK awake08 numX_len s fun _ => rfl)
theorem lexJoins.any (s : List UInt8) (hs : s.length ≤ Go.reachBytes) (t : List UInt8) (ht : t.length ≤ Go.reachBytes) : ACall C K.rabbetlaw08_LexJoins [.str s, .str t] AH.mt (fun v _ => v = .bool true) :=
  S.cl_rabbetlaw08_LexJoins cl_Lex (LexJoins_spec gtC cl_Lex numOK idxOK awake08 s t hs ht fun _ => rfl)
end Go.Proofs.YtpmpckhgkhiebaaDoor.rb

/- A variable that holds an error. -/
set_option linter.unusedVariables false
set_option linter.unusedSimpArgs false
namespace Rb
open Go Go.RowKit
theorem err_ptr {F : FTab} {W : World} {g : Nat} {tp : TypeId} {a : Addr} {x : Value} (hc : W.cell? ⟨g, 0, none⟩ = some (.iface tp (.pointer (some a)))) (ha : W.cell? a = some x) :
    VR F W (Ghost.mt (allFz W)) (.fptr [.iface tp (.fptr [])]) (.pointer (some ⟨g, 0, none⟩)) := by
  have hsp : a.spot = none := by
    unfold World.cell? at ha
    split at ha
    · split at ha
      · cases ha
      · rename_i hn
        cases h : a.spot with
        | none => rfl
        | some _ => rw [h] at hn; simp at hn
    · cases ha
  obtain ⟨b, o, sp⟩ := a
  simp only at hsp
  subst hsp
  refine .fptr _ g 0 (fun _ => .iface tp (.pointer (some ⟨b, o, none⟩))) (fun j c hj => ?_) fun j c hj => ?_
  · cases j with
    | zero => exact ⟨⟨_, hc⟩, hc⟩
    | succ j => simp at hj
  · cases j with
    | zero =>
      simp at hj
      subst hj
      exact .iface _ _ _ (.fptr [] b o (fun _ => x) (fun j c h => by simp at h) fun j c h => by simp at h)
    | succ j => simp at hj
end Rb

/- What all laws of the seat share: the variables that the text of the program lays. By wrap.py. -/
set_option linter.unusedVariables false
namespace Go.Proofs.YtpmpckhgkhiebaaDoor.rb
open Rb Go.ChangeShapes Go.WideShapes Go.ChangeAt Go.RowKit

theorem own : ownKnob Tryd.prog.godebug = none := by kernel_rfl
theorem laidOut : laidOutB Tryd.prog = true := by kernel_rfl
theorem gT : Tryd.prog.globalNamed "strings.asciiSpace" = some 0 := by kernel_rfl
theorem gTType : (Tryd.prog.globals[0]?).map (·.type) = some 50 := by kernel_rfl
theorem cellsU : Tryd.prog.cellsOf 5 = 1 := by kernel_rfl
theorem cellsT : Tryd.prog.cellsOf 50 = 256 := by kernel_rfl
def laidVars : List (String × DataW Unit) := Rows.lexBackRow.laid

theorem tab_eq : (Rows.laid_strings_asciiSpace : DataW Unit) = Go.Lib.tabData .u8 Go.Lib.asciiSpaceTab := by kernel_rfl
theorem tab_mem : (("strings.asciiSpace", Go.Lib.tabData .u8 Go.Lib.asciiSpaceTab) : String × DataW Unit) ∈ laidVars := by
  rw [← tab_eq]; exact .tail _ (.tail _ (.tail _ (.tail _ (.tail _ (.tail _ (.head _))))))
theorem tab_of {W : World} (h : laidMet Tryd.prog laidVars W) : Go.Lib.TabIs Tryd.prog W "strings.asciiSpace" .u8 Go.Lib.asciiSpaceTab := by
  obtain ⟨g', t', cs, fuel, p, hg', ht', hvar, hd⟩ := Go.Lib.laidMet.reads h tab_mem
  obtain rfl := Option.some.inj (gT.symm.trans hg')
  obtain rfl := Option.some.inj (gTType.symm.trans ht')
  unfold Go.Lib.TabIs
  rw [hvar, ← Go.Lib.cells_of_tab Tryd.underlying50 Tryd.underlying5 cellsU cellsT hd]

theorem cellsE : Tryd.prog.cellsOf 88 = 1 := by kernel_rfl
theorem cellsS : Tryd.prog.cellsOf 9 = 1 := by kernel_rfl
theorem rowE (nm : String) (hn : ("*" ++ "errors.errorString" : String) = nm) (u : TypeId) (h : Tryd.prog.typeName? 3 u = some nm) : u = 86 :=
  typeName_ptr_named (nm := "errors.errorString") (by kernel_rfl) (by kernel_rfl) (by decide) u (by rw [hn]; exact h)
theorem gErrSyntax : Tryd.prog.globalNamed "strconv.ErrSyntax" = some 2 := by kernel_rfl
theorem tErrSyntax : (Tryd.prog.globals[2]?).map (·.type) = some 44 := by kernel_rfl
theorem atErrSyntax {W : World} (h : laidMet Tryd.prog laidVars W) : VR C.F W (Ghost.mt (allFz W)) (.fptr [.iface 86 (.fptr [])]) (.pointer (some ⟨2, 0, none⟩)) := by
  obtain ⟨a, s, hv, hc, -, -⟩ := laid_sentinel (show laidMet Tryd.prog (("strconv.ErrSyntax", Rows.laid_strconv_ErrSyntax) :: _) W from h.tail.tail.tail.tail) gErrSyntax tErrSyntax Tryd.underlying44 (rowE _ (by decide)) Tryd.underlying86 Tryd.underlying88 rfl rfl Tryd.underlying9 cellsE cellsS
  exact err_ptr (by have h0 := World.var?_cell gErrSyntax hv 0; simpa using h0) hc

theorem gErrRange : Tryd.prog.globalNamed "strconv.ErrRange" = some 3 := by kernel_rfl
theorem tErrRange : (Tryd.prog.globals[3]?).map (·.type) = some 44 := by kernel_rfl
theorem atErrRange {W : World} (h : laidMet Tryd.prog laidVars W) : VR C.F W (Ghost.mt (allFz W)) (.fptr [.iface 86 (.fptr [])]) (.pointer (some ⟨3, 0, none⟩)) := by
  obtain ⟨a, s, hv, hc, -, -⟩ := laid_sentinel (show laidMet Tryd.prog (("strconv.ErrRange", Rows.laid_strconv_ErrRange) :: _) W from h.tail.tail.tail) gErrRange tErrRange Tryd.underlying44 (rowE _ (by decide)) Tryd.underlying86 Tryd.underlying88 rfl rfl Tryd.underlying9 cellsE cellsS
  exact err_ptr (by have h0 := World.var?_cell gErrRange hv 0; simpa using h0) hc

theorem gok {W : World} (h : laidMet Tryd.prog laidVars W) : GOK C W (Ghost.mt (allFz W)) := by
  intro g l hg
  have ht := tab_of h
  change gt g = some l at hg
  unfold gt at hg
  split at hg
  · rename_i e
    subst e
    cases hg
    rw [asciiSpace_eq]
    exact fptr_of_tab fun i hi => ht.cell gT i hi
  · split at hg
    · rename_i e
      subst e
      cases hg
      exact atErrSyntax h
    · split at hg
      · rename_i e
        subst e
        cases hg
        exact atErrRange h
      · cases hg

/-- A world in which the variables hold what their initialisers lay. -/
noncomputable def laidWorld (os : Os) : World :=
  let N := (World.settled Tryd.prog os).heap.size
  let w0 := World.holding Tryd.prog os ⟨#[.cells #[.string ⟨#[118, 97, 108, 117, 101, 32, 111, 117, 116, 32, 111, 102, 32, 114, 97, 110, 103, 101]⟩] 88, .cells #[.string ⟨#[105, 110, 118, 97, 108, 105, 100, 32, 115, 121, 110, 116, 97, 120]⟩] 88, .cells #[.int .u16 9, .int .u16 13, .int .u16 1, .int .u16 32, .int .u16 133, .int .u16 101, .int .u16 160, .int .u16 5760, .int .u16 5600, .int .u16 8192, .int .u16 8202, .int .u16 1, .int .u16 8232, .int .u16 8233, .int .u16 1, .int .u16 8239, .int .u16 8287, .int .u16 48, .int .u16 12288, .int .u16 12288, .int .u16 1] 73, .cells #[.slice (some ⟨N + 2, 0, none⟩) 7 7, .slice none 0 0, .int .i64 2] 70], #[], []⟩
  let put (h : Array Obj) (g : Nat) (cs : Array Value) : Array Obj := h.modify g fun
    | .cells _ t frozen => .cells cs t frozen
    | o => o
  { w0 with heap := put (put (put (put (put (put (put (w0.heap) 6 #[.int .u8 0, .int .u8 1, .int .u8 28, .int .u8 2, .int .u8 29, .int .u8 14, .int .u8 24, .int .u8 3, .int .u8 30, .int .u8 22, .int .u8 20, .int .u8 15, .int .u8 25, .int .u8 17, .int .u8 4, .int .u8 8, .int .u8 31, .int .u8 27, .int .u8 13, .int .u8 23, .int .u8 21, .int .u8 19, .int .u8 16, .int .u8 7, .int .u8 26, .int .u8 12, .int .u8 18, .int .u8 6, .int .u8 11, .int .u8 5, .int .u8 10, .int .u8 9]) 7 #[.int .u8 0, .int .u8 1, .int .u8 56, .int .u8 2, .int .u8 57, .int .u8 49, .int .u8 28, .int .u8 3, .int .u8 61, .int .u8 58, .int .u8 42, .int .u8 50, .int .u8 38, .int .u8 29, .int .u8 17, .int .u8 4, .int .u8 62, .int .u8 47, .int .u8 59, .int .u8 36, .int .u8 45, .int .u8 43, .int .u8 51, .int .u8 22, .int .u8 53, .int .u8 39, .int .u8 33, .int .u8 30, .int .u8 24, .int .u8 18, .int .u8 12, .int .u8 5, .int .u8 63, .int .u8 55, .int .u8 48, .int .u8 27, .int .u8 60, .int .u8 41, .int .u8 37, .int .u8 16, .int .u8 46, .int .u8 35, .int .u8 44, .int .u8 21, .int .u8 52, .int .u8 32, .int .u8 23, .int .u8 11, .int .u8 54, .int .u8 26, .int .u8 40, .int .u8 15, .int .u8 34, .int .u8 20, .int .u8 31, .int .u8 10, .int .u8 25, .int .u8 14, .int .u8 19, .int .u8 9, .int .u8 13, .int .u8 8, .int .u8 7, .int .u8 6]) 5 #[.int .u64 1, .int .u64 10, .int .u64 100, .int .u64 1000, .int .u64 10000, .int .u64 100000, .int .u64 1000000, .int .u64 10000000, .int .u64 100000000, .int .u64 1000000000, .int .u64 10000000000, .int .u64 100000000000, .int .u64 1000000000000, .int .u64 10000000000000, .int .u64 100000000000000, .int .u64 1000000000000000, .int .u64 10000000000000000, .int .u64 100000000000000000, .int .u64 1000000000000000000, .int .u64 10000000000000000000]) 3 #[.iface 86 (.pointer (some ⟨N + 0, 0, none⟩))]) 2 #[.iface 86 (.pointer (some ⟨N + 1, 0, none⟩))]) 1 #[.pointer (some ⟨N + 3, 0, none⟩)]) 0 #[.int .u8 0, .int .u8 0, .int .u8 0, .int .u8 0, .int .u8 0, .int .u8 0, .int .u8 0, .int .u8 0, .int .u8 0, .int .u8 1, .int .u8 1, .int .u8 1, .int .u8 1, .int .u8 1, .int .u8 0, .int .u8 0, .int .u8 0, .int .u8 0, .int .u8 0, .int .u8 0, .int .u8 0, .int .u8 0, .int .u8 0, .int .u8 0, .int .u8 0, .int .u8 0, .int .u8 0, .int .u8 0, .int .u8 0, .int .u8 0, .int .u8 0, .int .u8 0, .int .u8 1, .int .u8 0, .int .u8 0, .int .u8 0, .int .u8 0, .int .u8 0, .int .u8 0, .int .u8 0, .int .u8 0, .int .u8 0, .int .u8 0, .int .u8 0, .int .u8 0, .int .u8 0, .int .u8 0, .int .u8 0, .int .u8 0, .int .u8 0, .int .u8 0, .int .u8 0, .int .u8 0, .int .u8 0, .int .u8 0, .int .u8 0, .int .u8 0, .int .u8 0, .int .u8 0, .int .u8 0, .int .u8 0, .int .u8 0, .int .u8 0, .int .u8 0, .int .u8 0, .int .u8 0, .int .u8 0, .int .u8 0, .int .u8 0, .int .u8 0, .int .u8 0, .int .u8 0, .int .u8 0, .int .u8 0, .int .u8 0, .int .u8 0, .int .u8 0, .int .u8 0, .int .u8 0, .int .u8 0, .int .u8 0, .int .u8 0, .int .u8 0, .int .u8 0, .int .u8 0, .int .u8 0, .int .u8 0, .int .u8 0, .int .u8 0, .int .u8 0, .int .u8 0, .int .u8 0, .int .u8 0, .int .u8 0, .int .u8 0, .int .u8 0, .int .u8 0, .int .u8 0, .int .u8 0, .int .u8 0, .int .u8 0, .int .u8 0, .int .u8 0, .int .u8 0, .int .u8 0, .int .u8 0, .int .u8 0, .int .u8 0, .int .u8 0, .int .u8 0, .int .u8 0, .int .u8 0, .int .u8 0, .int .u8 0, .int .u8 0, .int .u8 0, .int .u8 0, .int .u8 0, .int .u8 0, .int .u8 0, .int .u8 0, .int .u8 0, .int .u8 0, .int .u8 0, .int .u8 0, .int .u8 0, .int .u8 0, .int .u8 0, .int .u8 0, .int .u8 0, .int .u8 0, .int .u8 0, .int .u8 0, .int .u8 0, .int .u8 0, .int .u8 0, .int .u8 0, .int .u8 0, .int .u8 0, .int .u8 0, .int .u8 0, .int .u8 0, .int .u8 0, .int .u8 0, .int .u8 0, .int .u8 0, .int .u8 0, .int .u8 0, .int .u8 0, .int .u8 0, .int .u8 0, .int .u8 0, .int .u8 0, .int .u8 0, .int .u8 0, .int .u8 0, .int .u8 0, .int .u8 0, .int .u8 0, .int .u8 0, .int .u8 0, .int .u8 0, .int .u8 0, .int .u8 0, .int .u8 0, .int .u8 0, .int .u8 0, .int .u8 0, .int .u8 0, .int .u8 0, .int .u8 0, .int .u8 0, .int .u8 0, .int .u8 0, .int .u8 0, .int .u8 0, .int .u8 0, .int .u8 0, .int .u8 0, .int .u8 0, .int .u8 0, .int .u8 0, .int .u8 0, .int .u8 0, .int .u8 0, .int .u8 0, .int .u8 0, .int .u8 0, .int .u8 0, .int .u8 0, .int .u8 0, .int .u8 0, .int .u8 0, .int .u8 0, .int .u8 0, .int .u8 0, .int .u8 0, .int .u8 0, .int .u8 0, .int .u8 0, .int .u8 0, .int .u8 0, .int .u8 0, .int .u8 0, .int .u8 0, .int .u8 0, .int .u8 0, .int .u8 0, .int .u8 0, .int .u8 0, .int .u8 0, .int .u8 0, .int .u8 0, .int .u8 0, .int .u8 0, .int .u8 0, .int .u8 0, .int .u8 0, .int .u8 0, .int .u8 0, .int .u8 0, .int .u8 0, .int .u8 0, .int .u8 0, .int .u8 0, .int .u8 0, .int .u8 0, .int .u8 0, .int .u8 0, .int .u8 0, .int .u8 0, .int .u8 0, .int .u8 0, .int .u8 0, .int .u8 0, .int .u8 0, .int .u8 0, .int .u8 0, .int .u8 0, .int .u8 0, .int .u8 0, .int .u8 0, .int .u8 0, .int .u8 0, .int .u8 0, .int .u8 0, .int .u8 0, .int .u8 0, .int .u8 0, .int .u8 0, .int .u8 0, .int .u8 0, .int .u8 0, .int .u8 0, .int .u8 0, .int .u8 0] }
theorem laid_met (os : Os) (args : Array Value) : laidMet Tryd.prog laidVars ((laidWorld os).forCall (fun _ _ => 0) ⟨#[], args, []⟩).memory :=
  laidMet_of_run3 10 (by kernel_rfl) (by kernel_rfl) (by kernel_rfl)
theorem laid_shaped (os : Os) (args : Array Value) : ((laidWorld os).forCall (fun _ _ => 0) ⟨#[], args, []⟩).Shaped Tryd.prog := World.shaped_of_RefB (by kernel_rfl) (by kernel_rfl)
end Go.Proofs.YtpmpckhgkhiebaaDoor.rb

set_option linter.unusedVariables false
set_option linter.unusedSimpArgs false
namespace Go.Proofs.YtpmpckhgkhiebaaDoor.rb.lexJoins
open Rb Go.ChangeShapes Go.WideShapes Go.ChangeAt Go.RowKit

set_option maxRecDepth 100000 in
theorem lifted (os : Os) (started : os.Started) (H : Type) (enc : TypeId × Value → H) :
    ReturnsInHanded {} Tryd.checked os 4 .any (fun w args => (Rows.lexJoinsSpec.pre enc Tryd.prog Tryd.f4 [] false w args ∧ laidMet Tryd.prog laidVars w) ∧ sizedMet enc Tryd.prog Tryd.f4 (OpenSpec.ofChange Rows.lexJoinsSpec) false w args)
      (Rows.lexJoinsSpec.post enc Tryd.prog Tryd.f4 false true false false) := by
  refine returnsInHanded_of_change_and (C := Tryd.checked) (X := fun w _ => laidMet Tryd.prog laidVars w) (fun _ _ _ hh h => h.of_heap hh) own started (by kernel_rfl) Tryd.func4
    (ChangeSpec.witness_shaped (enc := enc) (C := Tryd.checked) (os := os) (X := fun w _ => laidMet Tryd.prog laidVars w) false (laidWorld os) #[.string ⟨#[]⟩, .string ⟨#[]⟩] 8 rfl (laid_shaped os _) (by kernel_rfl) (by kernel_rfl) (by kernel_rfl) (laid_met os _)) ?_
  intro W base args ds gs before hval0 hW _ hsz hL _
  have hval : ∀ (j : Nat) t v, Tryd.f4.params[j]? = some t → args[j]? = some v → Value.okWide Tryd.prog W .any base t v := hval0
  have hW' := hW
  obtain ⟨p, q, hA0, hV0, rfl, hfz, hnd⟩ := hW
  have hA : DataW.TrodAll enc Tryd.prog W 0 (fun _ => true) true Tryd.f4.params.toList args.toList ds p := hA0
  have hV : DataW.TrodVars enc Tryd.prog W (fun _ => true) [] gs q := hV0
  rw [Tryd.params4] at hA hval
  obtain ⟨v0, v1, d0, d1, p0, p1, rfl, rfl, rfl, h0, h1⟩ := trodAll_two hA
  obtain ⟨rfl, rfl⟩ : gs = [] ∧ q = [] := by
    cases gs with
    | nil => exact ⟨rfl, hV⟩
    | cons g r => exact absurd hV (by intro h; cases h)
  obtain ⟨a0, rfl, rfl, rfl, w0⟩ := Go.ChangeMaps.open_string Tryd.underlying9 (hval 0 9 v0 rfl rfl) h0
  obtain ⟨a1, rfl, rfl, rfl, w1⟩ := Go.ChangeMaps.open_string Tryd.underlying9 (hval 1 9 v1 rfl rfl) h1
  refine (law_calls (C := C) (f := 4) (by kernel_rfl) (any a0.data.toList (sized_string hsz (j := 0) rfl rfl) a1.data.toList (sized_string hsz (j := 1) rfl rfl)) (gok hL) (VRs.two (VR_string _) (VR_string _))).mono fun e W' ⟨he, hbel⟩ => ?_
  subst he
  exact ⟨_, rfl, post_true (bt := 4) hW' laidOut (by kernel_rfl) (by kernel_rfl) (by kernel_rfl) Tryd.underlying4 rfl hbel⟩

theorem facts : joinedFacts Tryd.checked.prog 4 Tryd.f4 Rows.lexJoinsSpec Rows.lexJoinsRow = true := of_forced (by kernel_rfl)
theorem row : Rows.LexJoinsSaid :=
  OpenClaim.holds_of_wide 4 Tryd.f4 rfl rfl rfl rfl rfl rfl rfl ⟨rfl, rfl, rfl, rfl, rfl⟩ rfl rfl rfl rfl rfl (by kernel_rfl) Tryd.func4 facts
    (of_decide_eq_true (by kernel_rfl)) (by unfold Func.isWrapper; first | (rw [if_pos (by decide +kernel)]; kernel_rfl) | (rw [if_neg (by decide +kernel)]; exact ⟨rfl, rfl⟩))
    (fun os started H enc _ => lifted os started H enc)
end Go.Proofs.YtpmpckhgkhiebaaDoor.rb.lexJoins
namespace Go.Proofs.YtpmpckhgkhiebaaDoor
open Go

theorem lexJoins_holds : Rows.LexJoinsCardSaid :=
  Claim7.holds_tied_plain_at .later [] [.data, .data, .data, .sentinel, .sentinel, .listed, .data] true (true, "26ea0d47f81ef788326cc61fd2be5f92eeaf8d6d7a46e69dff4d0fb90ff298d7") true
    rb.lexJoins.row (fun _ h => by cases h) (by kernel_rfl) (fun _ h => by cases h) lexJoins_row_tie rfl ⟨rfl, rfl⟩ (by kernel_rfl) rfl
    (fun f fn hf hfn => by
      obtain rfl : f = 4 := Option.some.inj ((show Tryd.prog.funcNamed Rows.lexJoinsRow.func = some 4 by kernel_rfl).symm.trans hf) |>.symm
      obtain rfl : fn = Tryd.f4 := (Option.some.inj (Tryd.func4.symm.trans hfn)).symm
      exact ⟨by kernel_rfl, fun j t ht => by
        rw [Tryd.params4] at ht
        rcases j with _ | _ | j
        · obtain rfl : t = 9 := by simpa using ht.symm
          exact (show Tryd.prog.wantsStandIn 9 = false by kernel_rfl)
        · obtain rfl : t = 9 := by simpa using ht.symm
          exact (show Tryd.prog.wantsStandIn 9 = false by kernel_rfl)
        · simp at ht⟩)
    (by kernel_rfl)
#print axioms lexJoins_holds
end Go.Proofs.YtpmpckhgkhiebaaDoor
