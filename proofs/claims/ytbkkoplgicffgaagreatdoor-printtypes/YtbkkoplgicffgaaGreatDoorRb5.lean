/- Every type is written as a text that is read as that type, or is not written for a named reason (PrintTypes), for every type. -/
import Derived.Test.YtbkkoplgicffgaaGreatDoorRb4
import Derived.Test.YtbkkoplgicffgaaGreatDoorRb3
import Derived.Test.YtbkkoplgicffgaaGreatDoorRb2
set_option linter.unusedVariables false
set_option linter.unusedSimpArgs false
set_option linter.unusedSectionVars false
namespace Rb
open Go
section
variable {Φ : Calls'} {kw : List UInt8 → Bool} {val : List UInt8 → Int}
theorem p_end (hT : Cl Φ S.tab_Lex) {H : AH} {Q : Post} {id : Nat} {s : PSt} (p : PS H id s) (hQ : ∀ H', KeepP id H H' → PS H' id s.endM → Q (.agg [.int .i64 s.endM.fl, .int .i64 s.endM.fk]) H') : Φ K.f24 [.ptr id 0] H Q := by
 refine S.cl_f24 hT ?_
 unfold S.f24
 have hid := lt_of_ps p
 simp only [abox, if_true, DoH_some]
 have p2 := p.pushL (.row [.int .i64 0, .int .i64 0])
 have a1 : At (H.push (.row [.int .i64 0, .int .i64 0])) H.n (.row [.int .i64 0, .int .i64 0]) := At.new H _
 have kk : KeepP id H (H.push (.row [.int .i64 0, .int .i64 0])) := KeepP.push id H _
 generalize H.push (.row [.int .i64 0, .int .i64 0]) = H2 at p2 a1 kk
 have k1 : ∀ H4, KeepP id H H4 → PS H4 id s.endM → At H4 H.n (.row [.int .i64 0, .int .i64 0]) → JoinP (S.f24_k1 Φ (.ptr id 0) (.ptr H.n 0) Q) [] H4 := by
  intro H4 k4 p4 c1
  obtain ⟨tk, hat, _⟩ := p4.l0
  simp only [JoinP_def, S.f24_k1, anilck, afaddr, Do_of, Nat.zero_add, hat.load]
  rw [show takeCells [tokV tk s.endM.toks, AV.int .i64 s.endM.fl, .int .i64 s.endM.fk] 1 2 true = some (.agg [.int .i64 s.endM.fl, .int .i64 s.endM.fk]) from rfl]
  simp only [Do_of]
  rw [c1.store, if_pos ⟨rfl, rfl, rfl, by simp⟩]
  simp only [Do_of]
  rw [(c1.set _).load]
  refine (Do_of _ _).2 ?_
  exact hQ _ (k4.setL (Nat.le_refl _) _) (p4.setL (by omega) _)
 have k2 : ∀ b : Bool, (b = true ↔ (s.fk = 0 ∧ 1 < s.toks.length)) → JoinP (S.f24_k2 Φ (.ptr id 0) (.ptr H.n 0) Q) [.bool b] H2 := by
  intro b hb
  simp only [JoinP_def, S.f24_k2, sl_zero, Gd_true]
  refine ite_both (fun hx => ?_) (fun hx => ?_)
  · have e : s.endM = s.fail 4 := by unfold PSt.endM; rw [if_pos (hb.1 hx)]
    refine p_fail hT p2 fun H16 k16 p16 => ?_
    exact k1 H16 (kk.trans k16) (by rw [e]; exact p16) (k16.2 _ _ (by omega) a1)
  · have e : s.endM = s := by unfold PSt.endM; rw [if_neg (fun h => hx (hb.2 h))]
    exact k1 H2 kk (by rw [e]; exact p2) a1
 refine p_bad hT p2 ?_
 simp only [aun_not, Do_of, Gd3_true]
 refine ite_both (fun hx => ?_) (fun hx => ?_)
 · have h0 : s.fk = 0 := by simpa using hx
   obtain ⟨tk, hat, hl0⟩ := p2.l0
   simp only [anilck, afaddr, Do_of, Nat.zero_add, hl0, tokV_len, abin_gtr]
   exact k2 _ (by simp only [decide_eq_true_eq, h0, true_and]; omega)
 · have h0 : s.fk ≠ 0 := by simpa using hx
   exact k2 _ (by simp [h0])
section
variable {H0 : AH} {Q : Post} {i1 i3 i21 id : Nat}
structure PF (H0 : AH) (id i1 i3 i21 : Nat) (H : AH) (s : PSt) (L1 L2 : AV) : Prop where
 hid : id < H0.n
 h1 : i1 < H0.n
 h3 : i3 < H0.n
 d1 : i1 ≠ id
 d3 : i3 ≠ id
 d13 : i1 ≠ i3
 h21 : H0.n ≤ i21
 kk : KeepP id H0 H
 ps : PS H id s
 a1 : At H i1 (.row [.lst .nil 0 [], .lst .nil 0 []])
 a3 : At H i3 (.row [.int .i64 0, .int .i64 0])
 a21 : At H i21 (.row [L1, L2])
theorem PF.call {H : AH} {s : PSt} {L1 L2 : AV} (h : PF H0 id i1 i3 i21 H s L1 L2) {H' : AH} {s' : PSt} (k : KeepP id H H') (p : PS H' id s') : PF H0 id i1 i3 i21 H' s' L1 L2 :=
 ⟨h.hid, h.h1, h.h3, h.d1, h.d3, h.d13, h.h21, h.kk.trans k, p, k.2 _ _ h.d1 h.a1, k.2 _ _ h.d3 h.a3, k.2 _ _ (by have := h.hid; have := h.h21; omega) h.a21⟩
theorem PF.put {H : AH} {s : PSt} {L1 L2 : AV} (h : PF H0 id i1 i3 i21 H s L1 L2) (M1 M2 : AV) : PF H0 id i1 i3 i21 (H.set i21 (.row [M1, M2])) s M1 M2 :=
 ⟨h.hid, h.h1, h.h3, h.d1, h.d3, h.d13, h.h21, h.kk.setL h.h21 _, h.ps.setL (by have := h.hid; have := h.h21; omega) _, h.a1.set_ne (by have := h.h1; have := h.h21; omega) _, h.a3.set_ne (by have := h.h3; have := h.h21; omega) _, h.a21.set _⟩
theorem PF.left {H H' : AH} {s : PSt} {L1 L2 : AV} (h : PF H0 id i1 i3 i21 H s L1 L2) (k : Left H0.n H H') : PF H0 id i1 i3 i21 H' s L1 L2 :=
 ⟨h.hid, h.h1, h.h3, h.d1, h.d3, h.d13, h.h21, h.kk.left k, h.ps.left k, k.row h.a1, k.row h.a3, k.row h.a21⟩
end
end
end Rb

namespace Rb
open Go
section
variable {Φ : Calls'} {U : TypeId} {H : AH} {Q : Post}
theorem bnew_ok (H : AH) {T : TypeId} : ∃ H', aext H (.bnew T) [.agg [.nilp, .lst .nil 0 []]] = some (.ptr H.n 0, H') ∧ BldAt T U H' H.n [] ∧ H'.n = H.n + 1 :=
 ⟨H.push (.bld T false none), rfl, ⟨Nat.lt_succ_self _, .inl ⟨false, AH.push_self _ _, rfl⟩⟩, rfl⟩
end
end Rb

namespace Rb
open Go
def kwTextX : List UInt8 := [118, 97, 114, 32, 116, 104, 114, 101, 97, 100, 32, 115, 116, 114, 117, 99, 116, 32, 117, 110, 105, 111, 110, 32, 112, 97, 99, 107, 101, 100, 32, 117, 56, 32, 117, 49, 54, 32, 117, 51, 50, 32, 117, 54, 52, 32, 97, 56, 32, 97, 49, 54, 32, 97, 51, 50, 32, 97, 54, 52, 32, 97, 49, 50, 56, 32, 108, 101, 116, 32, 115, 101, 116, 32, 119, 114, 105, 116, 101, 32, 115, 116, 111, 114, 101, 32, 108, 111, 97, 100, 50, 32, 115, 116, 111, 114, 101, 50, 32, 102, 101, 110, 99, 101, 32, 105, 102, 32, 101, 108, 115, 101, 32, 119, 104, 105, 108, 101, 32, 112, 114, 105, 110, 116, 32, 114, 101, 97, 100, 32, 108, 111, 97, 100, 32, 97, 100, 100, 32, 115, 119, 97, 112, 32, 99, 97, 115, 32, 114, 108, 120, 32, 97, 99, 113, 32, 114, 101, 108, 32, 115, 99]
def kwsX : List (List UInt8) := [[118, 97, 114], [116, 104, 114, 101, 97, 100], [115, 116, 114, 117, 99, 116], [117, 110, 105, 111, 110], [112, 97, 99, 107, 101, 100], [117, 56], [117, 49, 54], [117, 51, 50], [117, 54, 52], [97, 56], [97, 49, 54], [97, 51, 50], [97, 54, 52], [97, 49, 50, 56], [108, 101, 116], [115, 101, 116], [119, 114, 105, 116, 101], [115, 116, 111, 114, 101], [108, 111, 97, 100, 50], [115, 116, 111, 114, 101, 50], [102, 101, 110, 99, 101], [105, 102], [101, 108, 115, 101], [119, 104, 105, 108, 101], [112, 114, 105, 110, 116], [114, 101, 97, 100], [108, 111, 97, 100], [97, 100, 100], [115, 119, 97, 112], [99, 97, 115], [114, 108, 120], [97, 99, 113], [114, 101, 108], [115, 99]]
def kwX (s : List UInt8) : Bool := kwsX.any fun x => s == x
theorem abin_streqK (s t : List UInt8) : abin .eql (.str s) (.str t) = some (.bool (s == t)) := rfl
theorem idxI_any {α : Type} (p : α → Bool) (xs : List α) : decide (idxI (xs.findIdx? p) ≥ 0) = xs.any p := by
 cases hf : xs.findIdx? p with
 | none =>
  rw [List.findIdx?_eq_none_iff] at hf
  have : xs.any p = false := by simpa using hf
  rw [this]; rfl
 | some i =>
  obtain ⟨hi, h1, _⟩ := List.findIdx?_eq_some_iff_getElem.1 hf
  have : xs.any p = true := by rw [List.any_eq_true]; exact ⟨xs[i], List.getElem_mem hi, h1⟩
  rw [this]; simp [idxI]
section
variable {Φ : Calls'} {H : AH} {Q : Post}
theorem Index_gen {a : AV} {xs : List (List UInt8)} {t : List UInt8} (hlen : alen false a = some (.int .i64 xs.length)) (hr : ∀ (i : Nat) x, xs[i]? = some x → ∃ p, aiaddr none 1 a (.int .i64 i) = some p ∧ aload H 1 false p = some (.str x)) (hb : xs.length ≤ 9223372036854775807)
  (hQ : Q (.int .i64 (idxI (xs.findIdx? fun x => t == x))) H) : S.f107 Φ a (.str t) H Q := by
 unfold S.f107
 rw [hlen]
 simp only [Do_of]
 have main : ∀ (ys : List (List UInt8)) (i : Nat), xs.drop i = ys → Q (.int .i64 (idxI ((ys.findIdx? fun x => t == x).map (· + i)))) H → LoopP (S.f107_l1 Φ a (.str t) (.int .i64 xs.length) Q) ([.int .i64 i], H) := by
  intro ys
  induction ys with
  | nil =>
   intro i hi hq
   have hle := drop_nil_le hi
   refine LoopP.step ?_
   simp only [S.f107_l1, sl_zero, abin_lss, Do_of, Gd_true]
   rw [if_neg (by simp only [decide_eq_true_eq]; omega)]
   simpa [idxI] using hq
  | cons y ys ih =>
   intro i hi hq
   obtain ⟨hlt, hy, hd⟩ := drop_cons_lt hi
   obtain ⟨p, h1, h2⟩ := hr i y hy
   refine LoopP.step ?_
   simp only [S.f107_l1, sl_zero, abin_lss, Do_of, Gd_true]
   rw [if_pos (by simp only [decide_eq_true_eq]; omega), h1]
   simp only [Do_of]
   rw [h2]
   simp only [Do_of, abin_streqK, Gd_true]
   rw [List.findIdx?_cons] at hq
   by_cases he : (t == y) = true
   · rw [if_pos he]
     rw [if_pos he] at hq
     simpa [idxI] using hq
   · rw [if_neg he]
     rw [if_neg he] at hq
     simp only [abin_add, Do_of]
     rw [wrap_i64 (by omega) (by omega), show ((i : Int) + 1) = ((i + 1 : Nat) : Int) by simp]
     refine ih (i + 1) hd ?_
     have : (List.findIdx? (fun x => t == x) ys).map (· + (i + 1)) = ((List.findIdx? (fun x => t == x) ys).map (· + 1)).map (· + i) := by
      rw [Option.map_map]; congr 1; funext k; simp only [Function.comp]; omega
     rw [this]; exact hq
 refine main xs 0 rfl ?_
 simpa using hQ
theorem Contains_gen (hT : Cl Φ S.tab_Lex) {a : AV} {xs : List (List UInt8)} {t : List UInt8} (hlen : alen false a = some (.int .i64 xs.length)) (hr : ∀ (i : Nat) x, xs[i]? = some x → ∃ p, aiaddr none 1 a (.int .i64 i) = some p ∧ aload H 1 false p = some (.str x)) (hb : xs.length ≤ 9223372036854775807)
  (hQ : Q (.bool (xs.any fun x => t == x)) H) : Φ K.f81 [a, .str t] H Q := by
 refine S.cl_f81 hT ?_
 unfold S.f81
 refine S.cl_f107 hT (Index_gen hlen hr hb ?_)
 simp only [abin_geq, Do_of, idxI_any]
 exact hQ
end
section
variable {C : Ctx} (hGT : GTok C) (hT : Cl (ACall C) S.tab_Lex)
include hGT hT
theorem Keyword_val (hF : ∀ (H : AH) (Q : Post), Q (.lst .dead 34 (kwsX.map .str)) H → ACall C K.f82 [.str kwTextX] H Q) (s : List UInt8) : Val (ACall C) K.f47 [.str s] (.bool (kwX s)) := by
 intro H Q hQ
 refine S.cl_f47 hT ?_
 unfold S.f47
 refine hF _ _ ?_
 refine Contains_gen hT (xs := kwsX) rfl (fun i x hx => ?_) (by decide) hQ
 have hlt := (List.getElem?_eq_some_iff.1 hx).1
 refine ⟨.fptr ((kwsX.map AV.str).drop (i * 1)), ?_, ?_⟩
 · simp only [aiaddr]
   have hl : kwsX.length = 34 := rfl
   rw [if_pos ⟨by omega, by omega⟩]
   simp
 · show takeCells _ 0 1 false = _
   unfold takeCells
   rw [if_pos (by rw [List.length_drop, List.length_map]; omega)]
   simp [hx]
end
end Rb

namespace Go.Proofs.YtbkkoplgicffgaaGreatDoor.rb
open Rb
theorem awake10 : Val (ACall C) K.f7 [] (.bool true) := fun H Q hQ => RbM10_rootok0 K.f7 [] (.bool true) rfl H Q hQ
theorem fieldsOK (H : AH) (Q : Post) (hQ : Q (.lst .dead 34 (kwsX.map .str)) H) : ACall C K.f82 [.str kwTextX] H Q := RbM100_ok K.f82 [.str kwTextX] _ (by kernel_rfl) H Q hQ
theorem kwOK (s : List UInt8) : Val (ACall C) K.f47 [.str s] (.bool (kwX s)) := Keyword_val gtC cl_Lex fieldsOK s
theorem kitOK : BKit (ACall C) 79 5 where
 write := fun hb s h1 h2 hQ => writeOK hb s h1 h2 hQ
 len := fun hb hQ => lenOK hb hQ
 text := fun hb hQ => textOK hb hQ
 itoa := fun n H Q h0 h1 hQ => itoaOK n h0 h1 H Q hQ
 fmt := fun n H Q h hQ => fmtOK n (by omega) H Q hQ
end Go.Proofs.YtbkkoplgicffgaaGreatDoor.rb

namespace Rb
open Go
def PSt.at (r : PSt) (R : List (Wd × Int)) : PSt := ⟨R, r.fl, 0⟩
def hdW (R : List (Wd × Int)) : Wd := (R.headD ([], 0)).1
def Ahead (r : PSt) (ws : List Wd) (R : List (Wd × Int)) : Prop := r.fk = 0 ∧ R ≠ [] ∧ ∃ T : List (Wd × Int), r.toks = T ++ R ∧ T.map (·.1) = ws
section
variable {r : PSt} {R : List (Wd × Int)} {ws a b : List Wd} {w : Wd}
theorem Ahead.nil (h : Ahead r [] R) : r = r.at R := by
 obtain ⟨h1, _, T, h2, h3⟩ := h
 obtain rfl : T = [] := by simpa using h3
 cases r
 simp only [PSt.at] at *
 subst h1 h2
 rfl
theorem Ahead.hd (h : Ahead r (w :: ws) R) : r.fk = 0 ∧ r.hd.1 = w ∧ Ahead r.adv ws R ∧ r.adv.at R = r.at R := by
 obtain ⟨h1, hR, T, h2, h3⟩ := h
 cases T with
 | nil => cases h3
 | cons t T =>
  simp only [List.map_cons, List.cons.injEq] at h3
  have ha : r.adv = ⟨T ++ R, r.fl, r.fk⟩ := by
   unfold PSt.adv
   have : 0 < R.length := List.length_pos_iff.2 hR
   rw [h2, if_pos (by simp; omega)]
   rfl
  refine ⟨h1, ?_, ?_, by rw [ha]; rfl⟩
  · unfold PSt.hd; rw [h2]; exact h3.1
  · rw [ha]; exact ⟨h1, hR, T, rfl, h3.2⟩
theorem Ahead.split (h : Ahead r (a ++ b) R) : ∃ R', Ahead r a R' ∧ Ahead (r.at R') b R ∧ hdW R' = (b ++ [hdW R]).headD [] := by
 obtain ⟨h1, hR, T, h2, h3⟩ := h
 obtain ⟨T1, T2, rfl, e1, e2⟩ := List.map_eq_append_iff.1 h3
 refine ⟨T2 ++ R, ⟨h1, by simp [hR], T1, by rw [h2, List.append_assoc], e1⟩, ⟨rfl, hR, T2, rfl, e2⟩, ?_⟩
 subst e2
 cases T2 with
 | nil => rfl
 | cons t T2 => rfl
theorem Ahead.head0 (h : Ahead r ws R) : r.hd.1 = (ws ++ [hdW R]).headD [] := by
 obtain ⟨h1, hR, T, h2, h3⟩ := h
 subst h3
 unfold PSt.hd
 rw [h2]
 cases T with
 | nil => rfl
 | cons t T => rfl
theorem at_at (r : PSt) (R R' : List (Wd × Int)) : (r.at R').at R = r.at R := rfl
theorem Ahead.want (h : Ahead r (w :: ws) R) : r.want w = r.adv := by
 obtain ⟨h1, h2, _⟩ := h.hd
 unfold PSt.want
 rw [if_neg (by rw [h1]; simp), if_pos h2]
theorem Ahead.isW (h : Ahead r (w :: ws) R) (v : Wd) : r.isW v = (w == v) := by
 obtain ⟨h1, h2, _⟩ := h.hd
 unfold PSt.isW
 rw [h1, h2]; rfl
theorem Ahead.deep (h : Ahead r ws R) {d : Int} (hd : ¬ d > 64) : r.deep d = r := by unfold PSt.deep; rw [if_neg hd]
theorem Ahead.one (h : Ahead r [w] R) : r.adv = r.at R := by
 obtain ⟨_, _, h1, h2⟩ := h.hd
 rw [← h2]; exact h1.nil
end
section
variable (kw : Wd → Bool) (val : Wd → Int)
def Fine (s : PSt) : Prop := s.fk = 0 ∧ Wf s ∧ ∀ w ∈ s.toks, digitsM w.1 = true → 0 ≤ val w.1 ∧ Go.Lib.decDigits (val w.1).toNat = w.1
def Took (s : PSt) (ws : List Wd) (s' : PSt) : Prop := Fine val s' ∧ ∃ used : List (Wd × Int), s.toks = used ++ s'.toks ∧ ws.Sublist (used.map (·.1))
variable {kw val} {s s1 s' : PSt} {ws a b : List Wd} {w : Wd}
theorem Took.refl (h : Fine val s) : Took val s [] s := ⟨h, [], rfl, List.Sublist.refl _⟩
theorem Took.trans (h : Took val s a s1) (k : Took val s1 b s') : Took val s (a ++ b) s' := by
 obtain ⟨_, u, h1, h2⟩ := h
 obtain ⟨g, v, k1, k2⟩ := k
 exact ⟨g, u ++ v, by rw [h1, k1, List.append_assoc], by rw [List.map_append]; exact h2.append k2⟩
theorem Took.len (h : Took val s ws s') : ws.length + s'.toks.length ≤ s.toks.length := by
 obtain ⟨_, u, h1, h2⟩ := h
 have := h2.length_le
 rw [h1, List.length_append]
 simp at this
 omega
theorem Fine.adv (h : Fine val s) (hd : s.hd.1 ≠ []) : Took val s [s.hd.1] s.adv := by
 obtain ⟨h1, h2, h3⟩ := h
 have hw := h2.adv
 obtain ⟨l, n, e, k⟩ := h2
 cases l with
 | nil => exact absurd (by unfold PSt.hd; rw [e]; rfl) hd
 | cons x l =>
  have ha : s.adv = ⟨l ++ [([], n)], s.fl, s.fk⟩ := by
   unfold PSt.adv
   rw [e, if_pos (by simp)]
   rfl
  have hx : s.hd.1 = x.1 := by unfold PSt.hd; rw [e]; rfl
  refine ⟨⟨by rw [PSt.adv_fk]; exact h1, hw, fun v hv => h3 v ?_⟩, [x], by rw [ha]; exact e, by rw [hx]; exact List.Sublist.refl _⟩
  rw [ha] at hv
  rw [e]
  exact List.mem_cons_of_mem _ hv
theorem Fine.num (h : Fine val s) (hd : digitsM s.hd.1 = true) : 0 ≤ val s.hd.1 ∧ Go.Lib.decDigits (val s.hd.1).toNat = s.hd.1 := by
 obtain ⟨h1, h2, h3⟩ := h
 obtain ⟨l, n, e, k⟩ := h2
 refine h3 s.hd ?_ hd
 unfold PSt.hd
 rw [e]
 cases l with
 | nil => simp
 | cons x l => simp
variable {r : PSt} {R : List (Wd × Int)}
theorem Ahead.name (h : Ahead r (w :: ws) R) (h1 : lettersM w = true) (h2 : kw w = false) : r.nameT kw = w ∧ r.nameS kw = r.adv := by
 obtain ⟨k1, k2, _⟩ := h.hd
 have hn : r.nameW kw = true := by unfold PSt.nameW; rw [k1, k2, h1, h2]; rfl
 exact ⟨by unfold PSt.nameT; rw [if_pos hn, k2], by unfold PSt.nameS; rw [if_pos hn]⟩
theorem Ahead.num {most : Int} (h : Ahead r (w :: ws) R) (h1 : digitsM w = true) (h2 : val w ≤ most) : r.num val most = (val w, r.adv) := by
 obtain ⟨k1, k2, _⟩ := h.hd
 unfold PSt.num
 rw [if_neg (by rw [k1, k2, h1]; simp), if_neg (by rw [k2]; omega), k2]
end
theorem itoa_dec {z : Int} (h : 0 ≤ z) : Go.Lib.itoa z = Go.Lib.decDigits z.toNat := by
 obtain ⟨n, rfl⟩ := Int.eq_ofNat_of_zero_le h
 unfold Go.Lib.itoa; rw [if_neg (by omega)]; all_goals simp
theorem x64_id {z : Int} (h0 : -9223372036854775808 ≤ z) (h1 : z ≤ 9223372036854775807) : x64 z = z := by
 unfold x64; exact wrap_i64 h0 h1
end Rb

namespace Rb
open Go
section
variable (kw : Wd → Bool) (val : Wd → Int)
variable {s r : PSt} {R : List (Wd × Int)}
theorem isA_noP {w : Wd} (h : s.isW w = false) : s.isA w = s := by unfold PSt.isA; rw [h]; rfl
theorem isA_yesP {w : Wd} (h : s.isW w = true) : s.isA w = s.adv := by unfold PSt.isA; rw [if_pos h]
def fieldT (n : Nat) (d : Int) (o : Bool) (nm : Wd) (s1 : PSt) : GField × PSt :=
 if o = true ∨ (typM kw val n (x64 (d + 1)) s1).2.hd.1 = [58] then
  (⟨nm, (typM kw val n (x64 (d + 1)) s1).1, true, x64 (((typM kw val n (x64 (d + 1)) s1).2.want [58]).num val 1073741824).1⟩, (((typM kw val n (x64 (d + 1)) s1).2.want [58]).num val 1073741824).2.want [59])
 else (⟨nm, (typM kw val n (x64 (d + 1)) s1).1, false, 0⟩, (typM kw val n (x64 (d + 1)) s1).2.want [59])
theorem field_eq (n : Nat) (d : Int) (s : PSt) : fieldM kw val (fun d s => typM kw val n d s) d s = if s.isW [95] = true then fieldT kw val n d true [] (s.isA [95]) else fieldT kw val n d false ((s.isA [95]).nameT kw) ((s.isA [95]).nameS kw) := by
 unfold fieldM
 dsimp only
 cases s.isW [95] <;> rfl
theorem Sub.fieldT (n : Nat) (d : Int) (o : Bool) (nm : Wd) (s : PSt) : Sub s (fieldT kw val n d o nm s).2 := by
 unfold Rb.fieldT
 split
 · exact (Sub.typ kw val n _ s).trans ((Sub.want _ _).trans ((Sub.num val _ _).trans (Sub.want _ _)))
 · exact (Sub.typ kw val n _ s).trans (Sub.want _ _)
def tailW (t : GType) (bits : Bool) (width : Int) : List Wd := t.W ++ ((if bits = true then [[58], Go.Lib.itoa width] else []) ++ [[59]])
end
end Rb

namespace Rb
open Go
theorem isLet_iff (c : UInt8) : isLet c = true ↔ 97 ≤ c.toNat ∧ c.toNat ≤ 122 := by simp [isLet]
theorem isDig_iff (c : UInt8) : isDig c = true ↔ 48 ≤ c.toNat ∧ c.toNat ≤ 57 := by simp [isDig]
section
variable {Φ : Calls'} {H : AH} {Q : Post}
end
end Rb

namespace Rb
open Go
section
variable {Φ : Calls'}
end
end Rb

namespace Rb
open Go
def dvF (a : Nat) (c : UInt8) : Nat := a * 10 + (c.toNat - 48)
def dv (a : Nat) (w : List UInt8) : Nat := w.foldl dvF a
theorem dv_nil (a : Nat) : dv a [] = a := rfl
theorem dv_cons (a : Nat) (c : UInt8) (r : List UInt8) : dv a (c :: r) = dv (a * 10 + (c.toNat - 48)) r := by simp only [dv, List.foldl_cons, dvF]
theorem dv_le (w : List UInt8) : ∀ (a : Nat), a ≤ dv a w := by
 induction w with
 | nil => intro a; rw [dv_nil]; exact Nat.le_refl _
 | cons c r ih =>
  intro a
  have := ih (a * 10 + (c.toNat - 48))
  rw [dv_cons]; omega
theorem parseM_ok : ∀ (w : List UInt8) (a : Nat), (∀ c ∈ w, isDig c = true) → a ≤ 18446744073709551615 → ((∃ v, Go.Lib.parseUintM 18446744073709551615 a w = .ok v) ↔ dv a w ≤ 18446744073709551615)
 | [], a, _, ha => by
  unfold Go.Lib.parseUintM
  rw [dv_nil]
  exact ⟨fun _ => ha, fun _ => ⟨a, rfl⟩⟩
 | c :: r, a, h, ha => by
  have hc := (isDig_iff c).1 (h c (by simp))
  have hr := dv_le r (a * 10 + (c.toNat - 48))
  unfold Go.Lib.parseUintM
  rw [if_pos hc, dv_cons]
  split
  · constructor
    · rintro ⟨v, h⟩; cases h
    · intro h; omega
  · split
    · constructor
      · rintro ⟨v, h⟩; cases h
      · intro h; omega
    · exact parseM_ok r _ (fun c hc => h c (by simp [hc])) (by omega)
section
variable {kw : List UInt8 → Bool} {val : List UInt8 → Int} {num : List UInt8 → Bool}
end
end Rb

namespace Rb
open Go
theorem ty_box (t : GType) (H : AH) : aboxv H false 6 (.agg t.cells) = some (.fptr t.cells, H) := by unfold aboxv; rw [if_pos ⟨rfl, t.len⟩]; rfl
theorem ty_addr (t : GType) (i : Nat) : afaddr i (.fptr t.cells) = some (.fptr (t.cells.drop i)) := rfl
theorem ty_l0 (t : GType) (H : AH) : aload H 1 false (.fptr (t.cells.drop 0)) = some (.int .i64 t.kind) := by rw [GType.cells_eq]; rfl
theorem ty_l1 (t : GType) (H : AH) : aload H 1 false (.fptr (t.cells.drop 1)) = some (.int .i64 t.size) := by rw [GType.cells_eq]; rfl
theorem ty_l2 (t : GType) (H : AH) : aload H 1 false (.fptr (t.cells.drop 2)) = some (.bool t.packed) := by rw [GType.cells_eq]; rfl
theorem ty_l3 (t : GType) (H : AH) : aload H 1 false (.fptr (t.cells.drop 3)) = some (lstA GField.cells t.fields) := by rw [GType.cells_eq]; rfl
theorem ty_l4 (t : GType) (H : AH) : aload H 1 false (.fptr (t.cells.drop 4)) = some (.int .i64 t.count) := by rw [GType.cells_eq]; rfl
theorem ty_l5 (t : GType) (H : AH) : aload H 1 false (.fptr (t.cells.drop 5)) = some (lstA GType.cells t.elem) := by rw [GType.cells_eq]; rfl
theorem ty_all (t : GType) (H : AH) : aload H 6 true (.fptr t.cells) = some (.agg t.cells) := takeCells_whole t.len
theorem fd_t0 (f : GField) : takeCells f.cells 0 1 false = some (.str f.name) := by cases f with | mk n t b w => cases t; rfl
theorem fd_t7 (f : GField) : takeCells f.cells 7 1 false = some (.bool f.bits) := by cases f with | mk n t b w => cases t; rfl
theorem fd_t8 (f : GField) : takeCells f.cells 8 1 false = some (.int .i64 f.width) := by cases f with | mk n t b w => cases t; rfl
theorem fd_t1 (f : GField) : takeCells f.cells 1 6 true = some (.agg f.type.cells) := by cases f with | mk n t b w => cases t; rfl
theorem fd_k (f : GField) : takeCells f.cells 1 1 false = some (.int .i64 f.type.kind) := by cases f with | mk n t b w => cases t; rfl
theorem fd_s (f : GField) : takeCells f.cells 2 1 false = some (.int .i64 f.type.size) := by cases f with | mk n t b w => cases t; rfl
theorem abin_streq' (s t : List UInt8) : abin .eql (.str s) (.str t) = some (.bool (s == t)) := rfl
theorem abin_strne (s t : List UInt8) : abin .neq (.str s) (.str t) = some (.bool (!(s == t))) := rfl
mutual
theorem dep_le : ∀ (t : GType) (m : Nat), 1 ≤ m → 1 ≤ depT m t ∧ depT m t ≤ m
 | .mk kind size packed fields count elem, m, hm => by
  simp only [depT]
  split
  · rename_i h
    have h1 := depFs_le fields (m - 1) (by omega)
    have h2 := depEs_le elem (m - 1) (by omega)
    omega
  · omega
theorem depF_le : ∀ (f : GField) (m : Nat), 1 ≤ m → 0 ≤ depF m f ∧ depF m f ≤ m
 | .mk name type bits width, m, hm => by
  have := dep_le type m hm
  simp only [depF]; omega
theorem depFs_le : ∀ (l : List GField) (m : Nat), 1 ≤ m → 0 ≤ depFs m l ∧ depFs m l ≤ m
 | [], m, hm => by simp only [depFs]; omega
 | f :: r, m, hm => by
  have h1 := depF_le f m hm
  have h2 := depFs_le r m hm
  simp only [depFs]; omega
theorem depEs_le : ∀ (l : List GType) (m : Nat), 1 ≤ m → 0 ≤ depEs m l ∧ depEs m l ≤ m
 | [], m, hm => by simp only [depEs]; omega
 | t :: r, m, hm => by
  have h1 := dep_le t m hm
  have h2 := depEs_le r m hm
  simp only [depEs]; omega
end
theorem depF_eq (f : GField) (m : Nat) : depF m f = depT m f.type := by cases f; rfl
theorem depT_eq (t : GType) (m : Nat) : depT m t = if 1 < m then max (depFs (m - 1) t.fields) (depEs (m - 1) t.elem) + 1 else 1 := by cases t; rfl
theorem sndT_eq (t : GType) : sndT t = if onlyM t.kind t.size t.packed t.fields.length t.count t.elem.length = false then 8
  else if t.kind = 1 then (if pow2 t.size 8 then 0 else 9)
  else if t.kind = 2 then (if pow2 t.size 16 then 0 else 9)
  else if t.kind = 5 then (if t.count < 1 ∨ 65536 < t.count then 9 else sndE t.elem)
  else if t.fields.length < 1 ∨ 32 < t.fields.length then 12
  else sndFs t.packed [] t.fields := by cases t; rfl
theorem sndF_eq (packed : Bool) (seen : List (List UInt8)) (f : GField) : sndF packed seen f = if nameOk f.name = false ∧ (f.name ≠ [] ∨ f.bits = false) then 6
  else if f.name ≠ [] ∧ seen.contains f.name = true then 7
  else if sndT f.type ≠ 0 then sndT f.type
  else if (f.bits = false ∧ f.width ≠ 0) ∨ (f.bits = true ∧ (f.type.kind ≠ 1 ∨ packed = true)) then 8
  else if f.bits = true ∧ (f.width < 0 ∨ 8 * f.type.size < f.width ∨ (f.width = 0 ∧ f.name ≠ [])) then 9
  else 0 := by cases f; rfl
theorem ok_parts {t : GType} (ht : t.ok) : t.fields.length ≤ 9223372036854775807 ∧ (∀ f ∈ t.fields, f.type.ok) ∧ t.elem.length ≤ 9223372036854775807 ∧ ∀ e ∈ t.elem, e.ok := by
 have hm : maxLen = 9223372036854775807 := by decide
 cases t with
 | mk kind size packed fields count elem =>
  obtain ⟨_, _, h1, h2, _, h3, h4⟩ := ht
  rw [hm] at h1 h3
  exact ⟨h1, fun f hf => by have := GField.oks_iff.1 h2 f hf; cases f; exact this.2.1, h3, GType.oks_iff.1 h4⟩
end Rb

namespace Rb
open Go
mutual
def keyT (kw : Wd → Bool) : GType → Bool
 | .mk _ _ _ fields _ elem => keyEs kw elem || keyFs kw fields
def keyEs (kw : Wd → Bool) : List GType → Bool
 | [] => false
 | x :: r => keyT kw x || keyEs kw r
def keyF (kw : Wd → Bool) : GField → Bool
 | .mk name type _ _ => kw name || keyT kw type
def keyFs (kw : Wd → Bool) : List GField → Bool
 | [] => false
 | x :: r => keyF kw x || keyFs kw r
end
theorem keyT_def (kw : Wd → Bool) (t : GType) : keyT kw t = (keyEs kw t.elem || keyFs kw t.fields) := by cases t; rw [keyT]
theorem keyF_def (kw : Wd → Bool) (f : GField) : keyF kw f = (kw f.name || keyT kw f.type) := by cases f; rw [keyF]
theorem keyEs_mem {kw : Wd → Bool} : ∀ {l : List GType}, keyEs kw l = false → ∀ e ∈ l, keyT kw e = false
 | [], _, e, h => by cases h
 | x :: r, h, e, he => by
  rw [keyEs, Bool.or_eq_false_iff] at h
  rcases List.mem_cons.1 he with rfl | he
  · exact h.1
  · exact keyEs_mem h.2 e he
theorem keyFs_mem {kw : Wd → Bool} : ∀ {l : List GField}, keyFs kw l = false → ∀ e ∈ l, keyF kw e = false
 | [], _, e, h => by cases h
 | x :: r, h, e, he => by
  rw [keyFs, Bool.or_eq_false_iff] at h
  rcases List.mem_cons.1 he with rfl | he
  · exact h.1
  · exact keyFs_mem h.2 e he
theorem sndFs_cons {packed : Bool} {seen : List Wd} {f : GField} {r : List GField} (h : sndFs packed seen (f :: r) = 0) : sndF packed seen f = 0 ∧ sndFs packed (seen ++ [f.name]) r = 0 := by
 rw [sndFs] at h
 by_cases hc : sndF packed seen f ≠ 0
 · rw [if_pos hc] at h; exact absurd h hc
 · rw [if_neg hc] at h; exact ⟨by simpa using hc, h⟩
theorem sndF_zero {packed : Bool} {seen : List Wd} {f : GField} (h : sndF packed seen f = 0) : (nameOk f.name = true ∨ (f.name = [] ∧ f.bits = true)) ∧ sndT f.type = 0 ∧ (f.bits = false → f.width = 0) ∧ (f.bits = true → 0 ≤ f.width ∧ f.width ≤ 8 * f.type.size ∧ f.type.kind = 1) := by
 rw [sndF_eq] at h
 split at h
 · cases h
 · rename_i h1
   split at h
   · cases h
   · split at h
     · rename_i h3; exact absurd h h3
     · rename_i h3
       split at h
       · cases h
       · rename_i h4
         split at h
         · cases h
         · rename_i h5
           refine ⟨?_, by simpa using h3, fun hb => ?_, fun hb => ?_⟩
           · cases hn : nameOk f.name with
             | true => exact .inl rfl
             | false =>
              right
              rw [hn] at h1
              cases hb : f.bits with
              | true =>
               refine ⟨?_, rfl⟩
               by_cases e : f.name = []
               · exact e
               · exact absurd ⟨rfl, .inl e⟩ h1
              | false => exact absurd ⟨rfl, .inr hb⟩ h1
           · by_cases e : f.width = 0
             · exact e
             · exact absurd (.inl ⟨hb, e⟩) h4
           · refine ⟨?_, ?_, ?_⟩
             · by_cases e : f.width < 0
               · exact absurd ⟨hb, .inl e⟩ h5
               · omega
             · by_cases e : 8 * f.type.size < f.width
               · exact absurd ⟨hb, .inr (.inl e)⟩ h5
               · omega
             · by_cases e : f.type.kind = 1
               · exact e
               · exact absurd (.inr ⟨hb, .inl e⟩) h4
theorem GField.eta (f : GField) : (⟨f.name, f.type, f.bits, f.width⟩ : GField) = f := by cases f; rfl
theorem nameOk_letters {w : Wd} (h : nameOk w = true) : lettersM w = true := by
 cases w with
 | nil => cases h
 | cons c r => rw [nameOk] at h; rw [lettersM]; simp only [Bool.and_eq_true] at h; first | exact h.1.1 | exact h.1.2 | exact h.2.1
theorem pow2_8 {n : Int} (h : pow2 n 8 = true) : n = 1 ∨ n = 2 ∨ n = 4 ∨ n = 8 := by
 unfold pow2 at h; simp at h; omega
theorem pow2_16 {n : Int} (h : pow2 n 16 = true) : n = 1 ∨ n = 2 ∨ n = 4 ∨ n = 8 ∨ n = 16 := by
 unfold pow2 at h; simp at h; omega
theorem dep_step {t : GType} {d : Nat} (hd : 1 ≤ d) (h : depT (66 - d) t ≤ 65 - d) : d ≤ 64 ∧ depFs (65 - d) t.fields ≤ 64 - d ∧ depEs (65 - d) t.elem ≤ 64 - d := by
 have h1 := (dep_le t (66 - d))
 rw [depT_eq] at h
 by_cases hc : 1 < 66 - d
 · rw [if_pos hc, show 66 - d - 1 = 65 - d by omega] at h
   omega
 · rw [if_neg hc] at h
   omega
theorem depFs_mem : ∀ {l : List GField} {m : Nat} {k : Int}, depFs m l ≤ k → ∀ f ∈ l, depT m f.type ≤ k
 | [], m, k, _, f, h => by cases h
 | x :: r, m, k, h, f, hf => by
  rw [depFs, depF_eq] at h
  rcases List.mem_cons.1 hf with rfl | hf
  · omega
  · exact depFs_mem (by omega) f hf
theorem depEs_mem : ∀ {l : List GType} {m : Nat} {k : Int}, depEs m l ≤ k → ∀ f ∈ l, depT m f ≤ k
 | [], m, k, _, f, h => by cases h
 | x :: r, m, k, h, f, hf => by
  rw [depEs] at h
  rcases List.mem_cons.1 hf with rfl | hf
  · omega
  · exact depEs_mem (by omega) f hf
section
variable (kw : Wd → Bool) (val : Wd → Int)
def BackT (t : GType) : Prop := sndT t = 0 → keyT kw t = false → ∀ d : Nat, 1 ≤ d → depT (66 - d) t ≤ 65 - d → ∀ m, t.W.length ≤ m → ∀ r R, Ahead r t.W R → typM kw val m d r = (t, r.at R)
def NumB : Prop := ∀ n : Nat, n ≤ 1073741824 → digitsM (Go.Lib.decDigits n) = true ∧ val (Go.Lib.decDigits n) = n
variable {val}
theorem start_eq {m : Nat} {d : Int} {r : PSt} {ws : List Wd} {R : List (Wd × Int)} (hd : ¬ d > 64) (ha : Ahead r ws R) : typM kw val (m + 1) d r = (match scalarM r.hd.1 with
    | some p => (⟨p.1, p.2, false, [], 0, []⟩, r.adv)
    | none =>
     if kindM r.hd.1 = 0 then (tyZ, r.fail 4)
     else if kindM r.hd.1 = 5 then
      (⟨5, 0, false, [], x64 (r.adv.num val 1073741824).1, [(typM kw val m (x64 (d + 1)) ((r.adv.num val 1073741824).2.want [93])).1]⟩, (typM kw val m (x64 (d + 1)) ((r.adv.num val 1073741824).2.want [93])).2)
     else
      (⟨kindM r.hd.1, 0, r.adv.isW [112, 97, 99, 107, 101, 100], (fldsM kw val m d ((r.adv.isA [112, 97, 99, 107, 101, 100]).want [123])).1, 0, []⟩, (fldsM kw val m d ((r.adv.isA [112, 97, 99, 107, 101, 100]).want [123])).2)) := by
  rw [typM]
  dsimp only
  rw [ha.deep hd, if_neg (by rw [ha.1]; simp)]
  cases scalarM r.hd.1 <;> rfl
theorem one_back {t : GType} {w : Wd} (hW : t.W = [w]) (hs : scalarM w = some (t.kind, t.size)) (he : t = ⟨t.kind, t.size, false, [], 0, []⟩) {d : Int} (hd : ¬ d > 64) {m : Nat} (hm : t.W.length ≤ m) {r : PSt} {R : List (Wd × Int)} (ha : Ahead r t.W R) : typM kw val m d r = (t, r.at R) := by
 rw [hW] at ha hm
 obtain ⟨m, rfl⟩ : ∃ k, m = k + 1 := ⟨m - 1, by simp at hm; omega⟩
 obtain ⟨_, h1, _⟩ := ha.hd
 rw [start_eq kw hd ha, h1, hs]
 dsimp only
 rw [ha.one, ← he]
theorem field_back (hN : NumB val) {f : GField} {packed : Bool} {seen : List Wd} (hs : sndF packed seen f = 0) (hk : keyF kw f = false) {d : Nat} (hd : d ≤ 64) (hB : ∀ m, f.type.W.length ≤ m → ∀ r R, Ahead r f.type.W R → typM kw val m (x64 ((d : Int) + 1)) r = (f.type, r.at R))
  {m : Nat} (hm : f.W.length ≤ m + 1) {r : PSt} {R : List (Wd × Int)} (ha : Ahead r f.W R) : fieldM kw val (fun d s => typM kw val m d s) d r = (f, r.at R) := by
 obtain ⟨hn, hst, hw0, hw1⟩ := sndF_zero hs
 rw [keyF_def, Bool.or_eq_false_iff] at hk
 have hsz : f.bits = true → 0 ≤ f.width ∧ f.width ≤ 64 := fun hb => by
  obtain ⟨a, b, c⟩ := hw1 hb
  rw [sndT_eq] at hst
  split at hst
  · cases hst
  · split at hst
    · rename_i hp; have := pow2_8 hp; omega
    · cases hst
 have hW : f.W = (if f.name = [] then [95] else f.name) :: tailW f.type f.bits f.width := by rw [GField.W_def]; rfl
 rw [hW] at ha hm
 have tail : ∀ (o : Bool), (o = true → f.bits = true) → ∀ r1, Ahead r1 (tailW f.type f.bits f.width) R → fieldT kw val m d o f.name r1 = (f, r1.at R) := by
  intro o ho r1 h1
  unfold tailW at h1
  obtain ⟨R1, a1, a2, a3⟩ := h1.split
  have hr := hB m (by simp [tailW] at hm; omega) r1 R1 a1
  unfold fieldT
  rw [hr]
  dsimp only
  cases hb : f.bits with
  | true =>
   obtain ⟨b0, b64⟩ := hsz hb
   obtain ⟨n1, n2⟩ := hN f.width.toNat (by omega)
   have hit : Go.Lib.itoa f.width = Go.Lib.decDigits f.width.toNat := itoa_dec b0
   rw [hb, if_pos rfl, hit] at a2
   have a2' : Ahead (r1.at R1) ([58] :: Go.Lib.decDigits f.width.toNat :: [[59]]) R := a2
   have hd58 : (r1.at R1).hd.1 = [58] := by rw [a2'.head0]; rfl
   rw [if_pos (.inr hd58)]
   obtain ⟨_, _, b1, c1⟩ := a2'.hd
   rw [a2'.want]
   obtain ⟨_, _, b2, c2⟩ := b1.hd
   rw [b1.num n1 (by rw [n2]; omega)]
   dsimp only
   rw [b2.want, b2.one, n2, c2, c1]
   have e : x64 ((f.width.toNat : Nat) : Int) = f.width := by rw [x64_id (by omega) (by omega)]; omega
   rw [e, ← hb, GField.eta, at_at]
  | false =>
   have h0 := hw0 hb
   rw [hb, if_neg (by decide)] at a2
   have a2' : Ahead (r1.at R1) [[59]] R := a2
   have hd59 : (r1.at R1).hd.1 = [59] := by rw [a2'.head0]; rfl
   rw [if_neg (by rw [hd59]; rintro (h | h); rw [ho h] at hb; cases hb; cases h), a2'.want, a2'.one]
   have : (⟨f.name, f.type, false, 0⟩ : GField) = f := by rw [← hb, ← h0, GField.eta]
   rw [this, at_at]
 rcases hn with hn | ⟨hn, hb⟩
 · have hl := nameOk_letters hn
   have hne : f.name ≠ [] := by intro e; rw [e] at hl; cases hl
   have h95 : f.name ≠ [95] := by intro e; rw [e] at hl; exact absurd hl (by decide)
   rw [if_neg hne] at ha
   have hrw : r.isW [95] = false := by rw [ha.isW]; simpa using h95
   obtain ⟨_, _, b1, c1⟩ := ha.hd
   obtain ⟨n1, n2⟩ := Ahead.name (kw := kw) ha hl hk.1
   rw [field_eq, if_neg (by rw [hrw]; decide), isA_noP hrw, n1, n2, tail false (by simp) r.adv b1, c1]
 · rw [if_pos hn] at ha
   have hrw : r.isW [95] = true := by rw [ha.isW]; rfl
   obtain ⟨_, _, b1, c1⟩ := ha.hd
   have := tail true (fun _ => hb) r.adv b1
   rw [hn] at this
   rw [field_eq, if_pos hrw, isA_yesP hrw, this, c1]
theorem field_W0 {f : GField} (hl : nameOk f.name = true ∨ f.name = []) : ∃ w l, f.W = w :: l ∧ w ≠ [125] := by
 rw [GField.W_def]
 refine ⟨_, _, rfl, ?_⟩
 split
 · decide
 · rename_i h
   rcases hl with hl | hl
   · have := nameOk_letters hl
     intro e; rw [e] at this; exact absurd this (by decide)
   · exact absurd hl h
theorem flds_back (hN : NumB val) {packed : Bool} {d : Nat} (hd : d ≤ 64) : ∀ (fs : List GField) (seen : List Wd), sndFs packed seen fs = 0 → keyFs kw fs = false →
  (∀ f ∈ fs, ∀ m, f.type.W.length ≤ m → ∀ r R, Ahead r f.type.W R → typM kw val m (x64 ((d : Int) + 1)) r = (f.type, r.at R)) →
  ∀ m, (GField.Ws fs ++ [[125]]).length ≤ m → ∀ r R, Ahead r (GField.Ws fs ++ [[125]]) R → fldsM kw val m d r = (fs, r.at R)
 | [], seen, _, _, _, m, hm, r, R, ha => by
  obtain ⟨m, rfl⟩ : ∃ k, m = k + 1 := ⟨m - 1, by simp [GField.Ws] at hm; omega⟩
  have ha' : Ahead r ([125] :: []) R := ha
  rw [fldsM, if_neg (by rw [ha.1]; simp), if_pos (by rw [ha'.isW]; rfl), ha'.one]
 | f :: fs, seen, hs, hk, hB, m, hm, r, R, ha => by
  obtain ⟨h1, h2⟩ := sndFs_cons hs
  rw [keyFs, Bool.or_eq_false_iff] at hk
  obtain ⟨w, l, hw, hw125⟩ := field_W0 (f := f) ((sndF_zero h1).1.imp id And.left)
  have hlw : f.W.length = l.length + 1 := by rw [hw]; rfl
  obtain ⟨m, rfl⟩ : ∃ k, m = k + 1 := ⟨m - 1, by simp [GField.Ws, hlw] at hm; omega⟩
  have ha' : Ahead r (f.W ++ (GField.Ws fs ++ [[125]])) R := by simpa [GField.Ws] using ha
  obtain ⟨R1, a1, a2, a3⟩ := ha'.split
  have hnc : r.isW [125] = false := by
   have := a1
   rw [hw] at this
   rw [this.isW]
   simpa using hw125
  rw [fldsM, if_neg (by rw [ha.1]; simp), if_neg (by rw [hnc]; decide)]
  dsimp only
  rw [field_back kw hN h1 hk.1 hd (hB f (by simp)) (by simp [GField.Ws] at hm; omega) a1]
  dsimp only
  rw [flds_back hN hd fs _ h2 hk.2 (fun g hg => hB g (by simp [hg])) m (by simp [GField.Ws, hlw] at hm ⊢; omega) _ R a2]
  rfl
theorem typ_back (hN : NumB val) : ∀ t : GType, BackT kw val t := by
 refine GType.ind fun t ihf ihe hs hk d hd1 hdep m hm r R ha => ?_
 obtain ⟨hd64, hdF, hdE⟩ := dep_step hd1 hdep
 have hdn : ¬ (d : Int) > 64 := by omega
 have hx : x64 ((d : Int) + 1) = ((d + 1 : Nat) : Int) := by rw [x64_id (by omega) (by omega)]; omega
 rw [keyT_def, Bool.or_eq_false_iff] at hk
 rw [sndT_eq] at hs
 split at hs
 · cases hs
 rename_i hon
 have hon : onlyM t.kind t.size t.packed t.fields.length t.count t.elem.length = true := by simpa using hon
 split at hs
 · rename_i hk1
   unfold onlyM at hon
   rw [if_pos (.inl hk1)] at hon
   simp only [Bool.and_eq_true, Bool.not_eq_true', beq_iff_eq] at hon
   obtain ⟨⟨⟨o1, o2⟩, o3⟩, o4⟩ := hon
   split at hs
   · rename_i hp
     have e : t = ⟨t.kind, t.size, false, [], 0, []⟩ := by
      have e1 := List.length_eq_zero_iff.1 o2; have e2 := List.length_eq_zero_iff.1 o4
      cases t; simp only [GType.mk.injEq] at *; exact ⟨trivial, trivial, o1, e1, o3, e2⟩
     refine one_back kw (w := 117 :: Go.Lib.itoa (i64w (8 * t.size))) (by rw [GType.W_def, if_pos hk1]) ?_ e hdn hm ha
     rw [hk1]
     rcases pow2_8 hp with h | h | h | h <;> (rw [h]; decide +kernel)
   · cases hs
 split at hs
 · rename_i hk1 hk2
   unfold onlyM at hon
   rw [if_pos (.inr hk2)] at hon
   simp only [Bool.and_eq_true, Bool.not_eq_true', beq_iff_eq] at hon
   obtain ⟨⟨⟨o1, o2⟩, o3⟩, o4⟩ := hon
   split at hs
   · rename_i hp
     have e : t = ⟨t.kind, t.size, false, [], 0, []⟩ := by
      have e1 := List.length_eq_zero_iff.1 o2; have e2 := List.length_eq_zero_iff.1 o4
      cases t; simp only [GType.mk.injEq] at *; exact ⟨trivial, trivial, o1, e1, o3, e2⟩
     refine one_back kw (w := 97 :: Go.Lib.itoa (i64w (8 * t.size))) (by rw [GType.W_def, if_neg hk1, if_pos hk2]) ?_ e hdn hm ha
     rw [hk2]
     rcases pow2_16 hp with h | h | h | h | h <;> (rw [h]; decide +kernel)
   · cases hs
 split at hs
 · rename_i hk1 hk2 hk5
   unfold onlyM at hon
   rw [if_neg (by omega), if_neg (by omega), if_pos hk5] at hon
   simp only [Bool.and_eq_true, Bool.not_eq_true', beq_iff_eq] at hon
   obtain ⟨⟨⟨o1, o2⟩, o3⟩, o4⟩ := hon
   split at hs
   · cases hs
   rename_i hcnt
   obtain ⟨e, hel⟩ := List.length_eq_one_iff.1 o4
   have et : t = ⟨5, 0, false, [], t.count, [e]⟩ := by
    have e1 := List.length_eq_zero_iff.1 o3
    cases t; simp only [GType.mk.injEq] at *; exact ⟨hk5, o1, o2, e1, trivial, hel⟩
   have hb := ihe e (by rw [hel]; simp) (by rw [hel, sndE] at hs; exact hs) (keyEs_mem hk.1 e (by rw [hel]; simp)) (d + 1) (by omega) (by
     have := depEs_mem hdE e (by rw [hel]; simp)
     rw [show 66 - (d + 1) = 65 - d by omega]; omega)
   obtain ⟨n1, n2⟩ := hN t.count.toNat (by omega)
   have hW : t.W = [91] :: Go.Lib.decDigits t.count.toNat :: [93] :: e.W := by
    rw [GType.W_def, if_neg hk1, if_neg hk2, if_pos ⟨hk5, o4⟩, hel, itoa_dec (by omega)]
    simp
   rw [hW] at ha hm
   obtain ⟨m, rfl⟩ : ∃ k, m = k + 1 := ⟨m - 1, by simp at hm; omega⟩
   obtain ⟨_, h1, b1, c1⟩ := ha.hd
   obtain ⟨_, h2, b2, c2⟩ := b1.hd
   obtain ⟨_, h3, b3, c3⟩ := b2.hd
   rw [start_eq kw hdn ha, h1, show scalarM [91] = none from by decide, show kindM [91] = 5 from by decide]
   dsimp only
   rw [if_neg (by decide), if_pos rfl, b1.num n1 (by rw [n2]; omega)]
   dsimp only
   rw [b2.want, hx, hb m (by simp at hm; omega) _ R b3, n2, c3, c2, c1]
   have ex : x64 ((t.count.toNat : Nat) : Int) = t.count := by rw [x64_id (by omega) (by omega)]; omega
   rw [ex]
   dsimp only
   rw [← et]
 · rename_i hk1 hk2 hk5
   have h34 : t.kind = 3 ∨ t.kind = 4 := by
    unfold onlyM at hon
    rw [if_neg (by omega)] at hon
    split at hon
    · assumption
    · first | cases hon | (rw [if_neg hk5] at hon; cases hon)
   unfold onlyM at hon
   rw [if_neg (by omega), if_pos h34] at hon
   simp only [Bool.and_eq_true, Bool.not_eq_true', beq_iff_eq] at hon
   obtain ⟨⟨o1, o2⟩, o3⟩ := hon
   split at hs
   · cases hs
   have et : t = ⟨t.kind, 0, t.packed, t.fields, 0, []⟩ := by
    have e1 := List.length_eq_zero_iff.1 o3
    cases t; simp only [GType.mk.injEq] at *; exact ⟨trivial, o1, trivial, trivial, o2, e1⟩
   have hB : ∀ f ∈ t.fields, ∀ m, f.type.W.length ≤ m → ∀ r R, Ahead r f.type.W R → typM kw val m (x64 ((d : Int) + 1)) r = (f.type, r.at R) := by
    intro f hf m hm r R ha
    have hkf := keyFs_mem hk.2 f hf
    rw [keyF_def, Bool.or_eq_false_iff] at hkf
    have hsf : sndT f.type = 0 := by
     have : ∀ (l : List GField) (seen : List Wd), sndFs t.packed seen l = 0 → ∀ f ∈ l, sndT f.type = 0 := by
      intro l
      induction l with
      | nil => intro _ _ f h; cases h
      | cons x r ih =>
       intro seen h f hf
       obtain ⟨h1, h2⟩ := sndFs_cons h
       rcases List.mem_cons.1 hf with rfl | hf
       · exact (sndF_zero h1).2.1
       · exact ih _ h2 f hf
     exact this _ _ hs f hf
    rw [hx]
    exact ihf f hf hsf hkf.2 (d + 1) (by omega) (by
      have := depFs_mem hdF f hf
      rw [show 66 - (d + 1) = 65 - d by omega]; omega) m hm r R ha
   obtain ⟨kwd, hkw, hkm⟩ : ∃ kwd : Wd, ofW (i64w (t.kind - 3)) [[115, 116, 114, 117, 99, 116], [117, 110, 105, 111, 110]] = kwd ∧ kindM kwd = t.kind ∧ scalarM kwd = none ∧ kwd ≠ [] := by
    rcases h34 with h | h <;> (rw [h]; exact ⟨_, rfl, by decide +kernel⟩)
   have hW : t.W = kwd :: ((if t.packed = true then [[112, 97, 99, 107, 101, 100]] else []) ++ [123] :: (GField.Ws t.fields ++ [[125]])) := by
    rw [GType.W_def, if_neg hk1, if_neg hk2, if_neg (fun e => hk5 e.1), if_pos h34, hkw, GField.Ws_map]
   rw [hW] at ha hm
   obtain ⟨m, rfl⟩ : ∃ k, m = k + 1 := ⟨m - 1, by simp at hm; omega⟩
   obtain ⟨_, h1, b1, c1⟩ := ha.hd
   have hpk : r.adv.isW [112, 97, 99, 107, 101, 100] = t.packed ∧ ∃ r2, (r.adv.isA [112, 97, 99, 107, 101, 100]) = r2 ∧ Ahead r2 ([123] :: (GField.Ws t.fields ++ [[125]])) R ∧ r2.at R = r.at R := by
    cases hp : t.packed with
    | true =>
     rw [hp, if_pos rfl] at b1
     have e : r.adv.isW [112, 97, 99, 107, 101, 100] = true := by rw [Ahead.isW (w := [112, 97, 99, 107, 101, 100]) b1]; rfl
     obtain ⟨_, _, b2, c2⟩ := Ahead.hd (w := [112, 97, 99, 107, 101, 100]) b1
     exact ⟨e, _, isA_yesP e, b2, by rw [c2, c1]⟩
    | false =>
     rw [hp, if_neg (by decide)] at b1
     have e : r.adv.isW [112, 97, 99, 107, 101, 100] = false := by rw [Ahead.isW (w := [123]) b1]; rfl
     exact ⟨e, _, isA_noP e, b1, c1⟩
   obtain ⟨p1, r2, p2, b2, c2⟩ := hpk
   obtain ⟨_, _, b3, c3⟩ := b2.hd
   rw [start_eq kw hdn ha, h1, hkm.2.1]
   dsimp only
   rw [if_neg (by rw [hkm.1]; omega), if_neg (by rw [hkm.1]; omega), p1, p2, b2.want, flds_back kw hN hd64 t.fields [] hs hk.2 hB m (by simp at hm ⊢; omega) _ R b3, c3, c2, hkm.1]
   dsimp only
   rw [← et]
end
end Rb

namespace Rb
open Go
def blankP (c : UInt8) : Bool := c == 32 || c == 10
def trimR (s : List UInt8) : List UInt8 := (s.reverse.dropWhile blankP).reverse
theorem trimR_snoc (s : List UInt8) (c : UInt8) : trimR (s ++ [c]) = if blankP c = true then trimR s else s ++ [c] := by
 unfold trimR
 rw [List.reverse_append, List.reverse_singleton, List.singleton_append, List.dropWhile_cons]
 split
 · rfl
 · simp
def A2 : List AV := (List.range 256).map fun i => .bool (i == 32 || i == 10)
theorem A2_len : A2.length = 256 := by simp [A2]
theorem A2_get (c : UInt8) : A2[c.toNat]? = some (.bool (blankP c)) := by
 have h : c.toNat < 256 := c.toNat_lt
 unfold A2
 rw [List.getElem?_map, List.getElem?_range h]
 simp only [Option.map_some, Option.some.injEq, AV.bool.injEq]
 unfold blankP
 rw [Bool.eq_iff_iff]
 simp only [Bool.or_eq_true, beq_iff_eq]
 constructor
 · rintro (h | h)
   · left; exact UInt8.toNat_inj.1 h
   · right; exact UInt8.toNat_inj.1 h
 · rintro (h | h)
   · left; rw [h]; rfl
   · right; rw [h]; rfl
theorem A2_set : setCells (setCells (List.replicate 256 (AV.bool false)) 32 [.bool true]) 10 [.bool true] = A2 := by kernel_rfl
theorem setC_len : (setCells (List.replicate 256 (AV.bool false)) 32 [.bool true]).length = 256 := by kernel_rfl
theorem A2_scal : A2.all AV.scalar = true := by kernel_rfl
section
variable {Φ : Calls'} {H : AH} {Q : Post}
theorem contains_ok (hT : Cl Φ S.tab_Lex) {id : Nat} (h : At H id (.row A2)) (c : UInt8) (hQ : Q (.bool (blankP c)) H) : Φ K.f99 [.ptr id 0, .int .u8 c.toNat] H Q := by
 refine S.cl_f99 hT ?_
 unfold S.f99
 have hc : c.toNat < 256 := c.toNat_lt
 rw [show anilck (.ptr id 0) = some (.ptr id 0) from rfl]
 simp only [Do_of]
 rw [show aiaddr (some 256) 1 (.ptr id 0) (.int .u8 c.toNat) = some (.ptr id (0 + c.toNat * 1)) from by
   simp only [aiaddr]; rw [if_pos ⟨by omega, by omega⟩]; simp]
 simp only [Do_of]
 rw [h.load, Nat.zero_add, Nat.mul_one]
 unfold takeCells
 rw [if_pos (by rw [A2_len]; omega)]
 simp only [Bool.false_eq_true, if_false, A2_get, Do_of]
 exact hQ
theorem trimASCII_ok (hT : Cl Φ S.tab_Lex) {id : Nat} (h : At H id (.row A2)) {s : List UInt8} (hl : s.length ≤ 9223372036854775807) (hQ : Q (.str (trimR s)) H) : Φ K.f75 [.str s, .ptr id 0] H Q := by
 refine S.cl_f75 hT ?_
 unfold S.f75
 have main : ∀ (n : Nat) (s : List UInt8), s.length = n → s.length ≤ 9223372036854775807 → Q (.str (trimR s)) H → LoopP (S.f75_l1 Φ (.ptr id 0) Q) ([.str s], H) := by
  intro n
  induction n with
  | zero =>
   intro s hn hl hQ
   obtain rfl := List.length_eq_zero_iff.1 hn
   refine LoopP.step ?_
   simp only [S.f75_l1, sl_zero, show alen true (.str []) = some (.int .i64 0) from rfl, Do_of, abin_gtr, Gd_true]
   rw [if_neg (by simp)]
   exact hQ
  | succ n ih =>
   intro s hn hl hQ
   obtain ⟨t, c, rfl⟩ : ∃ t c, s = t ++ [c] := by
    rcases List.eq_nil_or_concat s with e | ⟨t, c, e⟩
    · rw [e] at hn; cases hn
    · exact ⟨t, c, by rw [e]; simp⟩
   have htl : t.length = n := by simp at hn; omega
   have hal : (t ++ [c]).length = n + 1 := hn
   refine LoopP.step ?_
   simp only [S.f75_l1, sl_zero, show alen true (.str (t ++ [c])) = some (.int .i64 ((t ++ [c]).length : Nat)) from rfl, Do_of, abin_gtr, abin_sub, Gd_true]
   rw [if_pos (by simp only [decide_eq_true_eq]; omega)]
   have e1 : IntKind.wrap .i64 (((t ++ [c]).length : Nat) - 1 : Int) = (n : Int) := by rw [wrap_i64 (by omega) (by omega)]; omega
   rw [e1]
   have hidx : aidxs (.str (t ++ [c])) (.int .i64 n) = some (.int .u8 c.toNat) := by
    unfold aidxs
    simp [← htl]
   rw [hidx]
   simp only [Do_of]
   refine contains_ok hT h c ?_
   simp only [aun_not, Do_of, Gd_true]
   rw [trimR_snoc] at hQ
   refine bool_ite8 (fun hb => ?_) (fun hb => ?_)
   · have : blankP c = false := by simpa using hb
     rw [this] at hQ
     exact hQ
   · have : blankP c = true := by simpa using hb
     rw [this] at hQ
     have hsl : asslice (.str (t ++ [c])) none (some (.int .i64 n)) = some (.str t) := by
      unfold asslice
      simp [abound, ← htl]
     rw [hsl]
     simp only [Do_of]
     exact ih t htl (by omega) hQ
 exact main _ s rfl hl hQ
set_option maxRecDepth 100000 in
theorem makeSet_ok (hT : Cl Φ S.tab_Lex) (hQ : ∀ H', Q (.tup [.agg A2, .bool true]) H') : Φ K.f74 [.str [32, 10]] H Q := by
 refine S.cl_f74 hT ?_
 unfold S.f74
 simp only [DoH_some, abox, if_true]
 have hzs : ∀ zs : List AV, zs = List.replicate 256 (.bool false) → LoopP (S.f74_l2 Φ (.str [32, 10]) (.ptr H.n 0) Q) ([.int .i64 0], H.push (.row zs)) := by
  rintro _ rfl
  have a0 : At (H.push (.row (List.replicate 256 (AV.bool false)))) H.n (.row (List.replicate 256 (.bool false))) := At.new H _
  have hal : alen true (.str [32, 10]) = some (.int .i64 2) := rfl
  refine LoopP.step ?_
  simp only [S.f74_l2, sl_zero, hal, Do_of, abin_lss, Gd_true]
  rw [if_pos (by decide), show aidxs (.str [32, 10]) (.int .i64 0) = some (.int .u8 32) from rfl]
  simp only [Do_of, abin_geq, Gd_true]
  rw [if_neg (by decide), show aiaddr (some 256) 1 (.ptr H.n 0) (.int .u8 32) = some (.ptr H.n 32) from rfl]
  simp only [Do_of]
  rw [a0.store, if_pos ⟨rfl, rfl, rfl, by simp⟩]
  simp only [Do_of, abin_add]
  have a1 := a0.set (.row (setCells (List.replicate 256 (AV.bool false)) 32 [.bool true]))
  refine LoopP.step ?_
  rw [show IntKind.wrap .i64 (0 + 1) = 1 from rfl]
  simp only [S.f74_l2, sl_zero, hal, Do_of, abin_lss, Gd_true]
  rw [if_pos (by decide), show aidxs (.str [32, 10]) (.int .i64 1) = some (.int .u8 10) from rfl]
  simp only [Do_of, abin_geq, Gd_true]
  rw [if_neg (by decide), show aiaddr (some 256) 1 (.ptr H.n 0) (.int .u8 10) = some (.ptr H.n 10) from rfl]
  simp only [Do_of, AV.cells]
  rw [a1.store, if_pos ⟨rfl, rfl, rfl, by rw [setC_len]; decide⟩]
  simp only [Do_of, abin_add, AV.cells]
  have a2 := a1.set (.row (setCells (setCells (List.replicate 256 (AV.bool false)) 32 [.bool true]) 10 [.bool true]))
  rw [A2_set] at a2 ⊢
  refine LoopP.step ?_
  rw [show IntKind.wrap .i64 (1 + 1) = 2 from rfl]
  simp only [S.f74_l2, sl_zero, hal, Do_of, abin_lss, Gd_true]
  rw [if_neg (by decide)]
  simp only [JoinP_def, S.f74_k1]
  rw [a2.load, takeCells_whole A2_len]
  simp only [Do_of]
  rw [a2.store, if_pos ⟨rfl, A2_len, A2_scal, by rw [A2_len]; decide⟩]
  simp only [Do_of, AV.cells]
  have e : setCells A2 0 A2 = A2 := by rw [setCells_all (by omega)]; rfl
  rw [e]
  have a3 := a2.set (.row A2)
  rw [a3.load, takeCells_whole A2_len]
  simp only [Do_of]
  exact hQ _
 exact hzs _ rfl
set_option maxRecDepth 100000 in
theorem trim_ok (hT : Cl Φ S.tab_Lex) {s : List UInt8} (hl : s.length ≤ 9223372036854775807) (hQ : ∀ H', Q (.str (trimR s)) H') : Φ K.f38 [.str s, .str [32, 10]] H Q := by
 refine S.cl_f38 hT ?_
 unfold S.f38
 rw [show abin .eql (.str s) (.str []) = some (.bool (s == [])) from rfl, show abin .eql (.str [32, 10]) (.str []) = some (.bool false) from rfl]
 simp only [Do_of, Gd3_false]
 refine bool_itef8 (fun h => ?_) (fun h => ?_)
 · simp only [JoinP_def, S.f38_k4, S.f38_k3, sl_zero, Gd_true, Bool.false_eq_true, if_false, show alen true (.str [32, 10]) = some (.int .i64 2) from rfl, Do_of, abin_eql, Gd3_true]
   rw [if_neg (by decide)]
   simp only [S.f38_k2, JoinP_def, sl_zero, Gd_true, Bool.false_eq_true, if_false]
   unfold S.f38_k1
   refine makeSet_ok hT fun H1 => ?_
   simp only [show ∀ a b, aextract 0 (.tup [a, b]) = some a from fun _ _ => rfl, show ∀ a b, aextract 1 (.tup [a, b]) = some b from fun _ _ => rfl, Do_of, DoH_some, abox, if_true]
   have hzs : ∀ zs : List AV, zs.length = 256 → Do (astore (H1.push (.row zs)) 256 (.ptr H1.n 0) (.agg A2)) fun H24 => Gd (.bool true) true (Φ K.f75 [.str s, .ptr H1.n 0] H24 fun x25 H26 => Q x25 H26) (Φ K.f76 [.str s, .str [32, 10]] H24 fun x27 H28 => Q x27 H28) := by
    intro zs hz
    rw [store_new H1 zs A2 256 A2_len A2_scal hz]
    simp only [Do_of, Gd_true, if_true]
    exact trimASCII_ok hT (At.new H1 _) hl (hQ _)
   exact hzs _ rfl
 · have : s = [] := by simpa using h
   subst this
   simp only [JoinP_def, S.f38_k4, sl_zero, Gd_true, if_true]
   exact hQ H
def parseT (num kw : List UInt8 → Bool) (val : List UInt8 → Int) (s : List UInt8) : GType × Int × Int := match lexM num s with
 | .error e => (tyZ, e.1, e.2)
 | .ok ws =>
  let t := typM kw val (beginM ws).toks.length 1 (beginM ws)
  if t.2.endM.fk ≠ 0 then (tyZ, t.2.endM.fl, t.2.endM.fk) else (t.1, 0, 0)
def typV (r : GType × Int × Int) : AV := .tup [.agg r.1.cells, .agg [.int .i64 r.2.1, .int .i64 r.2.2]]
theorem tyZ_cells : tyZ.cells = [.int .i64 0, .int .i64 0, .bool false, .lst .dead 0 [], .int .i64 0, .lst .dead 0 []] := by rw [GType.cells_eq]; rfl
theorem lexM_err' {num : List UInt8 → Bool} {s : List UInt8} {e : Int × Int} (h : lexM num s = .error e) : e.2 ≠ 0 := lexM_err h
theorem out_ok {H : AH} {i1 i3 : Nat} {z1 : List AV} {fl fk : Int} {c1 z3 : List AV} (h1 : At H i1 (.row z1)) (h3 : At H i3 (.row z3)) (l1 : z1.length = 6) (l3 : z3.length = 2) (hne : i1 ≠ i3) (hc : c1.length = 6) (hs : c1.all AV.scalar = true) {x9 : AV} {K : AV → AV → AH → Prop}
  (h9 : ∀ H', (∀ j, j ≠ i1 → H'.o j = H.o j) → aload H' 2 true x9 = some (.agg [.int .i64 fl, .int .i64 fk])) (hK : ∀ H', K (.agg c1) (.agg [.int .i64 fl, .int .i64 fk]) H') :
  Do (astore H 6 (.ptr i1 0) (.agg c1)) fun H17 => (aload H17 2 true x9 = some (.agg [.int .i64 fl, .int .i64 fk])) ∧ (Do (astore H17 2 (.ptr i3 0) (.agg [.int .i64 fl, .int .i64 fk])) fun H18 =>
    Do (aload H18 6 true (.ptr i1 0)) fun x19 => Do (aload H18 2 true (.ptr i3 0)) fun x20 => K x19 x20 H18) := by
 rw [h1.store, if_pos ⟨rfl, hc, hs, by omega⟩]
 simp only [Do_of, AV.cells]
 rw [setCells_all (by omega)]
 have a1 := h1.set (.row (List.take 0 z1 ++ c1))
 have a3 := h3.set_ne (Ne.symm hne) (.row (List.take 0 z1 ++ c1))
 refine ⟨h9 _ fun j hj => AH.set_ne H _ hj, ?_⟩
 rw [a3.store, if_pos ⟨rfl, rfl, rfl, by omega⟩]
 simp only [Do_of, AV.cells]
 rw [setCells_all (by simp; omega)]
 have b1 := a1.set_ne hne (.row (List.take 0 z3 ++ [.int .i64 fl, .int .i64 fk]))
 have b3 := a3.set (.row (List.take 0 z3 ++ [.int .i64 fl, .int .i64 fk]))
 rw [b1.load]
 rw [show takeCells (List.take 0 z1 ++ c1) 0 6 true = some (.agg c1) from takeCells_whole hc]
 simp only [Do_of]
 rw [b3.load, show takeCells (List.take 0 z3 ++ [.int .i64 fl, .int .i64 fk]) 0 2 true = some (.agg [.int .i64 fl, .int .i64 fk]) from rfl]
 simp only [Do_of]
 exact hK _
theorem p_Type (hT : Cl Φ S.tab_Lex) (hW : Wk Φ) {kw : List UInt8 → Bool} {val : List UInt8 → Int} (hkw : ∀ x, Val Φ K.f47 [.str x] (.bool (kw x))) (hv : NumV Φ val) {num : List UInt8 → Bool} (htok : ∀ s, Val Φ K.f42 [.str s] (lexV2 (lexM num s))) (s : List UInt8)
  (hQ : ∀ H', Q (typV (parseT num kw val s)) H') : Φ K.f15 [.str s] H Q := by
 refine hW _ _ _ _ ?_
 refine S.cl_f15 hT ?_
 unfold S.f15
 have hz : ∀ cs : List AV, cs.length = 6 → cs.all AV.scalar = true → ∀ fl fk : Int, ∀ H', AV.weaks cs = (parseT num kw val s).1.cells → (parseT num kw val s).2 = (fl, fk) → Q (AV.weak (.tup [.agg cs, .agg [.int .i64 fl, .int .i64 fk]])) H' := by
  intro cs _ _ fl fk H' h1 h2
  have := hQ H'
  unfold typV at this
  rw [← h1, h2] at this
  exact this
 have hzero : ([.int .i64 0, .int .i64 0, .bool false, .lst .nil 0 [], .int .i64 0, .lst .nil 0 []] : List AV).length = 6 := rfl
 simp only [DoH_some, abox, if_true]
 have a1 : At ((H.push (.row [.int .i64 0, .int .i64 0, .bool false, .lst .nil 0 [], .int .i64 0, .lst .nil 0 []])).push (.row [.int .i64 0, .int .i64 0])) H.n (.row [.int .i64 0, .int .i64 0, .bool false, .lst .nil 0 [], .int .i64 0, .lst .nil 0 []]) := (At.new H _).push _
 have a3 : At ((H.push (.row [.int .i64 0, .int .i64 0, .bool false, .lst .nil 0 [], .int .i64 0, .lst .nil 0 []])).push (.row [.int .i64 0, .int .i64 0])) (H.n + 1) (.row [.int .i64 0, .int .i64 0]) := At.new (H.push _) _
 have hn4 : ((H.push (.row [.int .i64 0, .int .i64 0, .bool false, .lst .nil 0 [], .int .i64 0, .lst .nil 0 []])).push (.row [.int .i64 0, .int .i64 0])).n = H.n + 2 := rfl
 rw [show (H.push (.row [.int .i64 0, .int .i64 0, .bool false, .lst .nil 0 [], .int .i64 0, .lst .nil 0 []])).n = H.n + 1 from rfl]
 generalize (H.push (.row [.int .i64 0, .int .i64 0, .bool false, .lst .nil 0 [], .int .i64 0, .lst .nil 0 []])).push (.row [.int .i64 0, .int .i64 0]) = H4 at *
 refine p_begin hT htok s fun H6 hE => ?_
 have b1 := a1.ext hE
 have b3 := a3.ext hE
 have exr : ∀ a b : AV, aextract 0 (.tup [a, b]) = some a ∧ aextract 1 (.tup [a, b]) = some b := fun _ _ => ⟨rfl, rfl⟩
 cases hlex : lexM num s with
 | error e =>
  have hpt : parseT num kw val s = (tyZ, e.1, e.2) := by unfold parseT; rw [hlex]
  have he := lexM_err' hlex
  simp only [(exr _ _).1, (exr _ _).2, Do_of, DoH_some]
  rw [store_new H6 _ [.int .i64 e.1, .int .i64 e.2] 2 rfl rfl rfl]
  simp only [Do_of, Ac.addrp, Nat.zero_add]
  have c9 := At.new H6 (.row [.int .i64 e.1, .int .i64 e.2])
  have c1 := b1.push (.row [.int .i64 e.1, .int .i64 e.2])
  have c3 := b3.push (.row [.int .i64 e.1, .int .i64 e.2])
  rw [c9.load, show takeCells [.int .i64 e.1, .int .i64 e.2] 1 1 false = some (.int .i64 e.2) from rfl]
  simp only [Do_of, abin_neq, Gd_true]
  rw [if_pos (by simpa using he)]
  rw [show abuild [.int .i64 0, .int .i64 0, .bool false, .lst .nil 0 [], .int .i64 0, .lst .nil 0 []] [] = some (.agg [.int .i64 0, .int .i64 0, .bool false, .lst .nil 0 [], .int .i64 0, .lst .nil 0 []]) from rfl]
  simp only [Do_of]
  rw [c9.load, show takeCells [.int .i64 e.1, .int .i64 e.2] 0 2 true = some (.agg [.int .i64 e.1, .int .i64 e.2]) from rfl]
  simp only [Do_of]
  refine out_ok c1 c3 rfl rfl (by omega) rfl rfl (fun H' h => ?_) fun H' => hz _ rfl rfl _ _ H' (by rw [hpt, tyZ_cells]; rfl) (by rw [hpt])
  have : H'.o H6.n = .row [.int .i64 e.1, .int .i64 e.2] := by rw [h _ (Ne.symm (Nat.ne_of_lt b1.1))]; exact c9.2
  rw [Ac.rowl this]; rfl
 | ok ws =>
  simp only
  intro id hid ps
  obtain ⟨wf, hwl⟩ := begin_wf hlex
  simp only [(exr _ _).1, (exr _ _).2, Do_of, DoH_some]
  rw [store_new H6 _ [.int .i64 0, .int .i64 0] 2 rfl rfl rfl]
  simp only [Do_of, Ac.addrp, Nat.zero_add]
  have c9 := At.new H6 (.row [.int .i64 0, .int .i64 0])
  have c1 := b1.push (.row [.int .i64 0, .int .i64 0])
  have c3 := b3.push (.row [.int .i64 0, .int .i64 0])
  rw [c9.load, show takeCells [.int .i64 0, .int .i64 0] 1 1 false = some (.int .i64 0) from rfl]
  simp only [Do_of, abin_neq, Gd_true]
  rw [if_neg (by simp)]
  have ps2 : PS (H6.push (.row [.int .i64 0, .int .i64 0])) id (beginM ws) := ps.pushL _
  refine p_typ hT hW hkw hv (beginM ws).toks.length _ _ _ _ 1 ps2 wf (.inr (Nat.le_refl _)) fun H22 k22 p22 => ?_
  obtain ⟨t, ht⟩ : ∃ t, typM kw val (beginM ws).toks.length 1 (beginM ws) = t := ⟨_, rfl⟩
  rw [ht] at p22 ⊢
  have hpt : parseT num kw val s = if t.2.endM.fk ≠ 0 then (tyZ, t.2.endM.fl, t.2.endM.fk) else (t.1, 0, 0) := by unfold parseT; rw [hlex]; simp only [ht]
  have d1 := k22.2 _ _ (by omega : H.n ≠ id) c1
  have d3 := k22.2 _ _ (by omega : H.n + 1 ≠ id) c3
  rw [store_new H22 _ t.1.cells 6 t.1.len t.1.scalar rfl]
  simp only [Do_of]
  have e23 := At.new H22 (.row t.1.cells)
  have hid22 : id ≠ H22.n := Nat.ne_of_lt (lt_of_ps p22)
  refine p_end hT (p22.pushL _) fun H27 k27 p27 => ?_
  have f1 := k27.2 _ _ (by omega : H.n ≠ id) (d1.push _)
  have f3 := k27.2 _ _ (by omega : H.n + 1 ≠ id) (d3.push _)
  have f23 := k27.2 _ _ (Ne.symm hid22) e23
  rw [store_new H27 _ [.int .i64 t.2.endM.fl, .int .i64 t.2.endM.fk] 2 rfl rfl rfl]
  simp only [Do_of]
  have g28 := At.new H27 (.row [.int .i64 t.2.endM.fl, .int .i64 t.2.endM.fk])
  have g1 := f1.push (.row [.int .i64 t.2.endM.fl, .int .i64 t.2.endM.fk])
  have g3 := f3.push (.row [.int .i64 t.2.endM.fl, .int .i64 t.2.endM.fk])
  have g23 := f23.push (.row [.int .i64 t.2.endM.fl, .int .i64 t.2.endM.fk])
  rw [g28.load, show takeCells [.int .i64 t.2.endM.fl, .int .i64 t.2.endM.fk] 1 1 false = some (.int .i64 t.2.endM.fk) from rfl]
  simp only [Do_of, abin_neq, Gd_true]
  refine bool_ite8 (fun h => ?_) (fun h => ?_)
  · have hk : t.2.endM.fk ≠ 0 := by simpa using h
    rw [if_pos hk] at hpt
    rw [show abuild [.int .i64 0, .int .i64 0, .bool false, .lst .nil 0 [], .int .i64 0, .lst .nil 0 []] [] = some (.agg [.int .i64 0, .int .i64 0, .bool false, .lst .nil 0 [], .int .i64 0, .lst .nil 0 []]) from rfl]
    simp only [Do_of]
    rw [g28.load, show takeCells [.int .i64 t.2.endM.fl, .int .i64 t.2.endM.fk] 0 2 true = some (.agg [.int .i64 t.2.endM.fl, .int .i64 t.2.endM.fk]) from rfl]
    simp only [Do_of]
    refine out_ok g1 g3 rfl rfl (by omega) rfl rfl (fun H' h => ?_) fun H' => hz _ rfl rfl _ _ H' (by rw [hpt, tyZ_cells]; rfl) (by rw [hpt])
    have : H'.o H27.n = .row [.int .i64 t.2.endM.fl, .int .i64 t.2.endM.fk] := by rw [h _ (Ne.symm (Nat.ne_of_lt f1.1))]; exact g28.2
    rw [Ac.rowl this]; rfl
  · have hk : t.2.endM.fk = 0 := by simpa using h
    rw [if_neg (by simp [hk])] at hpt
    rw [g23.load, takeCells_whole t.1.len]
    simp only [Do_of]
    rw [show abuild [.int .i64 0, .int .i64 0] [] = some (.agg [.int .i64 0, .int .i64 0]) from rfl]
    simp only [Do_of]
    have key := out_ok (x9 := .fptr [.int .i64 0, .int .i64 0]) (K := fun a b H' => Q (AV.weak (.tup [a, b])) H') g1 g3 rfl rfl (by omega) t.1.len t.1.scalar (fl := 0) (fk := 0) (fun H' h => rfl) fun H' => hz _ t.1.len t.1.scalar 0 0 H' (by rw [hpt, GType.weaks]) (by rw [hpt])
    obtain ⟨H17, e1, _, e2⟩ := key
    exact ⟨H17, e1, e2⟩
noncomputable def printT (pt : List UInt8 → GType × Int × Int) (t : GType) : List UInt8 × Int :=
 open Classical in if (pt (trimR (runW t.W []))).2.2 ≠ 0 ∨ t ≠ (pt (trimR (runW t.W []))).1 then ([], 4) else (trimR (runW t.W []), 0)
end
end Rb

namespace Rb
open Go
def NP (w : Wd) : Prop := w ≠ [46] ∧ w ≠ [91]
section
variable (kw : Wd → Bool) (val : Wd → Int)
variable {s r : PSt} {R : List (Wd × Int)}
def ExpRP (n : Nat) : Prop := ∀ d s, Fine val s → s.toks.length ≤ n → (exprM kw val n d s).2.fk = 0 →
 Took val s (exprM kw val n d s).1.W (exprM kw val n d s).2 ∧ (∃ w l, (exprM kw val n d s).1.W = w :: l ∧ NP w) ∧
  ∀ m, (exprM kw val n d s).1.W.length ≤ m → ∀ r R, Ahead r (exprM kw val n d s).1.W R → NP (hdW R) → exprM kw val m d r = ((exprM kw val n d s).1, r.at R)
def ParRP (n : Nat) : Prop := ∀ d s, Fine val s → s.toks.length ≤ n → (partsM kw val n d s).2.fk = 0 →
 Took val s (GPart.Ws (partsM kw val n d s).1) (partsM kw val n d s).2 ∧
  ∀ m, (GPart.Ws (partsM kw val n d s).1).length ≤ m → ∀ r R, Ahead r (GPart.Ws (partsM kw val n d s).1) R → NP (hdW R) → partsM kw val m d r = ((partsM kw val n d s).1, r.at R)
end
end Rb

namespace Rb
open Go
abbrev elseW : Wd := [101, 108, 115, 101]
section
variable (kw : Wd → Bool) (val : Wd → Int)
variable {s r : PSt} {R : List (Wd × Int)}
def StsRP (n : Nat) : Prop := ∀ d s, Fine val s → s.toks.length ≤ n → (stmtsM kw val n d s).2.fk = 0 →
 Took val s (GStmt.Ws (stmtsM kw val n d s).1 ++ [[125]]) (stmtsM kw val n d s).2 ∧ (∃ w l, GStmt.Ws (stmtsM kw val n d s).1 ++ [[125]] = w :: l ∧ w ≠ elseW) ∧
  ∀ m, (GStmt.Ws (stmtsM kw val n d s).1 ++ [[125]]).length ≤ m → ∀ r R, Ahead r (GStmt.Ws (stmtsM kw val n d s).1 ++ [[125]]) R →
   ∃ l', stmtsM kw val m d r = (l', r.at R) ∧ GStmt.ers l' = GStmt.ers (stmtsM kw val n d s).1
def SB (B : Nat → Int → PSt → GStmt × PSt) (w : Wd) (n : Nat) : Prop := ∀ l s, Fine val s → s.toks.length ≤ n → (B n l s).2.fk = 0 →
 ∃ ws, (B n l s).1.W = w :: ws ∧ Took val s ws (B n l s).2 ∧ ∀ m, ws.length ≤ m → ∀ l' r R, Ahead r ws R → hdW R ≠ elseW → ∃ x', B m l' r = (x', r.at R) ∧ x'.er = (B n l s).1.er
section
variable {n : Nat} (hE : ExpRP kw val n) (hP : ParRP kw val n)
variable (hS : StsRP kw val n)
end
theorem SB.out {B : Nat → Int → PSt → GStmt × PSt} {w : Wd} {n : Nat} {d : Int} (h : SB val B w n) (hg : Fine val s) (hl : s.toks.length ≤ n + 1) (hw : s.hd.1 = w) (hne : w ≠ []) (h125 : w ≠ [125]) (helse : w ≠ elseW)
  (hk : (B n s.hd.2 s.adv).2.fk = 0) (hst : ∀ m r, r.fk = 0 → r.hd.1 = w → stmtF kw (exprM kw val m) (partsM kw val m) (fun d s => stmtsM kw val m d s) d r = B m r.hd.2 r.adv) :
  Took val s (B n s.hd.2 s.adv).1.W (B n s.hd.2 s.adv).2 ∧ (∃ w l, (B n s.hd.2 s.adv).1.W = w :: l ∧ w ≠ [125] ∧ w ≠ elseW) ∧
  ∀ m, (B n s.hd.2 s.adv).1.W.length ≤ m + 1 → ∀ r R, Ahead r (B n s.hd.2 s.adv).1.W R → hdW R ≠ elseW →
   ∃ x', stmtF kw (exprM kw val m) (partsM kw val m) (fun d s => stmtsM kw val m d s) d r = (x', r.at R) ∧ x'.er = (B n s.hd.2 s.adv).1.er := by
 have u := hg.adv (by rw [hw]; exact hne)
 rw [hw] at u
 have hl0 : s.adv.toks.length ≤ n := by have := u.len; simp at this; omega
 obtain ⟨ws, h1, h2, h3⟩ := h s.hd.2 s.adv u.1 hl0 hk
 rw [h1]
 refine ⟨u.trans h2, ⟨w, ws, rfl, h125, helse⟩, fun m hm r R ha hr => ?_⟩
 obtain ⟨g0, g1, g2, g3⟩ := ha.hd
 obtain ⟨x', r1, r2⟩ := h3 m (by simp at hm; omega) r.hd.2 r.adv R g2 hr
 exact ⟨x', by rw [hst m r g0 g1, r1, g3], r2⟩
end
end Rb

namespace Rb
open Go
theorem dec_small {u : Nat} (h : u < 10) : Go.Lib.decDigits u = [UInt8.ofNat (48 + u)] := by rw [Go.Lib.decDigits, dif_pos h]
theorem dec_step {a d : Nat} (h1 : 1 ≤ a) (hd : d < 10) : Go.Lib.decDigits (a * 10 + d) = Go.Lib.decDigits a ++ [UInt8.ofNat (48 + d)] := by
 rw [Go.Lib.decDigits, dif_neg (by omega), show (a * 10 + d) / 10 = a by omega, show (a * 10 + d) % 10 = d by omega]
theorem dig_back {c : UInt8} (h : 48 ≤ c.toNat ∧ c.toNat ≤ 57) : UInt8.ofNat (48 + (c.toNat - 48)) = c := by
 rw [show 48 + (c.toNat - 48) = c.toNat by omega]; exact UInt8.ofNat_toNat
theorem dec_parse : ∀ (l : List UInt8) (acc v : Nat), 1 ≤ acc → Go.Lib.parseUintM 18446744073709551615 acc l = .ok v → Go.Lib.decDigits v = Go.Lib.decDigits acc ++ l
 | [], acc, v, h0, h => by
  unfold Go.Lib.parseUintM at h
  cases h
  simp
 | c :: r, acc, v, h0, h => by
  unfold Go.Lib.parseUintM at h
  split at h
  · rename_i hc
    split at h
    · cases h
    · split at h
      · cases h
      · rw [dec_parse r _ v (by omega) h, dec_step h0 (by omega), dig_back hc, List.append_assoc]; rfl
  · cases h
theorem dec_word {w : List UInt8} {v : Nat} (h : Go.Lib.parseUintB 64 w = .ok v) (h0 : ¬ (1 < w.length ∧ w.head? = some 48)) : Go.Lib.decDigits v = w := by
 unfold Go.Lib.parseUintB at h
 split at h
 · cases h
 · rename_i hne
   cases w with
   | nil => exact absurd rfl hne
   | cons c r =>
    have h' : Go.Lib.parseUintM 18446744073709551615 0 (c :: r) = .ok v := h
    unfold Go.Lib.parseUintM at h'
    split at h'
    · rename_i hc
      split at h'
      · cases h'
      · split at h'
        · cases h'
        · cases r with
          | nil =>
           unfold Go.Lib.parseUintM at h'
           cases h'
           rw [dec_small (by omega), show 0 * 10 + (c.toNat - 48) = c.toNat - 48 by omega, dig_back hc]
          | cons d r =>
           have hc0 : c ≠ 48 := fun e => h0 ⟨by simp, by rw [e]; rfl⟩
           have hcn : c.toNat ≠ 48 := fun e => hc0 (UInt8.toNat_inj.1 e)
           rw [dec_parse (d :: r) _ v (by omega) h', dec_small (by omega), show 0 * 10 + (c.toNat - 48) = c.toNat - 48 by omega, dig_back hc]
           rfl
    · cases h'
section
variable {val : List UInt8 → Int} (hval : ∀ w v, Go.Lib.parseUintB 64 w = .ok v → val w = (v : Int))
include hval
end
def sepW (w : List UInt8) : UInt8 := if w = [59] ∨ w = [123] ∨ w = [125] then 10 else 32
def lineW (ws : List Wd) : List UInt8 := ws.flatMap fun w => w ++ [sepW w]
theorem lineW_cons (w : Wd) (r : List Wd) : lineW (w :: r) = (w ++ [sepW w]) ++ lineW r := rfl
theorem sep_stops (w : Wd) : stops (sepW w) := by unfold sepW; split; exact .inl rfl; exact .inr rfl
theorem runW_line : ∀ (ws : List Wd) (st : List UInt8), st.length + (lineW ws).length ≤ 4194304 → runW ws st = st ++ lineW ws
 | [], st, _ => by simp [runW_nil, lineW]
 | w :: r, st, h => by
  rw [lineW_cons, List.length_append] at h
  have e : w1 st w = st ++ (w ++ [sepW w]) := by
   unfold w1 sepW
   rw [if_neg (by omega)]
   split <;> simp
  rw [runW_cons, e, runW_line r _ (by rw [List.length_append]; omega), lineW_cons, List.append_assoc]
def lenW (ws : List Wd) : Nat := ws.foldr (fun w n => w.length + 1 + n) 0
theorem lenW_cons (w : Wd) (r : List Wd) : lenW (w :: r) = w.length + 1 + lenW r := rfl
theorem lineW_len : ∀ ws : List Wd, (lineW ws).length = lenW ws
 | [] => rfl
 | w :: r => by rw [lineW_cons, List.length_append, List.length_append, lineW_len r, lenW_cons]; rfl
section
variable {kw : List UInt8 → Bool} {val : List UInt8 → Int} (hval : ∀ w v, Go.Lib.parseUintB 64 w = .ok v → val w = (v : Int))
include hval
end
end Rb

namespace Rb
open Go
mutual
def nodT : GType → Int → Int
 | .mk _ _ _ fields _ elem, l => nodFs fields (nodEs elem (l - 1))
def nodEs : List GType → Int → Int
 | [], l => l
 | x :: r, l => if 0 < l then nodEs r (nodT x l) else l
def nodF : GField → Int → Int
 | .mk name type _ _, l => nodT type (l - name.length)
def nodFs : List GField → Int → Int
 | [], l => l
 | x :: r, l => if 0 < l then nodFs r (nodF x l) else l
end
theorem nodT_def (t : GType) (l : Int) : nodT t l = nodFs t.fields (nodEs t.elem (l - 1)) := by cases t; rw [nodT]
theorem nodF_def (f : GField) (l : Int) : nodF f l = nodT f.type (l - f.name.length) := by cases f; rw [nodF]
theorem lenW_app (a b : List Wd) : lenW (a ++ b) = lenW a + lenW b := by
 induction a with
 | nil => simp [lenW]
 | cons x r ih => rw [List.cons_append, lenW_cons, lenW_cons, ih]; omega
mutual
theorem nodT_len : ∀ (t : GType) (l : Int), sndT t = 0 → 0 < nodT t l → nodT t l < l ∧ (lenW t.W : Int) + 10 ≤ 32 * (l - nodT t l)
 | .mk kind size packed fields count elem, l, hs, h => by
  rw [nodT] at h ⊢
  have hE := nodEs_le elem (l - 1)
  have hF := nodFs_le fields (nodEs elem (l - 1))
  rw [sndT_eq] at hs
  simp only at hs
  split at hs
  · cases hs
  rename_i hon
  have hon : onlyM kind size packed fields.length count elem.length = true := by simpa using hon
  rw [GType.W_def]
  simp only
  by_cases h1 : kind = 1
  · rw [if_pos h1] at hs ⊢
    split at hs
    · rename_i hp
      have : lenW [117 :: Go.Lib.itoa (i64w (8 * size))] ≤ 5 := by rcases pow2_8 hp with e | e | e | e <;> (rw [e]; decide +kernel)
      omega
    · cases hs
  rw [if_neg h1] at hs ⊢
  by_cases h2 : kind = 2
  · rw [if_pos h2] at hs ⊢
    split at hs
    · rename_i hp
      have : lenW [97 :: Go.Lib.itoa (i64w (8 * size))] ≤ 5 := by rcases pow2_16 hp with e | e | e | e | e <;> (rw [e]; decide +kernel)
      omega
    · cases hs
  rw [if_neg h2] at hs ⊢
  by_cases h5 : kind = 5
  · rw [if_pos h5] at hs
    unfold onlyM at hon
    rw [if_neg (by omega), if_neg (by omega), if_pos h5] at hon
    simp only [Bool.and_eq_true, Bool.not_eq_true', beq_iff_eq] at hon
    obtain ⟨⟨⟨o1, o2⟩, o3⟩, o4⟩ := hon
    split at hs
    · cases hs
    rename_i hcnt
    rw [if_pos ⟨h5, o4⟩]
    match elem, o4, hs, h, hE with
    | [e], _, hs, h, hE =>
     rw [sndE] at hs
     rw [nodEs, nodEs] at h hF ⊢
     by_cases hl : 0 < l - 1
     · rw [if_pos hl] at h hF ⊢
       have hpos : 0 < nodT e (l - 1) := by omega
       have ih := nodT_len e (l - 1) hs hpos
       have hd : (Go.Lib.itoa count).length ≤ 5 := by
        rw [itoa_dec (by omega)]
        exact decD_len 5 count.toNat (by omega) (by decide)
       simp only [List.flatMap_cons, List.flatMap_nil, List.append_nil, lenW_cons, List.length_cons, List.length_nil]
       have hf0 : fields = [] := List.length_eq_zero_iff.1 o3
       rw [hf0, nodFs] at h ⊢
       omega
     · rw [if_neg hl] at h hF
       omega
  · rw [if_neg h5] at hs
    have h34 : kind = 3 ∨ kind = 4 := by
     unfold onlyM at hon
     rw [if_neg (by omega)] at hon
     split at hon
     · assumption
     · first | cases hon | (rw [if_neg h5] at hon; cases hon)
    split at hs
    · cases hs
    rw [if_neg (fun e => h5 e.1), if_pos h34]
    have hkw : (ofW (i64w (kind - 3)) [[115, 116, 114, 117, 99, 116], [117, 110, 105, 111, 110]]).length ≤ 6 := by rcases h34 with e | e <;> (rw [e]; decide +kernel)
    have hff := nodFs_len fields (nodEs elem (l - 1)) (packed := packed) (seen := []) hs h
    have e1 : lenW ((if packed = true then [[112, 97, 99, 107, 101, 100]] else []) ++ [123] :: (fields.flatMap GField.W ++ [[125]])) ≤ 7 + 2 + lenW (fields.flatMap GField.W) + 2 := by
     cases packed
     · simp [lenW_app, lenW_cons]; have : lenW [] = 0 := rfl; omega
     · simp [lenW_app, lenW_cons]; have : lenW [] = 0 := rfl; omega
    rw [lenW_cons]
    omega
theorem nodT_le : ∀ (t : GType) (l : Int), nodT t l ≤ l - 1
 | .mk kind size packed fields count elem, l => by
  rw [nodT]
  have hE := nodEs_le elem (l - 1)
  have hF := nodFs_le fields (nodEs elem (l - 1))
  omega
theorem nodEs_le : ∀ (ts : List GType) (l : Int), nodEs ts l ≤ l
 | [], l => by rw [nodEs]; omega
 | x :: r, l => by
  rw [nodEs]
  split
  · have := nodT_le x l; have := nodEs_le r (nodT x l); omega
  · omega
theorem nodF_le : ∀ (f : GField) (l : Int), nodF f l ≤ l - 1
 | .mk name type bits width, l => by rw [nodF]; have := nodT_le type (l - name.length); omega
theorem nodFs_le : ∀ (fs : List GField) (l : Int), nodFs fs l ≤ l
 | [], l => by rw [nodFs]; omega
 | x :: r, l => by
  rw [nodFs]
  split
  · have := nodF_le x l; have := nodFs_le r (nodF x l); omega
  · omega
theorem nodF_len : ∀ (f : GField) (l : Int) {packed : Bool} {seen : List Wd}, sndF packed seen f = 0 → 0 < nodF f l → (lenW f.W : Int) ≤ 32 * (l - nodF f l)
 | .mk name type bits width, l, packed, seen, hs, h => by
  rw [nodF] at h ⊢
  obtain ⟨hn, hst, hw0, hw1⟩ := sndF_zero hs
  simp only at hn hst hw0 hw1
  have ih := nodT_len type _ hst h
  have hw : bits = true → (Go.Lib.itoa width).length ≤ 3 := fun hb => by
   obtain ⟨a, b, c⟩ := hw1 hb
   have : width ≤ 64 := by
    rw [sndT_eq] at hst
    split at hst
    · cases hst
    · split at hst
      · rename_i hp; have := pow2_8 hp; omega
      · cases hst
   rw [itoa_dec a]
   exact decD_len 3 width.toNat (by omega) (by decide)
  rw [GField.W_def]
  simp only
  have e0 : (if name = [] then [95] else name).length ≤ name.length + 1 := by split <;> simp
  have e1 : lenW ((if bits = true then [[58], Go.Lib.itoa width] else []) ++ [[59]]) ≤ 8 := by
   cases bits with
   | true =>
    have := hw rfl
    simp [lenW_cons]; have : lenW [] = 0 := rfl; omega
   | false => show lenW [[59]] ≤ 8; decide
  rw [lenW_cons, lenW_app]
  omega
theorem nodFs_len : ∀ (fs : List GField) (l : Int) {packed : Bool} {seen : List Wd}, sndFs packed seen fs = 0 → 0 < nodFs fs l → (lenW (fs.flatMap GField.W) : Int) ≤ 32 * (l - nodFs fs l)
 | [], l, _, _, _, h => by rw [nodFs]; have : lenW ([] : List Wd) = 0 := rfl; simp [this]
 | x :: r, l, packed, seen, hs, h => by
  obtain ⟨h1, h2⟩ := sndFs_cons hs
  rw [nodFs] at h ⊢
  by_cases hl : 0 < l
  · rw [if_pos hl] at h ⊢
    have hle := nodFs_le r (nodF x l)
    have a := nodF_len x l h1 (by omega)
    have b := nodFs_len r (nodF x l) h2 h
    rw [List.flatMap_cons, lenW_app]
    omega
  · rw [if_neg hl] at h; omega
end
end Rb

namespace Rb
open Go
theorem tw_all {p : UInt8 → Bool} : ∀ (l : List UInt8), (∀ c ∈ l, p c = true) → l.takeWhile p = l
 | [], _ => rfl
 | x :: r, h => by rw [List.takeWhile_cons, if_pos (h x (by simp)), tw_all r fun c hc => h c (by simp [hc])]
theorem dw_all {p : UInt8 → Bool} : ∀ (l : List UInt8), (∀ c ∈ l, p c = true) → l.dropWhile p = []
 | [], _ => rfl
 | x :: r, h => by rw [List.dropWhile_cons, if_pos (h x (by simp)), dw_all r fun c hc => h c (by simp [hc])]
theorem dec_rec {u : Nat} (h : ¬ u < 10) : Go.Lib.decDigits u = Go.Lib.decDigits (u / 10) ++ [UInt8.ofNat (48 + u % 10)] := by rw [Go.Lib.decDigits, dif_neg h]
theorem dig_nat {k : Nat} (h : k < 10) : (UInt8.ofNat (48 + k)).toNat = 48 + k := by
 rw [UInt8.toNat_ofNat']; omega
theorem dec_isDig : ∀ (u : Nat), ∀ c ∈ Go.Lib.decDigits u, isDig c = true := by
 intro u
 induction u using Nat.strongRecOn with
 | ind u ih =>
  intro c hc
  by_cases h : u < 10
  · rw [dec_small h] at hc
    rw [List.mem_singleton.1 hc, isDig_iff, dig_nat h]; omega
  · rw [dec_rec h] at hc
    rcases List.mem_append.1 hc with hc | hc
    · exact ih (u / 10) (by omega) c hc
    · rw [List.mem_singleton.1 hc, isDig_iff, dig_nat (by omega)]; omega
theorem dv_snoc (a : Nat) (w : List UInt8) (c : UInt8) : dv a (w ++ [c]) = dv a w * 10 + (c.toNat - 48) := by
 unfold dv; rw [List.foldl_append]; rfl
theorem dec_dv : ∀ u : Nat, dv 0 (Go.Lib.decDigits u) = u := by
 intro u
 induction u using Nat.strongRecOn with
 | ind u ih =>
  by_cases h : u < 10
  · rw [dec_small h, dv_cons, dv_nil, dig_nat h]; omega
  · rw [dec_rec h, dv_snoc, ih (u / 10) (by omega), dig_nat (by omega)]; omega
theorem dec_ne : ∀ u : Nat, Go.Lib.decDigits u ≠ [] := by
 intro u
 by_cases h : u < 10
 · rw [dec_small h]; simp
 · rw [dec_rec h]; simp
theorem dec_hd : ∀ u : Nat, 1 ≤ u → ∃ c r, Go.Lib.decDigits u = c :: r ∧ c ≠ 48 := by
 intro u
 induction u using Nat.strongRecOn with
 | ind u ih =>
  intro h1
  by_cases h : u < 10
  · refine ⟨_, _, dec_small h, fun e => ?_⟩
    have := congrArg UInt8.toNat e
    rw [dig_nat h] at this
    have : (48 : UInt8).toNat = 48 := rfl
    omega
  · obtain ⟨c, r, e, hc⟩ := ih (u / 10) (by omega) (by omega)
    exact ⟨c, r ++ [UInt8.ofNat (48 + u % 10)], by rw [dec_rec h, e]; rfl, hc⟩
theorem dec_zero (u : Nat) : ¬ (1 < (Go.Lib.decDigits u).length ∧ (Go.Lib.decDigits u).head? = some 48) := by
 rintro ⟨h1, h2⟩
 by_cases h : u < 10
 · rw [dec_small h] at h1; simp at h1
 · obtain ⟨c, r, e, hc⟩ := dec_hd u (by omega)
   rw [e] at h2
   simp at h2
   exact hc h2
theorem dec_inj {u v : Nat} (h : Go.Lib.decDigits u = Go.Lib.decDigits v) : u = v := by
 have := congrArg (dv 0) h
 rwa [dec_dv, dec_dv] at this
theorem parse_decB {u : Nat} (h : u ≤ 18446744073709551615) : Go.Lib.parseUintB 64 (Go.Lib.decDigits u) = .ok u := by
 have hok : ∃ v, Go.Lib.parseUintB 64 (Go.Lib.decDigits u) = .ok v := by
  have := (parseM_ok (Go.Lib.decDigits u) 0 (dec_isDig u) (by omega)).2 (by rw [dec_dv]; exact h)
  obtain ⟨v, hv⟩ := this
  refine ⟨v, ?_⟩
  unfold Go.Lib.parseUintB
  rw [if_neg (dec_ne u)]
  exact hv
 obtain ⟨v, hv⟩ := hok
 rw [hv, dec_inj (dec_word hv (dec_zero u))]
theorem dec_wok {u : Nat} (h : u ≤ 1073741824) : WOK numX (Go.Lib.decDigits u) := by
 have hlen : (Go.Lib.decDigits u).length ≤ 10 := decD_len 10 u (by omega) (by decide)
 have hd := dec_isDig u
 have h0 := dec_zero u
 have hn : numX (Go.Lib.decDigits u) = true := by unfold numX; rw [parse_decB (by omega)]
 have hne := dec_ne u
 generalize Go.Lib.decDigits u = w at *
 cases w with
 | nil => exact absurd rfl hne
 | cons x l =>
  have hx := hd x (by simp)
  have hlet : ¬ isLet x = true := by
   intro e
   rw [isLet_iff] at e
   rw [isDig_iff] at hx
   omega
  have hall : (x :: l).takeWhile isDig = x :: l := tw_all _ fun c hc => hd c hc
  have hdrop : (x :: l).dropWhile isDig = [] := dw_all _ fun c hc => hd c hc
  have hx2 : x ≠ 10 ∧ x ≠ 32 := by
   rw [isDig_iff] at hx
   constructor <;> (intro e; rw [e] at hx; revert hx; decide)
  refine ⟨by simp, by omega, x, l, rfl, hx2.1, hx2.2, ?_⟩
  rw [wordM_cons, if_neg hlet, if_pos hx, hall, hdrop, if_pos ⟨⟨hn, fun e => h0 ⟨e.1, by rw [e.2]; rfl⟩⟩, rfl⟩]
theorem name_wok {w : Wd} (h : nameOk w = true) : WOK numX w := by
 cases w with
 | nil => cases h
 | cons c r =>
  have hl := nameOk_letters h
  have h' := h
  rw [nameOk] at h'
  simp only [Bool.and_eq_true, decide_eq_true_eq] at h'
  have hc : isLet c = true := hl
  have hx2 : c ≠ 10 ∧ c ≠ 32 := by
   rw [isLet_iff] at hc
   constructor <;> (intro e; rw [e] at hc; revert hc; decide)
  have hp : ∀ x ∈ c :: r, isPart x = true := by
   intro x hx
   rcases List.mem_cons.1 hx with rfl | hx
   · unfold isPart; rw [hc]; rfl
   · first | exact List.all_eq_true.1 h'.2 x hx | exact List.all_eq_true.1 h'.1.2 x hx
  have hlen : (c :: r).length ≤ 16 := by first | (have := h'.1.1; simp; omega) | (have := h'.1.2; simp; omega) | (have := h'.2; simp; omega)
  have hall : (c :: r).takeWhile isPart = c :: r := tw_all _ hp
  refine ⟨by simp, by omega, c, r, rfl, hx2.1, hx2.2, ?_⟩
  rw [wordM_cons, if_pos hc, hall, if_neg (by omega)]
def PW (w : Wd) : Prop := WOK numX w ∧ ∀ c ∈ w, blankP c = false
theorem PW.dec {u : Nat} (h : u ≤ 1073741824) : PW (Go.Lib.decDigits u) := by
 refine ⟨dec_wok h, fun c hc => ?_⟩
 have := dec_isDig u c hc
 rw [isDig_iff] at this
 unfold blankP
 rw [Bool.or_eq_false_iff]
 constructor <;> (rw [beq_eq_false_iff_ne]; intro e; rw [e] at this; revert this; decide)
theorem PW.name {w : Wd} (h : nameOk w = true) : PW w := by
 refine ⟨name_wok h, fun c hc => ?_⟩
 obtain ⟨x, l, hx⟩ : ∃ x l, w = x :: l := by
  cases w with
  | nil => cases hc
  | cons x l => exact ⟨x, l, rfl⟩
 subst hx
 have h' := h
 rw [nameOk] at h'
 simp only [Bool.and_eq_true, decide_eq_true_eq] at h'
 have hp : isPart c = true := by
  rcases List.mem_cons.1 hc with rfl | hx
  · have : isLet c = true := nameOk_letters h
    unfold isPart; rw [this]; rfl
  · first | exact List.all_eq_true.1 h'.2 c hx | exact List.all_eq_true.1 h'.1.2 c hx
 unfold blankP
 rw [Bool.or_eq_false_iff]
 constructor <;> (rw [beq_eq_false_iff_ne]; intro e; rw [e] at hp; revert hp; decide)
theorem PW.of {w : Wd} (h1 : 1 ≤ w.length ∧ w.length ≤ 20) (h2 : wordM numX w = some w.length) (h3 : ∀ c ∈ w, blankP c = false) : PW w := by
 refine ⟨⟨h1.1, h1.2, ?_⟩, h3⟩
 cases w with
 | nil => simp at h1
 | cons x l =>
  have := h3 x (by simp)
  unfold blankP at this
  rw [Bool.or_eq_false_iff, beq_eq_false_iff_ne, beq_eq_false_iff_ne] at this
  exact ⟨x, l, rfl, this.2, this.1, h2⟩
theorem pw91 : PW [91] := PW.of (by decide) (by decide +kernel) (by decide)
theorem pw93 : PW [93] := PW.of (by decide) (by decide +kernel) (by decide)
theorem pw123 : PW [123] := PW.of (by decide) (by decide +kernel) (by decide)
theorem pw125 : PW [125] := PW.of (by decide) (by decide +kernel) (by decide)
theorem pw58 : PW [58] := PW.of (by decide) (by decide +kernel) (by decide)
theorem pw59 : PW [59] := PW.of (by decide) (by decide +kernel) (by decide)
theorem pw95 : PW [95] := PW.of (by decide) (by decide +kernel) (by decide)
theorem pwPacked : PW [112, 97, 99, 107, 101, 100] := PW.name (by decide)
theorem pwU {z : Int} (h : pow2 z 8 = true) : PW (117 :: Go.Lib.itoa (i64w (8 * z))) := by
 rcases pow2_8 h with e | e | e | e <;> (rw [e]; exact PW.name (by decide +kernel))
theorem pwA {z : Int} (h : pow2 z 16 = true) : PW (97 :: Go.Lib.itoa (i64w (8 * z))) := by
 rcases pow2_16 h with e | e | e | e | e <;> (rw [e]; exact PW.name (by decide +kernel))
mutual
theorem typ_pw : ∀ (t : GType), sndT t = 0 → t.W ≠ [] ∧ ∀ w ∈ t.W, PW w
 | .mk kind size packed fields count elem, hs => by
  rw [sndT_eq] at hs
  simp only at hs
  split at hs
  · cases hs
  rename_i hon
  have hon : onlyM kind size packed fields.length count elem.length = true := by simpa using hon
  rw [GType.W_def]
  simp only
  by_cases h1 : kind = 1
  · rw [if_pos h1] at hs ⊢
    split at hs
    · rename_i hp
      exact ⟨by simp, fun w hw => by rw [List.mem_singleton.1 hw]; exact pwU hp⟩
    · cases hs
  rw [if_neg h1] at hs ⊢
  by_cases h2 : kind = 2
  · rw [if_pos h2] at hs ⊢
    split at hs
    · rename_i hp
      exact ⟨by simp, fun w hw => by rw [List.mem_singleton.1 hw]; exact pwA hp⟩
    · cases hs
  rw [if_neg h2] at hs ⊢
  by_cases h5 : kind = 5
  · rw [if_pos h5] at hs
    unfold onlyM at hon
    rw [if_neg (by omega), if_neg (by omega), if_pos h5] at hon
    simp only [Bool.and_eq_true, Bool.not_eq_true', beq_iff_eq] at hon
    obtain ⟨⟨⟨o1, o2⟩, o3⟩, o4⟩ := hon
    split at hs
    · cases hs
    rename_i hcnt
    rw [if_pos ⟨h5, o4⟩]
    match elem, o4, hs with
    | [e], _, hs =>
     rw [sndE] at hs
     obtain ⟨_, ih⟩ := typ_pw e hs
     refine ⟨by simp, fun w hw => ?_⟩
     simp only [List.flatMap_cons, List.flatMap_nil, List.append_nil, List.mem_cons] at hw
     rcases hw with rfl | rfl | rfl | hw
     · exact pw91
     · rw [itoa_dec (by omega)]; exact PW.dec (by omega)
     · exact pw93
     · exact ih w hw
  · rw [if_neg h5] at hs
    have h34 : kind = 3 ∨ kind = 4 := by
     unfold onlyM at hon
     rw [if_neg (by omega)] at hon
     split at hon
     · assumption
     · first | cases hon | (rw [if_neg h5] at hon; cases hon)
    split at hs
    · cases hs
    rw [if_neg (fun e => h5 e.1), if_pos h34]
    refine ⟨by simp, fun w hw => ?_⟩
    rcases List.mem_cons.1 hw with rfl | hw
    · rcases h34 with e | e <;> (rw [e]; exact PW.name (by decide +kernel))
    · rcases List.mem_append.1 hw with hw | hw
      · cases packed
        · simp at hw
        · simp at hw; subst hw; exact pwPacked
      · rcases List.mem_cons.1 hw with rfl | hw
        · exact pw123
        · rcases List.mem_append.1 hw with hw | hw
          · exact flds_pw fields hs w hw
          · rw [List.mem_singleton.1 hw]; exact pw125
theorem fld_pw : ∀ (f : GField) {packed : Bool} {seen : List Wd}, sndF packed seen f = 0 → ∀ w ∈ f.W, PW w
 | .mk name type bits width, packed, seen, hs, w, hw => by
  obtain ⟨hn, hst, hw0, hw1⟩ := sndF_zero hs
  simp only at hn hst hw0 hw1
  rw [GField.W_def] at hw
  simp only at hw
  rcases List.mem_cons.1 hw with rfl | hw
  · rcases hn with hn | hn
    · have : name ≠ [] := by intro e; rw [e] at hn; cases hn
      rw [if_neg this]; exact PW.name hn
    · rw [if_pos hn.1]; exact pw95
  · rcases List.mem_append.1 hw with hw | hw
    · exact (typ_pw type hst).2 w hw
    · rcases List.mem_append.1 hw with hw | hw
      · cases hb : bits with
        | true =>
         rw [hb] at hw
         obtain ⟨a, b, c⟩ := hw1 hb
         have h64 : width ≤ 64 := by
          rw [sndT_eq] at hst
          split at hst
          · cases hst
          · split at hst
            · rename_i hp; have := pow2_8 hp; omega
            · cases hst
         simp only [if_true, List.mem_cons, List.not_mem_nil, or_false] at hw
         rcases hw with rfl | rfl
         · exact pw58
         · rw [itoa_dec a]; exact PW.dec (by omega)
        | false => rw [hb] at hw; simp at hw
      · rw [List.mem_singleton.1 hw]; exact pw59
theorem flds_pw : ∀ (fs : List GField) {packed : Bool} {seen : List Wd}, sndFs packed seen fs = 0 → ∀ w ∈ fs.flatMap GField.W, PW w
 | [], _, _, _, w, hw => by cases hw
 | f :: r, packed, seen, hs, w, hw => by
  obtain ⟨h1, h2⟩ := sndFs_cons hs
  rw [List.flatMap_cons] at hw
  rcases List.mem_append.1 hw with hw | hw
  · exact fld_pw f h1 w hw
  · exact flds_pw r h2 w hw
end
end Rb

namespace Rb
open Go
section
variable (kw : List UInt8 → Bool) (val : List UInt8 → Int)
variable (hval : ∀ w, 0 ≤ val w)
include hval
end
end Rb

namespace Rb
open Go
theorem toks_last {num : List UInt8 → Bool} {w : Wd} (h : WOK num w) : ∀ (n : Nat) (line : Int), w.length ≤ n → toks num n w line = .ok [(w, line)] := by
 intro n line hn
 obtain ⟨g1, g2, x, l, rfl, h1, h2, hw⟩ := h
 cases n with
 | zero => simp at hn
 | succ n =>
  rw [toks, if_neg h1, if_neg h2, hw]
  simp only
  have d1 : (x :: l).drop (x :: l).length = [] := List.drop_length
  have d2 : (x :: l).take (x :: l).length = x :: l := List.take_length
  rw [d1, d2, toks_nil]
theorem lineW_snoc (ws : List Wd) (w : Wd) : lineW (ws ++ [w]) = lineW ws ++ (w ++ [sepW w]) := by unfold lineW; simp
theorem toks_trim {num : List UInt8 → Bool} : ∀ (ws : List Wd) (w : Wd) (n : Nat) (line : Int), (∀ v ∈ ws ++ [w], WOK num v) → (lineW ws ++ w).length ≤ n → ∃ ls, toks num n (lineW ws ++ w) line = .ok ls ∧ ls.map (·.1) = ws ++ [w]
 | [], w, n, line, h, hn => ⟨[(w, line)], by simpa [lineW] using toks_last (h w (by simp)) n line (by simpa [lineW] using hn), rfl⟩
 | u :: r, w, n, line, h, hn => by
  obtain ⟨g1, g2, x, l, rfl, h1, h2, hw⟩ := h u (by simp)
  have hs := sep_stops (x :: l)
  have e : lineW ((x :: l) :: r) ++ w = x :: (l ++ sepW (x :: l) :: (lineW r ++ w)) := by rw [lineW_cons]; simp
  rw [e] at hn ⊢
  generalize sepW (x :: l) = c at *
  simp only [List.length_cons, List.length_append] at hn
  cases n with
  | zero => omega
  | succ n =>
   rw [toks, if_neg h1, if_neg h2, wordM_stop hs, hw]
   simp only
   have d1 : (x :: (l ++ c :: (lineW r ++ w))).drop (x :: l).length = c :: (lineW r ++ w) := by
    rw [← List.cons_append, List.drop_left]
   have d2 : (x :: (l ++ c :: (lineW r ++ w))).take (x :: l).length = x :: l := by
    rw [← List.cons_append, List.take_left]
   rw [d1, d2]
   cases n with
   | zero => omega
   | succ n =>
    rcases hs with rfl | rfl
    · rw [toks, if_pos rfl]
      obtain ⟨ls, h3, h4⟩ := toks_trim r w n (line + 1) (fun v hv => h v (by simp at hv ⊢; right; exact hv)) (by simp; omega)
      rw [h3]
      exact ⟨(x :: l, line) :: ls, rfl, by rw [List.map_cons, h4]; rfl⟩
    · rw [toks, if_neg (by decide), if_pos rfl]
      obtain ⟨ls, h3, h4⟩ := toks_trim r w n line (fun v hv => h v (by simp at hv ⊢; right; exact hv)) (by simp; omega)
      rw [h3]
      exact ⟨(x :: l, line) :: ls, rfl, by rw [List.map_cons, h4]; rfl⟩
theorem trim_line {ws : List Wd} {w : Wd} (hw : w ≠ []) (hb : ∀ c ∈ w, blankP c = false) : trimR (lineW (ws ++ [w])) = lineW ws ++ w := by
 have hs : blankP (sepW w) = true := by unfold sepW; split <;> rfl
 obtain ⟨t, c, rfl⟩ : ∃ t c, w = t ++ [c] := by
  rcases List.eq_nil_or_concat w with e | ⟨t, c, e⟩
  · exact absurd e hw
  · exact ⟨t, c, by rw [e]; simp⟩
 rw [lineW_snoc, ← List.append_assoc, trimR_snoc, if_pos hs, ← List.append_assoc, trimR_snoc, if_neg (by rw [hb c (by simp)]; decide)]
section
variable {kw : Wd → Bool} {val : Wd → Int} (hval : ∀ w v, Go.Lib.parseUintB 64 w = .ok v → val w = (v : Int))
include hval
theorem numB : NumB val := fun n hn => by
 refine ⟨?_, hval _ _ (parse_decB (by omega))⟩
 have hd := dec_isDig n
 have hne := dec_ne n
 cases h : Go.Lib.decDigits n with
 | nil => exact absurd h hne
 | cons c r => rw [h] at hd; exact hd c (by simp)
theorem types_law {t : GType} (hs : soundM t = 0) (hk : keyT kw t = false) (hn : 0 < nodT t 20000) : printT (parseT numX kw val) t = (trimR (runW t.W []), 0) := by
 unfold soundM at hs
 split at hs
 · cases hs
 rename_i hdep
 obtain ⟨hne, hpw⟩ := typ_pw t hs
 have hlen := nodT_len t 20000 hs hn
 have hlW : lenW t.W ≤ 640000 := by omega
 have htext : runW t.W [] = lineW t.W := by rw [runW_line _ _ (by rw [lineW_len]; simp; omega), List.nil_append]
 obtain ⟨ws, w, hW⟩ : ∃ ws w, t.W = ws ++ [w] := by
  rcases List.eq_nil_or_concat t.W with e | ⟨ws, w, e⟩
  · exact absurd e hne
  · exact ⟨ws, w, by rw [e]; simp⟩
 have hwp := hpw w (by rw [hW]; simp)
 have htr : trimR (runW t.W []) = lineW ws ++ w := by
  rw [htext, hW]
  exact trim_line (by intro e; have := hwp.1.1; rw [e] at this; simp at this) hwp.2
 have hll : (lineW ws ++ w).length ≤ 640000 := by
  have h1 : (lineW t.W).length ≤ 640000 := by rw [lineW_len]; exact hlW
  rw [hW, lineW_snoc] at h1
  simp only [List.length_append] at h1 ⊢
  omega
 obtain ⟨ls, l1, l2⟩ := toks_trim (num := numX) ws w (lineW ws ++ w).length 1 (fun v hv => (hpw v (by rw [hW]; exact hv)).1) (Nat.le_refl _)
 have hL : lexM numX (trimR (runW t.W [])) = .ok ls := by rw [htr, lexM_small (by omega), l1]
 have hback := typ_back kw (numB hval) t hs hk 1 (by omega) (by
   show depT 65 t ≤ 64
   omega)
 have hls : ls.length = t.W.length := by rw [hW, ← l2]; simp
 have htoks : (beginM ls).toks.length = ls.length + 1 := by show (ls ++ _).length = _; simp
 have hA : Ahead (beginM ls) t.W [([], lastL ls)] := ⟨rfl, by simp, ls, rfl, by rw [l2, hW]⟩
 have hm := hback (beginM ls).toks.length (by omega) (beginM ls) _ hA
 have hend : ((beginM ls).at [([], lastL ls)]).endM = (beginM ls).at [([], lastL ls)] := by
  unfold PSt.endM
  rw [if_neg]
  simp [PSt.at]
 have hp : parseT numX kw val (trimR (runW t.W [])) = (t, 0, 0) := by
  unfold parseT
  rw [hL]
  have hm : typM kw val (beginM ls).toks.length 1 (beginM ls) = (t, (beginM ls).at [([], lastL ls)]) := hm
  simp only [hm, hend]
  rw [if_neg (by simp [PSt.at])]
 unfold printT
 rw [hp, if_neg (by simp)]
end
end Rb

namespace Rb
open Go
theorem bool_ite {b : Bool} {A B : Prop} (h1 : b = true → A) (h2 : b = false → B) : if b = true then A else B := ite_both h1 fun h => h2 (by simpa using h)
theorem bool_itef {b : Bool} {A B : Prop} (h1 : b = false → A) (h2 : b = true → B) : if b = false then A else B := ite_both h1 fun h => h2 (by simpa using h)
def nmRest : List UInt8 → Bool
 | [] => true
 | c :: r => isLet c && r.all isPart
section
variable {Φ : Calls'} {H : AH} {Q : Post}
theorem refName_spec {s : List UInt8} (hQ : Q (.bool (nameOk s)) H) : S.f78 Φ (.str s) H Q := by
 have fin : ∀ b : Bool, b = nameOk s → Q (.bool b) H := fun b h => by rw [h]; exact hQ
 clear hQ
 unfold S.f78
 simp only [alen_str, Do_of, abin_eql, Gd3_false]
 have k5 : s ≠ [] → s.length ≤ 16 → JoinP (S.f78_k5 Φ (.str s) Q) [] H := by
  intro hne hl
  simp only [JoinP_def, S.f78_k5]
  have hno : nmRest s = nameOk s := by
   clear fin
   cases s with
   | nil => exact absurd rfl hne
   | cons c r =>
    simp only [List.length_cons] at hl
    have : r.length < 16 := by omega
    simp [nameOk, nmRest, this]
  have main : ∀ (ys : List UInt8) (i : Nat), s.drop i = ys → (if i = 0 then nmRest ys else ys.all isPart) = nameOk s →
    LoopP (S.f78_l4 Φ (.str s) Q) ([.int .i64 i], H) := by
   intro ys
   induction ys with
   | nil =>
    intro i hi hq
    have hle := drop_nil_le hi
    refine LoopP.step ?_
    simp only [S.f78_l4, sl_zero, alen_str, abin_lss, Do_of, Gd_true]
    rw [if_neg (by simp only [decide_eq_true_eq]; omega)]
    exact fin _ (by rw [← hq]; split <;> rfl)
   | cons y ys ih =>
    intro i hi hq
    obtain ⟨hlt, hy, hd⟩ := drop_cons_lt hi
    refine LoopP.step ?_
    simp only [S.f78_l4, sl_zero, alen_str, abin_lss, Do_of, Gd_true]
    rw [if_pos (by simp only [decide_eq_true_eq]; omega)]
    have hx : aidxs (.str s) (.int .i64 i) = some (.int .u8 y.toNat) := by
     simp only [aidxs]; rw [if_pos (by omega)]; simp [hy]
    rw [hx]
    have k2 : ∀ b : Bool, b = !(if i = 0 then isLet y else isPart y) → JoinP (S.f78_k2 Φ ([.int .i64 i], H) (LoopP (S.f78_l4 Φ (.str s) Q)) Q) [.bool b] H := by
     intro b hb
     simp only [JoinP_def, S.f78_k2, sl_zero, Gd_true]
     refine bool_ite (fun h => ?_) (fun h => ?_)
     · refine fin _ ?_
       rw [← hq]
       rw [h] at hb
       by_cases hi0 : i = 0
       · rw [if_pos hi0] at hb ⊢
         simp at hb
         simp [hb, nmRest]
       · rw [if_neg hi0] at hb ⊢
         simp at hb
         simp [hb]
     · simp only [S.f78_k1, sl_zero, abin_add, Do_of]
       rw [wrap_i64 (by omega) (by omega), show ((i : Int) + 1) = ((i + 1 : Nat) : Int) by simp]
       refine ih (i + 1) hd ?_
       rw [← hq]
       rw [h] at hb
       by_cases hi0 : i = 0
       · rw [if_pos hi0] at hb ⊢
         simp at hb
         simp [hb, nmRest]
       · rw [if_neg hi0] at hb ⊢
         simp at hb
         simp [hb]
    have k3 : ∀ b : Bool, b = isLet y → JoinP (S.f78_k3 Φ (.int .u8 y.toNat) ([.int .i64 i], H) (LoopP (S.f78_l4 Φ (.str s) Q)) Q) [.bool b] H := by
     intro b hb
     simp only [JoinP_def, S.f78_k3, sl_zero, aun_not, Do_of, Gd3_true]
     refine bool_ite (fun h => ?_) (fun h => ?_)
     · have hl : isLet y = false := by rw [← hb]; simpa using h
       simp only [abin_eql, Do_of, Gd3_false]
       refine bool_itef (fun h1 => ?_) (fun h1 => ?_)
       · have hi0 : i ≠ 0 := by simp only [beq_eq_false_iff_ne, ne_eq] at h1; omega
         simp only [abin_neq, Do_of, Gd3_true]
         refine bool_ite (fun h2 => ?_) (fun h2 => ?_)
         · have h2' : y.toNat ≠ 95 := by simp only [bne_iff_ne, ne_eq] at h2; omega
           simp only [abin_lss, Do_of, Gd3_false]
           refine bool_itef (fun h3 => ?_) (fun h3 => ?_)
           · have h3' : ¬ y.toNat < 48 := by simp only [decide_eq_false_iff_not] at h3; omega
             simp only [abin_gtr, Do_of]
             refine k2 _ ?_
             rw [if_neg hi0]
             unfold isPart
             rw [hl]
             rw [Bool.eq_iff_iff]
             simp [isDig, h2']
             omega
           · have h3' : y.toNat < 48 := by simp only [decide_eq_true_eq] at h3; omega
             refine k2 _ ?_
             rw [if_neg hi0]
             unfold isPart
             rw [hl]
             rw [Bool.eq_iff_iff]
             simp [isDig, h2']
             omega
         · have h2' : y.toNat = 95 := by simp only [bne_eq_false_iff_eq] at h2; omega
           refine k2 _ ?_
           rw [if_neg hi0]
           simp [isPart, h2']
       · have hi0 : i = 0 := by simp only [beq_iff_eq] at h1; omega
         refine k2 _ ?_
         rw [if_pos hi0, hl]; rfl
     · have hl : isLet y = true := by rw [← hb]; simpa using h
       refine k2 _ ?_
       have : isPart y = true := by simp [isPart, hl]
       rw [hl, this]; simp
    simp only [Do_of, abin_geq, abin_leq, Gd3_true]
    refine bool_ite (fun h => k3 _ ?_) (fun h => k3 _ ?_)
    · have h' : 97 ≤ y.toNat := by simp only [ge_iff_le, decide_eq_true_eq] at h; omega
      rw [Bool.eq_iff_iff]; simp [isLet, h']; omega
    · have h' : ¬ 97 ≤ y.toNat := by simp only [ge_iff_le, decide_eq_false_iff_not] at h; omega
      simp [isLet, h']
  exact main s 0 rfl hno
 have k6 : ∀ b : Bool, (b = true ↔ (s = [] ∨ 16 < s.length)) → JoinP (S.f78_k6 Φ (.str s) Q) [.bool b] H := by
  intro b hb
  simp only [JoinP_def, S.f78_k6, sl_zero, Gd_true]
  refine ite_both (fun h => ?_) (fun h => ?_)
  · refine fin _ ?_
    rcases hb.1 h with rfl | h
    · rfl
    · cases s with
      | nil => rfl
      | cons c r =>
       simp at h
       have : ¬ r.length < 16 := by omega
       simp [nameOk, this]
  · have hn : ¬ (s = [] ∨ 16 < s.length) := fun y => h (hb.2 y)
    exact k5 (fun e => hn (.inl e)) (by omega)
 refine bool_itef (fun h => ?_) (fun h => ?_)
 · simp only [abin_gtr, Do_of]
   refine k6 _ ?_
   have hne : s ≠ [] := by rintro rfl; simp at h
   simp only [decide_eq_true_eq, gt_iff_lt, hne, false_or]; omega
 · refine k6 _ ?_
   have he : s = [] := by simpa using h
   simp [he]
theorem refsize_spec {n most : Int} (hm : most = 8 ∨ most = 16) (hQ : Q (.bool (pow2 n most)) H) : S.f77 Φ (.int .i64 n) (.int .i64 most) H Q := by
 have e : ∀ b : Bool, b = pow2 n most → Q (.bool b) H := fun b h => by rw [h]; exact hQ
 clear hQ
 unfold S.f77
 have step : ∀ k : Int, 1 ≤ k → k ≤ most → (n = k → pow2 n most = true) → (n ≠ k → LoopP (S.f77_l1 Φ (.int .i64 n) (.int .i64 most) Q) ([.int .i64 (2 * k)], H)) → LoopP (S.f77_l1 Φ (.int .i64 n) (.int .i64 most) Q) ([.int .i64 k], H) := by
  intro k h1 h2 h3 h4
  refine LoopP.step ?_
  simp only [S.f77_l1, sl_zero, abin_leq, abin_eql, abin_mul, Do_of, Gd_true]
  rw [if_pos (by simpa using h2)]
  refine bool_ite (fun h => ?_) (fun h => ?_)
  · exact e _ (h3 (by simpa using h)).symm
  · rw [wrap_i64 (by omega) (by omega)]
    exact h4 (by simpa using h)
 have stop : ∀ k : Int, most < k → pow2 n most = false → LoopP (S.f77_l1 Φ (.int .i64 n) (.int .i64 most) Q) ([.int .i64 k], H) := by
  intro k h1 h2
  refine LoopP.step ?_
  simp only [S.f77_l1, sl_zero, abin_leq, abin_eql, abin_mul, Do_of, Gd_true]
  rw [if_neg (by simp only [decide_eq_true_eq]; omega)]
  exact e _ h2.symm
 refine step 1 (by omega) (by omega) (fun h => by subst h; simp [pow2]; omega) fun n1 => ?_
 refine step (2 * 1) (by omega) (by omega) (fun h => by subst h; simp [pow2]; omega) fun n2 => ?_
 refine step (2 * (2 * 1)) (by omega) (by omega) (fun h => by subst h; simp [pow2]; omega) fun n4 => ?_
 refine step (2 * (2 * (2 * 1))) (by omega) (by omega) (fun h => by subst h; simp [pow2]; omega) fun n8 => ?_
 rcases hm with rfl | rfl
 · refine stop _ (by omega) ?_
   by_cases h : n ≤ 8
   · have : n ≠ 1 ∧ n ≠ 2 ∧ n ≠ 4 ∧ n ≠ 8 ∧ n ≠ 16 := by omega
     simp [pow2, this]
   · simp [pow2, h]
 · refine step (2 * (2 * (2 * (2 * 1)))) (by omega) (by omega) (fun h => by subst h; simp [pow2]) fun n16 => ?_
   refine stop _ (by omega) ?_
   have : n ≠ 1 ∧ n ≠ 2 ∧ n ≠ 4 ∧ n ≠ 8 ∧ n ≠ 16 := by omega
   simp [pow2, this]
theorem field_type {t : GType} {i : Nat} {f : GField} (H : AH) (hi : t.fields[i]? = some f) : aload H 6 true (.fptr (((t.fields.flatMap GField.cells).drop (i * 9)).drop 1)) = some (.agg f.type.cells) := by
 have hlt := (List.getElem?_eq_some_iff.1 hi).1
 show takeCells _ 0 6 true = _
 rw [flatMap_drop GField.len]
 have hd : t.fields.drop i = f :: t.fields.drop (i + 1) := by
  rw [List.drop_eq_getElem_cons hlt]
  rw [List.getElem?_eq_getElem hlt] at hi
  simp at hi
  rw [hi]
 rw [hd, List.flatMap_cons, GField.cells_eq, List.cons_append, List.drop_succ_cons, List.drop_zero, List.append_assoc]
 exact takeCells_app f.type.len
theorem field_name {t : GType} {i : Nat} {f : GField} (H : AH) (hi : t.fields[i]? = some f) : aload H 1 false (.fptr (((t.fields.flatMap GField.cells).drop (i * 9)).drop 0)) = some (.str f.name) := by
 have hlt := (List.getElem?_eq_some_iff.1 hi).1
 show takeCells _ 0 1 false = _
 rw [List.drop_zero, flatMap_drop GField.len]
 have hd : t.fields.drop i = f :: t.fields.drop (i + 1) := by
  rw [List.drop_eq_getElem_cons hlt]
  rw [List.getElem?_eq_getElem hlt] at hi
  simp at hi
  rw [hi]
 rw [hd, List.flatMap_cons, GField.cells_eq]
 rfl
theorem refDepth_spec {t : GType} {m : Nat} (h1 : 1 ≤ m) (h2 : m ≤ 65) (hlf : t.fields.length ≤ 9223372036854775807) (hle : t.elem.length ≤ 9223372036854775807)
  (hf : 1 < m → ∀ f ∈ t.fields, Val Φ K.f39 [.agg f.type.cells, .int .i64 ((m - 1 : Nat) : Int)] (.int .i64 (depT (m - 1) f.type)))
  (he : 1 < m → ∀ x ∈ t.elem, Val Φ K.f39 [.agg x.cells, .int .i64 ((m - 1 : Nat) : Int)] (.int .i64 (depT (m - 1) x)))
  (hQ : Q (.int .i64 (depT m t)) H) : S.f39 Φ (.agg t.cells) (.int .i64 m) H Q := by
 have hsub : 1 < m → IntKind.wrap .i64 ((m : Int) - 1) = ((m - 1 : Nat) : Int) := fun h => by rw [wrap_i64 (by omega) (by omega)]; omega
 have k5 : ∀ v : Int, 0 ≤ v → v ≤ 64 → v + 1 = depT m t → JoinP (S.f39_k5 Φ Q) [.int .i64 v] H := by
  intro v hv0 hv1 hv
  simp only [JoinP_def, S.f39_k5, sl_zero, abin_add, Do_of]
  rw [wrap_i64 (by omega) (by omega), hv]
  exact hQ
 have hdep : depT m t = (if 1 < m then max (depFs (m - 1) t.fields) (depEs (m - 1) t.elem) else 0) + 1 := by rw [depT_eq]; split <;> rfl
 rw [hdep] at k5
 have loopE : ∀ (xs : List GType) (i : Nat) (acc : Int), t.elem.drop i = xs → 0 ≤ acc → acc ≤ 64 → max acc (if 1 < m then depEs (m - 1) xs else 0) = (if 1 < m then max (depFs (m - 1) t.fields) (depEs (m - 1) t.elem) else 0) →
   LoopP (S.f39_l7 Φ (.int .i64 m) (.fptr t.cells) Q) ([.int .i64 acc, .int .i64 i], H) := by
  intro xs
  induction xs with
  | nil =>
   intro i acc hd a0 a1 ha
   have hle' := drop_nil_le hd
   refine LoopP.step ?_
   simp only [S.f39_l7, sl_zero, sl_succ, ty_addr, ty_l5, lstA_len', Do_of, abin_lss, Gd3_true]
   rw [if_neg (by simp only [decide_eq_true_eq]; omega)]
   simp only [JoinP_def, S.f39_k6, sl_zero, Gd_true, Bool.false_eq_true, if_false]
   refine k5 acc a0 a1 ?_
   have : (if 1 < m then depEs (m - 1) ([] : List GType) else 0) = 0 := by split <;> rfl
   rw [this] at ha
   omega
  | cons x xs ih =>
   intro i acc hd a0 a1 ha
   obtain ⟨hlt, hx, hd'⟩ := drop_cons_lt hd
   refine LoopP.step ?_
   simp only [S.f39_l7, sl_zero, sl_succ, ty_addr, ty_l5, lstA_len', Do_of, abin_lss, Gd3_true]
   rw [if_pos (by simp only [decide_eq_true_eq]; omega)]
   simp only [abin_gtr, Do_of, JoinP_def, S.f39_k6, sl_zero, Gd_true]
   refine bool_ite (fun h => ?_) (fun h => ?_)
   · have hm1 : 1 < m := by simp only [decide_eq_true_eq, gt_iff_lt] at h; omega
     rw [if_pos hm1] at ha
     simp only [depEs] at ha
     have hb := dep_le x (m - 1) (by omega)
     simp only [S.f39_k4, sl_zero, sl_succ, ty_addr, ty_l5, Do_of]
     rw [lstA_addr hlt]
     simp only [Do_of]
     rw [elA_load GType.len (by decide) _ hx]
     simp only [Do_of, abin_sub]
     rw [hsub hm1]
     refine he hm1 x (List.mem_of_getElem? hx) _ _ ?_
     simp only [abin_gtr, Do_of, Gd_true]
     have next : ∀ v : Int, v = max acc (depT (m - 1) x) → JoinP (S.f39_k3 Φ ([.int .i64 acc, .int .i64 i], H) (LoopP (S.f39_l7 Φ (.int .i64 m) (.fptr t.cells) Q)) Q) [.int .i64 v] H := by
      intro v hv
      simp only [JoinP_def, S.f39_k3, sl_zero, sl_succ, abin_add, Do_of]
      rw [wrap_i64 (by omega) (by omega), show ((i : Int) + 1) = ((i + 1 : Nat) : Int) by simp]
      exact ih (i + 1) v hd' (by omega) (by omega) (by rw [if_pos hm1, hv]; omega)
     refine bool_ite (fun h => next _ ?_) (fun h => next _ ?_)
     · simp only [decide_eq_true_eq, gt_iff_lt] at h; omega
     · simp only [decide_eq_false_iff_not, gt_iff_lt] at h; omega
   · have hm1 : ¬ 1 < m := by simp only [decide_eq_false_iff_not, gt_iff_lt] at h; omega
     refine k5 acc a0 a1 ?_
     rw [if_neg hm1] at ha ⊢
     omega
 have k8 : ∀ acc : Int, 0 ≤ acc → acc ≤ 64 → max acc (if 1 < m then depEs (m - 1) t.elem else 0) = (if 1 < m then max (depFs (m - 1) t.fields) (depEs (m - 1) t.elem) else 0) → JoinP (S.f39_k8 Φ (.int .i64 m) (.fptr t.cells) Q) [.int .i64 acc] H := by
  intro acc a0 a1 ha
  simp only [JoinP_def, S.f39_k8, sl_zero]
  exact loopE t.elem 0 acc rfl a0 a1 ha
 have loopF : ∀ (xs : List GField) (i : Nat) (acc : Int), t.fields.drop i = xs → 0 ≤ acc → acc ≤ 64 → max (max acc (if 1 < m then depFs (m - 1) xs else 0)) (if 1 < m then depEs (m - 1) t.elem else 0) = (if 1 < m then max (depFs (m - 1) t.fields) (depEs (m - 1) t.elem) else 0) →
   LoopP (S.f39_l10 Φ (.int .i64 m) (.fptr t.cells) Q) ([.int .i64 acc, .int .i64 i], H) := by
  intro xs
  induction xs with
  | nil =>
   intro i acc hd a0 a1 ha
   have hle' := drop_nil_le hd
   refine LoopP.step ?_
   simp only [S.f39_l10, sl_zero, sl_succ, ty_addr, ty_l3, lstA_len', Do_of, abin_lss, Gd3_true]
   rw [if_neg (by simp only [decide_eq_true_eq]; omega)]
   simp only [JoinP_def, S.f39_k9, sl_zero, Gd_true, Bool.false_eq_true, if_false]
   refine k8 acc a0 a1 ?_
   have : (if 1 < m then depFs (m - 1) ([] : List GField) else 0) = 0 := by split <;> rfl
   rw [this] at ha
   omega
  | cons x xs ih =>
   intro i acc hd a0 a1 ha
   obtain ⟨hlt, hx, hd'⟩ := drop_cons_lt hd
   refine LoopP.step ?_
   simp only [S.f39_l10, sl_zero, sl_succ, ty_addr, ty_l3, lstA_len', Do_of, abin_lss, Gd3_true]
   rw [if_pos (by simp only [decide_eq_true_eq]; omega)]
   simp only [abin_gtr, Do_of, JoinP_def, S.f39_k9, sl_zero, Gd_true]
   refine bool_ite (fun h => ?_) (fun h => ?_)
   · have hm1 : 1 < m := by simp only [decide_eq_true_eq, gt_iff_lt] at h; omega
     rw [if_pos hm1] at ha
     simp only [depFs, depF_eq] at ha
     have hb := dep_le x.type (m - 1) (by omega)
     simp only [S.f39_k2, sl_zero, sl_succ, ty_addr, ty_l3, Do_of]
     rw [lstA_addr hlt]
     simp only [Do_of, elA, afaddr, field_type H hx, abin_sub]
     rw [hsub hm1]
     refine hf hm1 x (List.mem_of_getElem? hx) _ _ ?_
     simp only [abin_gtr, Do_of, Gd_true]
     have next : ∀ v : Int, v = max acc (depT (m - 1) x.type) → JoinP (S.f39_k1 Φ ([.int .i64 acc, .int .i64 i], H) (LoopP (S.f39_l10 Φ (.int .i64 m) (.fptr t.cells) Q)) Q) [.int .i64 v] H := by
      intro v hv
      simp only [JoinP_def, S.f39_k1, sl_zero, sl_succ, abin_add, Do_of]
      rw [wrap_i64 (by omega) (by omega), show ((i : Int) + 1) = ((i + 1 : Nat) : Int) by simp]
      refine ih (i + 1) v hd' (by omega) (by omega) ?_
      rw [if_pos hm1] at ha ⊢
      rw [hv, ← ha]
      omega
     refine bool_ite (fun h => next _ ?_) (fun h => next _ ?_)
     · simp only [decide_eq_true_eq, gt_iff_lt] at h; omega
     · simp only [decide_eq_false_iff_not, gt_iff_lt] at h; omega
   · have hm1 : ¬ 1 < m := by simp only [decide_eq_false_iff_not, gt_iff_lt] at h; omega
     refine k8 acc a0 a1 ?_
     simp only [if_neg hm1] at ha ⊢
     omega
 unfold S.f39
 simp only [ty_box, DoH_some]
 refine loopF t.fields 0 0 rfl (by omega) (by omega) ?_
 split
 · have := depFs_le t.fields (m - 1) (by omega)
   omega
 · omega
end
end Rb

namespace Rb
open Go
theorem tnot {x : Bool} (h : true = !x) : x = false := by cases x; rfl; cases h
theorem fnot {x : Bool} (h : false = !x) : x = true := by cases x; cases h; rfl
section
variable {Φ : Calls'} {H : AH} {Q : Post}
theorem refinner_spec (hT : Cl Φ S.tab_Lex) {t : GType} (hlf : t.fields.length ≤ 9223372036854775807) (hf : ∀ f ∈ t.fields, Val Φ K.f40 [.agg f.type.cells] (.int .i64 (sndT f.type)))
  (he : ∀ e ∈ t.elem, Val Φ K.f40 [.agg e.cells] (.int .i64 (sndT e))) (hQ : ∀ H', Q (.int .i64 (sndT t)) H') : S.f40 Φ (.agg t.cells) H Q := by
 have fin : ∀ v H', v = sndT t → Q (.int .i64 v) H' := fun v H' h => by rw [h]; exact hQ H'
 clear hQ
 rw [sndT_eq] at fin
 unfold S.f40
 simp only [ty_box, DoH_some, ty_addr, ty_l0, Do_of, abin_eql, Gd_true]
 have hlen0 : ∀ n : Nat, decide ((n : Int) > 0) = !(n == 0) := fun n => by rw [Bool.eq_iff_iff]; simp; omega
 have num : (t.kind = 1 ∨ t.kind = 2) → JoinP (S.f40_k31 Φ (.fptr t.cells) (.int .i64 t.kind) Q) [.bool true] H := by
  intro hk
  have ho : onlyM t.kind t.size t.packed t.fields.length t.count t.elem.length = (!t.packed && t.fields.length == 0 && t.count == 0 && t.elem.length == 0) := by unfold onlyM; rw [if_pos hk]
  rw [ho] at fin
  clear ho
  have k1 : ∀ b : Bool, (∀ H', Q (.int .i64 (if b = true then 9 else 0)) H') → JoinP (S.f40_k1 Φ Q) [.bool b] H := by
   intro b hb
   simp only [JoinP_def, S.f40_k1, sl_zero, Gd_true]
   cases b
   · exact hb H
   · exact hb H
  have k3 : (!t.packed && t.fields.length == 0 && t.count == 0 && t.elem.length == 0) = true → JoinP (S.f40_k3 Φ (.fptr t.cells) Q) [] H := by
   intro hc
   rw [hc] at fin
   simp only [Bool.true_eq_false, if_false] at fin
   simp only [JoinP_def, S.f40_k3, ty_addr, ty_l0, ty_l1, Do_of, abin_eql, Gd3_true]
   refine bool_ite (fun h => ?_) (fun h => ?_)
   · have hk1 : t.kind = 1 := by simpa using h
     rw [if_pos hk1] at fin
     refine S.cl_f77 hT (refsize_spec (.inl rfl) ?_)
     simp only [aun_not, Do_of, S.f40_k2, sl_zero, Gd3_false, ty_addr, ty_l0, abin_eql, Gd3_true, hk1]
     refine bool_itef (fun h => ?_) (fun h => ?_)
     · rw [if_neg (by decide)]
       refine k1 _ fun H' => fin _ _ ?_
       have : pow2 t.size 8 = true := by simpa using h
       rw [if_pos this]; rfl
     · refine k1 _ fun H' => fin _ _ ?_
       have : pow2 t.size 8 = false := by simpa using h
       rw [this]; rfl
   · have hk1 : t.kind ≠ 1 := by simpa using h
     have hk2 : t.kind = 2 := by omega
     rw [if_neg hk1, if_pos hk2] at fin
     simp only [S.f40_k2, sl_zero, Gd3_false, ty_addr, ty_l0, ty_l1, abin_eql, Gd3_true, hk2, Do_of, if_true, BEq.rfl]
     refine S.cl_f77 hT (refsize_spec (.inr rfl) ?_)
     simp only [aun_not, Do_of]
     refine k1 _ fun H' => fin _ _ ?_
     cases pow2 t.size 16 <;> rfl
  have k4 : ∀ b : Bool, b = !(!t.packed && t.fields.length == 0 && t.count == 0 && t.elem.length == 0) → JoinP (S.f40_k4 Φ (.fptr t.cells) Q) [.bool b] H := by
   intro b hb
   simp only [JoinP_def, S.f40_k4, sl_zero, Gd_true]
   refine bool_ite (fun h => ?_) (fun h => ?_)
   · refine fin _ _ ?_
     rw [h] at hb
     rw [if_pos (by first | exact tnot hb | exact fnot hb)]
   · rw [h] at hb
     exact k3 (by first | exact tnot hb | exact fnot hb)
  have k5 : ∀ b : Bool, b = !(!t.packed && t.fields.length == 0 && t.count == 0) → JoinP (S.f40_k5 Φ (.fptr t.cells) Q) [.bool b] H := by
   intro b hb
   simp only [JoinP_def, S.f40_k5, sl_zero, Gd3_false, ty_addr, ty_l5, lstA_len', abin_gtr, Do_of, hlen0]
   refine bool_itef (fun h => ?_) (fun h => ?_)
   · refine k4 _ ?_
     rw [h] at hb
     have : (!t.packed && t.fields.length == 0 && t.count == 0) = true := by first | exact tnot hb | exact fnot hb
     rw [this]; rfl
   · refine k4 _ ?_
     rw [h] at hb
     have : (!t.packed && t.fields.length == 0 && t.count == 0) = false := by first | exact tnot hb | exact fnot hb
     rw [this]; rfl
  have k6 : ∀ b : Bool, b = !(!t.packed && t.fields.length == 0) → JoinP (S.f40_k6 Φ (.fptr t.cells) Q) [.bool b] H := by
   intro b hb
   simp only [JoinP_def, S.f40_k6, sl_zero, Gd3_false, ty_addr, ty_l4, abin_neq, Do_of]
   refine bool_itef (fun h => ?_) (fun h => ?_)
   · refine k5 _ ?_
     rw [h] at hb
     have : (!t.packed && t.fields.length == 0) = true := by first | exact tnot hb | exact fnot hb
     rw [this]; rfl
   · refine k5 _ ?_
     rw [h] at hb
     have : (!t.packed && t.fields.length == 0) = false := by first | exact tnot hb | exact fnot hb
     rw [this]; rfl
  simp only [JoinP_def, S.f40_k31, sl_zero, Gd_true, if_true, ty_addr, ty_l2, ty_l3, Do_of, Gd3_false, lstA_len', abin_gtr, hlen0]
  refine bool_itef (fun h => ?_) (fun h => ?_)
  · exact k6 _ (by rw [h]; rfl)
  · exact k6 _ (by rw [h]; rfl)
 refine bool_ite (fun h1 => ?_) (fun h1 => ?_)
 · rw [h1]; exact num (.inl (by simpa using h1))
 have hk1 : t.kind ≠ 1 := by simpa using h1
 refine (fun (x : ∀ b : Bool, b = (t.kind == 2) → JoinP (S.f40_k31 Φ (.fptr t.cells) (.int .i64 t.kind) Q) [.bool b] H) => x _ rfl) fun b hb => ?_
 by_cases hk2 : t.kind = 2
 · rw [hb, show (t.kind == 2) = true by simpa using hk2]; exact num (.inr hk2)
 have hb' : b = false := by rw [hb]; simpa using hk2
 subst hb'
 simp only [JoinP_def, S.f40_k31, sl_zero, Gd_true, Bool.false_eq_true, if_false, abin_eql, Do_of]
 refine bool_ite (fun h5 => ?_) (fun h5 => ?_)
 ·
   have hk5 : t.kind = 5 := by simpa using h5
   have ho : onlyM t.kind t.size t.packed t.fields.length t.count t.elem.length = (t.size == 0 && !t.packed && t.fields.length == 0 && t.elem.length == 1) := by
    unfold onlyM; rw [if_neg (by omega), if_neg (by omega), if_pos hk5]
   rw [ho, if_neg hk1, if_neg hk2, if_pos hk5] at fin
   clear ho
   have k9 : (t.size == 0 && !t.packed && t.fields.length == 0 && t.elem.length == 1) = true → JoinP (S.f40_k9 Φ (.fptr t.cells) Q) [] H := by
    intro hc
    rw [hc] at fin
    simp only [Bool.true_eq_false, if_false] at fin
    obtain ⟨e, hel⟩ : ∃ e, t.elem = [e] := by
     simp only [Bool.and_eq_true, beq_iff_eq] at hc
     exact List.length_eq_one_iff.1 hc.2
    have k8 : ∀ b : Bool, (b = true ↔ (t.count < 1 ∨ 65536 < t.count)) → JoinP (S.f40_k8 Φ (.fptr t.cells) Q) [.bool b] H := by
     intro b hb
     simp only [JoinP_def, S.f40_k8, sl_zero, Gd_true]
     refine ite_both (fun h => ?_) (fun h => ?_)
     · exact fin _ _ (by rw [if_pos (hb.1 h)])
     · rw [if_neg fun x => h (hb.2 x)] at fin
       simp only [S.f40_k7, ty_addr, ty_l5, Do_of]
       have ha : aiaddr none 6 (lstA GType.cells t.elem) (.int .i64 0) = some (elA GType.cells 6 t.elem 0) := lstA_addr (by rw [hel]; simp)
       rw [ha]
       simp only [Do_of]
       rw [elA_load GType.len (by decide) _ (show t.elem[0]? = some e by rw [hel]; rfl)]
       simp only [Do_of]
       refine he e (by rw [hel]; simp) _ _ ?_
       exact fin _ _ (by rw [hel]; rfl)
    simp only [JoinP_def, S.f40_k9, ty_addr, ty_l4, Do_of, abin_lss, Gd3_false, abin_gtr]
    refine bool_itef (fun h => ?_) (fun h => ?_)
    · refine k8 _ ?_
      have h' : ¬ t.count < 1 := by simpa using h
      simp only [decide_eq_true_eq, gt_iff_lt]; omega
    · refine k8 _ ?_
      have h' : t.count < 1 := by simpa using h
      simp only [true_iff]; omega
   have k10 : ∀ b : Bool, b = !(t.size == 0 && !t.packed && t.fields.length == 0 && t.elem.length == 1) → JoinP (S.f40_k10 Φ (.fptr t.cells) Q) [.bool b] H := by
    intro b hb
    simp only [JoinP_def, S.f40_k10, sl_zero, Gd_true]
    refine bool_ite (fun h => ?_) (fun h => ?_)
    · refine fin _ _ ?_
      rw [h] at hb
      rw [if_pos (by first | exact tnot hb | exact fnot hb)]
    · rw [h] at hb
      exact k9 (by first | exact tnot hb | exact fnot hb)
   have hlen1 : ((t.elem.length : Int) != 1) = !(t.elem.length == 1) := by rw [Bool.eq_iff_iff]; simp; omega
   have k11 : ∀ b : Bool, b = !(t.size == 0 && !t.packed && t.fields.length == 0) → JoinP (S.f40_k11 Φ (.fptr t.cells) Q) [.bool b] H := by
    intro b hb
    simp only [JoinP_def, S.f40_k11, sl_zero, Gd3_false, ty_addr, ty_l5, lstA_len', abin_neq, Do_of, hlen1]
    refine bool_itef (fun h => ?_) (fun h => ?_)
    · refine k10 _ ?_
      rw [h] at hb
      have : (t.size == 0 && !t.packed && t.fields.length == 0) = true := by first | exact tnot hb | exact fnot hb
      rw [this]; rfl
    · refine k10 _ ?_
      rw [h] at hb
      have : (t.size == 0 && !t.packed && t.fields.length == 0) = false := by first | exact tnot hb | exact fnot hb
      rw [this]; rfl
   have k12 : ∀ b : Bool, b = !(!t.packed && t.fields.length == 0) → JoinP (S.f40_k12 Φ (.fptr t.cells) Q) [.bool b] H := by
    intro b hb
    simp only [JoinP_def, S.f40_k12, sl_zero, Gd3_false, ty_addr, ty_l1, abin_neq, Do_of]
    refine bool_itef (fun h => ?_) (fun h => ?_)
    · refine k11 _ ?_
      rw [h] at hb
      have : (!t.packed && t.fields.length == 0) = true := by first | exact tnot hb | exact fnot hb
      rw [Bool.and_assoc, this, Bool.and_true]; rfl
    · refine k11 _ ?_
      rw [h] at hb
      have : (!t.packed && t.fields.length == 0) = false := by first | exact tnot hb | exact fnot hb
      rw [Bool.and_assoc, this, Bool.and_false]; rfl
   simp only [ty_addr, ty_l2, ty_l3, Do_of, Gd3_false, lstA_len', abin_gtr, hlen0]
   refine bool_itef (fun h => ?_) (fun h => ?_)
   · exact k12 _ (by rw [h]; rfl)
   · exact k12 _ (by rw [h]; rfl)
 have hk5 : t.kind ≠ 5 := by simpa using h5
 rw [if_neg hk1, if_neg hk2, if_neg hk5] at fin
 have k30 : ∀ b : Bool, (b = true ↔ (t.kind = 3 ∨ t.kind = 4)) → JoinP (S.f40_k30 Φ (.fptr t.cells) Q) [.bool b] H := by
  intro b hb
  simp only [JoinP_def, S.f40_k30, sl_zero, Gd_true]
  refine ite_both (fun hg => ?_) (fun hg => ?_)
  · have hk := hb.1 hg
    have ho : onlyM t.kind t.size t.packed t.fields.length t.count t.elem.length = (t.size == 0 && t.count == 0 && t.elem.length == 0) := by
     unfold onlyM; rw [if_neg (by omega), if_pos hk]
    rw [ho] at fin
    clear ho
    have k27 : (t.size == 0 && t.count == 0 && t.elem.length == 0) = true → JoinP (S.f40_k27 Φ (.fptr t.cells) Q) [] H := by
     intro hc
     rw [hc] at fin
     simp only [Bool.true_eq_false, if_false] at fin
     have k26 : ∀ b : Bool, (b = true ↔ (t.fields.length < 1 ∨ 32 < t.fields.length)) → JoinP (S.f40_k26 Φ (.fptr t.cells) Q) [.bool b] H := by
      intro b hb
      simp only [JoinP_def, S.f40_k26, sl_zero, Gd_true]
      refine ite_both (fun h => ?_) (fun h => ?_)
      · exact fin _ _ (by rw [if_pos (hb.1 h)])
      · have hn : ¬ (t.fields.length < 1 ∨ 32 < t.fields.length) := fun x => h (hb.2 x)
        rw [if_neg hn] at fin
        simp only [S.f40_k25]
        have main : ∀ (r : List GField) (i : Nat) (H1 : AH), t.fields.drop i = r → sndFs t.packed ((t.fields.take i).map GField.name) r = sndFs t.packed [] t.fields → LoopP (S.f40_l24 Φ (.fptr t.cells) Q) ([.int .i64 i], H1) := by
         intro r
         induction r with
         | nil =>
          intro i H1 hd hs
          have hle := drop_nil_le hd
          refine LoopP.step ?_
          simp only [S.f40_l24, sl_zero, ty_addr, ty_l3, lstA_len', Do_of, abin_lss, Gd_true]
          rw [if_neg (by simp only [decide_eq_true_eq]; omega)]
          exact fin _ _ (by rw [← hs]; rfl)
         | cons f r ih =>
          intro i H1 hd hs
          obtain ⟨hlt, hi, hd'⟩ := drop_cons_lt hd
          refine LoopP.step ?_
          simp only [S.f40_l24, sl_zero, ty_addr, ty_l3, lstA_len', Do_of, abin_lss, Gd_true]
          rw [if_pos (by simp only [decide_eq_true_eq]; omega), lstA_addr hlt]
          simp only [Do_of]
          rw [elA_load GField.len (by decide) _ hi]
          simp only [Do_of, DoH_some, abox, if_true]
          rw [store_new _ _ _ 9 f.len f.scalar rfl]
          simp only [Do_of, afaddr, Nat.add_zero, Nat.zero_add]
          have r0 : aload (H1.push (.row f.cells)) 1 false (.ptr H1.n 0) = some (.str f.name) := by rw [load_push, fd_t0]
          have r7 : aload (H1.push (.row f.cells)) 1 false (.ptr H1.n 7) = some (.bool f.bits) := by rw [load_push, fd_t7]
          have r8 : aload (H1.push (.row f.cells)) 1 false (.ptr H1.n 8) = some (.int .i64 f.width) := by rw [load_push, fd_t8]
          have r1 : aload (H1.push (.row f.cells)) 6 true (.ptr H1.n 1) = some (.agg f.type.cells) := by rw [load_push, fd_t1]
          have rk : aload (H1.push (.row f.cells)) 1 false (.ptr H1.n 1) = some (.int .i64 f.type.kind) := by rw [load_push, fd_k]
          have rs : aload (H1.push (.row f.cells)) 1 false (.ptr H1.n 2) = some (.int .i64 f.type.size) := by rw [load_push, fd_s]
          generalize H1.push (.row f.cells) = H2 at *
          generalize H1.n = id at *
          simp only [sndFs] at hs
          have bad : ∀ v H', v = sndF t.packed ((t.fields.take i).map GField.name) f → v ≠ 0 → Q (.int .i64 v) H' := fun v H' hv hv0 => by
           refine fin _ _ ?_
           rw [← hs, if_pos (by rw [← hv]; exact hv0), hv]
          have good : sndF t.packed ((t.fields.take i).map GField.name) f = 0 → JoinP (S.f40_k15 Φ ([.int .i64 i], H1) (LoopP (S.f40_l24 Φ (.fptr t.cells) Q)) Q) [] H2 := by
           intro hz
           rw [if_neg (by simpa using hz)] at hs
           simp only [JoinP_def, S.f40_k15, sl_zero, abin_add, Do_of]
           rw [wrap_i64 (by omega) (by omega), show ((i : Int) + 1) = ((i + 1 : Nat) : Int) by simp]
           refine ih (i + 1) H2 hd' ?_
           rw [List.take_add_one, hi]
           simpa using hs
          generalize hL : (LoopP (S.f40_l24 Φ (.fptr t.cells) Q)) = L at *
          have k20 : ¬ (nameOk f.name = false ∧ (f.name ≠ [] ∨ f.bits = false)) → ¬ (f.name ≠ [] ∧ ((t.fields.take i).map GField.name).contains f.name = true) → JoinP (S.f40_k20 Φ (.fptr t.cells) (.ptr id 0) ([.int .i64 i], H1) L Q) [] H2 := by
           intro n1 n2
           rw [sndF_eq, if_neg n1, if_neg n2] at bad good
           simp only [JoinP_def, S.f40_k20, afaddr, Nat.zero_add, Do_of, r1]
           refine hf f (List.mem_of_getElem? hi) _ _ ?_
           simp only [abin_neq, Do_of, Gd_true]
           refine ite_both (fun h => ?_) (fun h => ?_)
           · have h' : sndT f.type ≠ 0 := by simpa using h
             exact bad _ _ (by rw [if_pos h']) h'
           · have h0 : sndT f.type = 0 := by simpa using h
             rw [if_neg (by simpa using h0)] at bad good
             have k18 : ∀ b : Bool, (b = true ↔ ((f.bits = false ∧ f.width ≠ 0) ∨ (f.bits = true ∧ (f.type.kind ≠ 1 ∨ t.packed = true)))) → JoinP (S.f40_k18 Φ (.ptr id 0) ([.int .i64 i], H1) L Q) [.bool b] H2 := by
              intro b hb
              simp only [JoinP_def, S.f40_k18, sl_zero, Gd_true]
              refine ite_both (fun h => ?_) (fun h => ?_)
              · exact bad _ _ (by rw [if_pos (hb.1 h)]) (by decide)
              · have hn8 : ¬ ((f.bits = false ∧ f.width ≠ 0) ∨ (f.bits = true ∧ (f.type.kind ≠ 1 ∨ t.packed = true))) := fun x => h (hb.2 x)
                rw [if_neg hn8] at bad good
                have k16 : ∀ b : Bool, (b = true ↔ (f.bits = true ∧ (f.width < 0 ∨ 8 * f.type.size < f.width ∨ (f.width = 0 ∧ f.name ≠ [])))) → JoinP (S.f40_k16 Φ ([.int .i64 i], H1) L Q) [.bool b] H2 := by
                 intro b hb
                 simp only [JoinP_def, S.f40_k16, sl_zero, Gd_true]
                 refine ite_both (fun h => ?_) (fun h => ?_)
                 · exact bad _ _ (by rw [if_pos (hb.1 h)]) (by decide)
                 · exact good (by rw [if_neg fun x => h (hb.2 x)])
                simp only [S.f40_k17, afaddr, Nat.zero_add, Do_of, r7, Gd3_true]
                refine ite_both (fun hbits => ?_) (fun hbits => ?_)
                · have hk1 : f.type.kind = 1 := by
                    by_cases hk : f.type.kind = 1
                    · exact hk
                    · exact absurd (.inr ⟨hbits, .inl hk⟩) hn8
                  have hsz : 1 ≤ f.type.size ∧ f.type.size ≤ 8 := by
                   rw [sndT_eq, hk1] at h0
                   split at h0
                   · cases h0
                   · simp only [if_true] at h0
                     split at h0
                     · rename_i hp
                       simp [pow2] at hp
                       omega
                     · cases h0
                  simp only [r8, abin_lss, Do_of, Gd3_false]
                  refine ite_both (fun hw => ?_) (fun hw => ?_)
                  · simp only [rs, Do_of, abin_mul]
                    rw [wrap_i64 (by omega) (by omega)]
                    simp only [abin_gtr, Do_of, Gd3_false]
                    refine ite_both (fun hw2 => ?_) (fun hw2 => ?_)
                    · simp only [abin_eql, Do_of, Gd3_true]
                      refine ite_both (fun hw3 => ?_) (fun hw3 => ?_)
                      · simp only [Nat.add_zero, r0, Do_of, abin_strne]
                        refine k16 _ ?_
                        simp only [decide_eq_false_iff_not, gt_iff_lt, beq_iff_eq] at hw hw2 hw3
                        simp [hbits, hw3]; omega
                      · refine k16 _ ?_
                        simp only [decide_eq_false_iff_not, gt_iff_lt, beq_iff_eq] at hw hw2 hw3
                        simp [hbits, hw3]; omega
                    · refine k16 _ ?_
                      simp only [decide_eq_false_iff_not, Decidable.not_not, gt_iff_lt] at hw2
                      simp [hbits, hw2]
                  · refine k16 _ ?_
                    simp only [decide_eq_false_iff_not, Decidable.not_not] at hw
                    simp [hbits, hw]
                · refine k16 _ ?_
                  simp [hbits]
             have k19 : ∀ b : Bool, (b = true ↔ (f.bits = false ∧ f.width ≠ 0)) → JoinP (S.f40_k19 Φ (.fptr t.cells) (.ptr id 0) ([.int .i64 i], H1) L Q) [.bool b] H2 := by
              intro b hb
              simp only [JoinP_def, S.f40_k19, sl_zero, Gd3_false, afaddr, Nat.zero_add, Do_of, r7]
              refine ite_both (fun h => ?_) (fun h => ?_)
              · have hn : ¬ (f.bits = false ∧ f.width ≠ 0) := fun x => by rw [hb.2 x] at h; cases h
                simp only [Gd3_true]
                refine ite_both (fun hbits => ?_) (fun hbits => ?_)
                · have hl2 : aload H2 1 false (.fptr (t.cells.drop 2)) = some (.bool t.packed) := ty_l2 t H2
                  simp only [hl2, Do_of]
                  refine ite_both (fun hp => ?_) (fun hp => ?_)
                  · simp only [Nat.add_zero, rk, Do_of, abin_neq]
                    refine k18 _ ?_
                    simp [hbits, hp]
                  · refine k18 _ ?_
                    simp only [Bool.not_eq_false] at hp
                    simp [hbits, hp]
                · refine k18 _ ?_
                  simp only [Bool.not_eq_true] at hbits
                  simp only [hbits] at hn ⊢
                  simp at hn
                  simp [hn]
              · refine k18 _ ?_
                have := hb.1 (by simpa using h)
                simp [this]
             simp only [r7, aun_not, Do_of, Gd3_true, r8, abin_neq]
             refine ite_both (fun hbits => ?_) (fun hbits => ?_)
             · refine k19 _ ?_
               simp only [Bool.not_eq_true'] at hbits
               simp [hbits]
             · refine k19 _ ?_
               simp only [Bool.not_eq_true', Bool.not_eq_false] at hbits
               simp [hbits]
          have k23 : ∀ b : Bool, (b = true ↔ (nameOk f.name = false ∧ (f.name ≠ [] ∨ f.bits = false))) → JoinP (S.f40_k23 Φ (.fptr t.cells) (.ptr id 0) ([.int .i64 i], H1) L Q) [.bool b] H2 := by
           intro b hb
           simp only [JoinP_def, S.f40_k23, sl_zero, Gd_true]
           refine ite_both (fun h => ?_) (fun h => ?_)
           · exact bad _ _ (by rw [sndF_eq, if_pos (hb.1 h)]) (by decide)
           · have n1 : ¬ (nameOk f.name = false ∧ (f.name ≠ [] ∨ f.bits = false)) := fun x => h (hb.2 x)
             simp only [S.f40_k22]
             have inner : ∀ (d k : Nat), k + d = i → (∀ w ∈ t.fields.take k, ¬ (f.name ≠ [] ∧ w.name = f.name)) → LoopP (S.f40_l21 Φ (.fptr t.cells) (.ptr id 0) ([.int .i64 i], H1) L Q) ([.int .i64 k], H2) := by
              intro d
              induction d with
              | zero =>
               intro k hk hw
               refine LoopP.step ?_
               simp only [S.f40_l21, sl_zero, abin_lss, Do_of, Gd_true]
               rw [if_neg (by simp only [decide_eq_true_eq]; omega)]
               refine k20 n1 fun x => ?_
               obtain ⟨x1, x2⟩ := x
               rw [List.contains_iff_mem, List.mem_map] at x2
               obtain ⟨w, hwm, hwn⟩ := x2
               have hki : k = i := by omega
               rw [hki] at hw
               exact hw w hwm ⟨x1, hwn⟩
              | succ d ih2 =>
               intro k hk hw
               have hklt : k < t.fields.length := by omega
               obtain ⟨w, hwk⟩ : ∃ w, t.fields[k]? = some w := ⟨_, List.getElem?_eq_getElem hklt⟩
               refine LoopP.step ?_
               simp only [S.f40_l21, sl_zero, abin_lss, Do_of, Gd_true]
               rw [if_pos (by simp only [decide_eq_true_eq]; omega)]
               simp only [afaddr, Nat.add_zero, r0, Do_of, abin_strne, Gd3_true]
               have k14 : ∀ b : Bool, (b = true ↔ (f.name ≠ [] ∧ w.name = f.name)) → JoinP (S.f40_k14 Φ ([.int .i64 k], H2) (LoopP (S.f40_l21 Φ (.fptr t.cells) (.ptr id 0) ([.int .i64 i], H1) L Q)) Q) [.bool b] H2 := by
                intro b hb
                simp only [JoinP_def, S.f40_k14, sl_zero, Gd_true]
                refine ite_both (fun h => ?_) (fun h => ?_)
                · obtain ⟨x1, x2⟩ := hb.1 h
                  refine bad _ _ ?_ (by decide)
                  have hc : ((t.fields.take i).map GField.name).contains f.name = true := by
                   rw [List.contains_iff_mem, List.mem_map]
                   refine ⟨w, ?_, x2⟩
                   have : (t.fields.take i)[k]? = some w := by rw [List.getElem?_take, if_pos (by omega)]; exact hwk
                   exact List.mem_of_getElem? this
                  rw [sndF_eq, if_neg n1, if_pos ⟨x1, hc⟩]
                · simp only [S.f40_k13, sl_zero, abin_add, Do_of]
                  rw [wrap_i64 (by omega) (by omega), show ((k : Int) + 1) = ((k + 1 : Nat) : Int) by simp]
                  refine ih2 (k + 1) (by omega) fun w' hw' => ?_
                  rw [List.take_add_one, hwk] at hw'
                  rcases List.mem_append.1 hw' with hw' | hw'
                  · exact hw w' hw'
                  · simp at hw'
                    subst hw'
                    exact fun x => h (hb.2 x)
               refine bool_ite (fun hne => ?_) (fun hne => ?_)
               · have hl3 : aload H2 1 false (.fptr (t.cells.drop 3)) = some (lstA GField.cells t.fields) := ty_l3 t H2
                 simp only [hl3, Do_of]
                 rw [lstA_addr hklt]
                 simp only [Do_of, elA, afaddr, field_name H2 hwk, Nat.add_zero, r0, abin_streq']
                 refine k14 _ ?_
                 have : f.name ≠ [] := by simpa using hne
                 simp [this]
               · refine k14 _ ?_
                 have : f.name = [] := by simpa using hne
                 simp [this]
             exact inner i 0 (by omega) fun w hw => by simp at hw
          simp only [r0, Do_of]
          refine S.cl_f78 hT (refName_spec ?_)
          simp only [aun_not, Do_of, Gd3_true]
          refine bool_ite (fun hn => ?_) (fun hn => ?_)
          · have hn' : nameOk f.name = false := by simpa using hn
            simp only [r0, Do_of, abin_streq', Gd3_true]
            refine bool_ite (fun he => ?_) (fun he => ?_)
            · simp only [r7, Do_of, aun_not]
              refine k23 _ ?_
              have : f.name = [] := by simpa using he
              have h0 : nameOk [] = false := rfl
              simp [this, h0]
            · refine k23 _ ?_
              have : f.name ≠ [] := by simpa using he
              simp [hn', this]
          · refine k23 _ ?_
            have hn' : nameOk f.name = true := by simpa using hn
            simp [hn']
        exact main t.fields 0 H rfl rfl
     simp only [JoinP_def, S.f40_k27, ty_addr, ty_l3, lstA_len', Do_of, abin_eql, Gd3_false, abin_gtr]
     refine bool_itef (fun h => ?_) (fun h => ?_)
     · refine k26 _ ?_
       simp only [beq_eq_false_iff_ne, ne_eq] at h
       simp only [decide_eq_true_eq, gt_iff_lt]; omega
     · refine k26 _ ?_
       simp only [beq_iff_eq] at h
       simp only [true_iff]; omega
    have k28 : ∀ b : Bool, b = !(t.size == 0 && t.count == 0 && t.elem.length == 0) → JoinP (S.f40_k28 Φ (.fptr t.cells) Q) [.bool b] H := by
     intro b hb
     simp only [JoinP_def, S.f40_k28, sl_zero, Gd_true]
     refine bool_ite (fun h => ?_) (fun h => ?_)
     · refine fin _ _ ?_
       rw [h] at hb
       rw [if_pos (by first | exact tnot hb | exact fnot hb)]
     · rw [h] at hb
       exact k27 (by first | exact tnot hb | exact fnot hb)
    have k29 : ∀ b : Bool, b = !(t.size == 0 && t.count == 0) → JoinP (S.f40_k29 Φ (.fptr t.cells) Q) [.bool b] H := by
     intro b hb
     simp only [JoinP_def, S.f40_k29, sl_zero, Gd3_false, ty_addr, ty_l5, lstA_len', abin_gtr, Do_of, hlen0]
     refine bool_itef (fun h => ?_) (fun h => ?_)
     · refine k28 _ ?_
       rw [h] at hb
       have : (t.size == 0 && t.count == 0) = true := by first | exact tnot hb | exact fnot hb
       rw [this]; rfl
     · refine k28 _ ?_
       rw [h] at hb
       have : (t.size == 0 && t.count == 0) = false := by first | exact tnot hb | exact fnot hb
       rw [this]; rfl
    simp only [ty_addr, ty_l1, ty_l4, Do_of, abin_neq, Gd3_false]
    refine bool_itef (fun h => ?_) (fun h => ?_)
    · refine k29 _ ?_
      have : (t.size == 0) = true := by simpa using h
      rw [this]; rfl
    · refine k29 _ ?_
      have : (t.size == 0) = false := by simpa using h
      rw [this]; rfl
  · have hk : ¬ (t.kind = 3 ∨ t.kind = 4) := fun x => hg (hb.2 x)
    refine fin _ _ ?_
    have : onlyM t.kind t.size t.packed t.fields.length t.count t.elem.length = false := by unfold onlyM; rw [if_neg (by omega), if_neg hk, if_neg hk5]
    rw [if_pos this]
 refine bool_ite (fun h3 => ?_) (fun h3 => ?_)
 · refine k30 _ ?_
   rw [h3]
   simp only [beq_iff_eq] at h3
   simp [h3]
 · refine k30 _ ?_
   simp only [beq_eq_false_iff_ne, ne_eq] at h3
   simp [h3]
end
section
variable {C : Ctx} (hGT : GTok C) (hT : Cl (ACall C) S.tab_Lex)
include hGT hT
theorem refDepth_val : ∀ (m : Nat), 1 ≤ m → m ≤ 65 → ∀ t : GType, t.ok → Val (ACall C) K.f39 [.agg t.cells, .int .i64 m] (.int .i64 (depT m t)) := by
 intro m
 induction m with
 | zero => intro h; omega
 | succ m ih =>
  intro _ hm t ht
  obtain ⟨h1, h2, h3, h4⟩ := Rb.ok_parts ht
  exact fun H Q hQ => S.cl_f39 hT (refDepth_spec (by omega) hm h1 h3 (fun h f hf => ih (by omega) (by omega) f.type (h2 f hf)) (fun h e he => ih (by omega) (by omega) e (h4 e he)) hQ)
theorem refinner_val : ∀ t : GType, t.ok → Val (ACall C) K.f40 [.agg t.cells] (.int .i64 (sndT t)) := by
 refine GType.ind fun t ihf ihe ht => ?_
 obtain ⟨h1, h2, h3, h4⟩ := Rb.ok_parts ht
 exact Val.of hGT (by simp [AV.frozs, AV.froz, GType.froz]) rfl fun Q hQ => S.cl_f40 hT (refinner_spec hT h1 (fun f hf => ihf f hf (h2 f hf)) (fun e he => ihe e he (h4 e he)) hQ)
theorem refSound_val (t : GType) (ht : t.ok) : Val (ACall C) K.f13 [.agg t.cells] (.int .i64 (soundM t)) := by
 intro H Q hQ
 refine S.cl_f13 hT ?_
 unfold S.f13
 simp only [ty_box, DoH_some, ty_all, Do_of]
 refine refDepth_val hGT hT 65 (by omega) (by omega) t ht _ _ ?_
 simp only [abin_gtr, Do_of, Gd_true]
 unfold soundM at hQ
 refine ite_both (fun h => ?_) (fun h => ?_)
 · rw [if_pos (by simpa using h)] at hQ; exact hQ
 · rw [if_neg (by simpa using h)] at hQ
   exact refinner_val hGT hT t ht _ _ hQ
end
end Rb

namespace Rb
open Go
theorem elt_load (H : AH) {t : GType} {i : Nat} {e : GType} (h : t.elem[i]? = some e) : aload H 6 true (elA GType.cells 6 t.elem i) = some (.agg e.cells) := elA_load GType.len (by decide) H h
theorem flt_addr {t : GType} {i : Nat} : afaddr 1 (elA GField.cells 9 t.fields i) = some (.fptr (((t.fields.flatMap GField.cells).drop (i * 9)).drop 1)) := rfl
theorem fln_addr {t : GType} {i : Nat} : afaddr 0 (elA GField.cells 9 t.fields i) = some (.fptr (((t.fields.flatMap GField.cells).drop (i * 9)).drop 0)) := rfl
section
variable {Φ : Calls'} {H : AH} {Q : Post}
theorem nodes_spec (hT : Cl Φ S.tab_Lex) {t : GType} (ho : t.ok) (hE : ∀ e ∈ t.elem, ∀ l : Int, -140737488351232 ≤ l → l ≤ 20000 → Val Φ K.f11 [.agg e.cells, .int .i64 l] (.int .i64 (nodT e l)))
  (hF : ∀ f ∈ t.fields, ∀ l : Int, -140737488351232 ≤ l → l ≤ 20000 → Val Φ K.f11 [.agg f.type.cells, .int .i64 l] (.int .i64 (nodT f.type l))) {l : Int} (h1 : -140737488351232 ≤ l) (h2 : l ≤ 20000) :
  Val Φ K.f11 [.agg t.cells, .int .i64 l] (.int .i64 (nodT t l)) := by
 intro H Q hQ
 obtain ⟨hlf, hfo, hle, heo⟩ := ok_parts ho
 have hfok : ∀ f ∈ t.fields, f.ok := by
  cases t with
  | mk k s p fs c el =>
   obtain ⟨_, _, _, h, _⟩ := ho
   exact GField.oks_iff.1 h
 refine S.cl_f11 hT ?_
 unfold S.f11
 rw [nodT_def] at hQ
 simp only [Ac.tbox, DoH_some, abin_sub, Do_of]
 rw [wrap_i64 (by omega) (by omega)]
 have w3 : ∀ i : Nat, i < 9223372036854775807 → IntKind.wrap .i64 ((i : Int) + 1) = ((i + 1 : Nat) : Int) := fun i hi => by rw [wrap_i64 (by omega) (by omega)]; omega
 have fields : ∀ l0, l0 ≤ 20000 → Q (.int .i64 (nodFs t.fields l0)) H → JoinP (S.f11_k5 Φ (.fptr t.cells) Q) [.int .i64 l0] H := by
  intro l0 hl0 hq
  simp only [JoinP_def, S.f11_k5, sl_zero]
  have main : ∀ (ys : List GField) (i : Nat) (l : Int), t.fields.drop i = ys → l ≤ 20000 → nodFs ys l = nodFs t.fields l0 → LoopP (S.f11_l4 Φ (.fptr t.cells) Q) ([.int .i64 l, .int .i64 i], H) := by
   intro ys
   induction ys with
   | nil =>
    intro i l hd hl hr
    have hle := drop_nil_le hd
    refine LoopP.step ?_
    simp only [S.f11_l4, sl_zero, sl_succ, Ac.addr, Ac.t3, lstA_len', abin_lss, Do_of, Gd3_true]
    rw [if_neg (by simp only [decide_eq_true_eq]; omega)]
    simp only [JoinP_def, S.f11_k3, sl_zero, Gd_true, Bool.false_eq_true, if_false]
    rw [nodFs] at hr
    rw [hr]; exact hq
   | cons f ys ih =>
    intro i l hd hl hr
    obtain ⟨hlt, hx, hd'⟩ := drop_cons_lt hd
    have hfm := List.mem_of_getElem? hx
    have hn : f.name.length ≤ 140737488351232 := by have := hfok f hfm; cases f; exact this.1
    refine LoopP.step ?_
    simp only [S.f11_l4, sl_zero, sl_succ, Ac.addr, Ac.t3, lstA_len', abin_lss, abin_gtr, Do_of, Gd3_true]
    rw [if_pos (by simp only [decide_eq_true_eq]; omega)]
    simp only [JoinP_def, S.f11_k3, sl_zero, Gd_true]
    rw [nodFs] at hr
    refine bool_ite8 (fun h => ?_) (fun h => ?_)
    · have hpos : 0 < l := by simpa using h
      rw [if_pos hpos, nodF_def] at hr
      have hga := lstA_addr (cells := GField.cells) (sz := 9) hlt
      simp only [S.f11_k2, Ac.addr, Ac.t3, Do_of, sl_succ, sl_zero]
      rw [hga]
      simp only [Do_of, flt_addr]
      rw [field_type H hx]
      simp only [Do_of, fln_addr]
      rw [field_name H hx]
      simp only [Do_of, show alen true (.str f.name) = some (.int .i64 f.name.length) from rfl, abin_sub]
      rw [wrap_i64 (by omega) (by omega)]
      refine hF f hfm _ (by omega) (by omega) _ _ ?_
      simp only [abin_add, Do_of]
      rw [w3 i (by omega)]
      have hle' := nodT_le f.type (l - f.name.length)
      exact ih (i + 1) _ hd' (by omega) hr
    · have hpos : ¬ 0 < l := by simpa using h
      rw [if_neg hpos] at hr
      rw [hr]; exact hq
  exact main t.fields 0 l0 rfl hl0 rfl
 have main : ∀ (ys : List GType) (i : Nat) (l1 : Int), t.elem.drop i = ys → l1 ≤ 20000 → nodEs ys l1 = nodEs t.elem (l - 1) → LoopP (S.f11_l7 Φ (.fptr t.cells) Q) ([.int .i64 l1, .int .i64 i], H) := by
  intro ys
  induction ys with
  | nil =>
   intro i l1 hd hl hr
   have hle := drop_nil_le hd
   refine LoopP.step ?_
   simp only [S.f11_l7, sl_zero, sl_succ, Ac.addr, Ac.t5, lstA_len', abin_lss, Do_of, Gd3_true]
   rw [if_neg (by simp only [decide_eq_true_eq]; omega)]
   simp only [JoinP_def, S.f11_k6, sl_zero, Gd_true, Bool.false_eq_true, if_false]
   rw [nodEs] at hr
   rw [hr]
   exact fields _ (by rw [← hr]; omega) hQ
  | cons e ys ih =>
   intro i l1 hd hl hr
   obtain ⟨hlt, hx, hd'⟩ := drop_cons_lt hd
   have hem := List.mem_of_getElem? hx
   refine LoopP.step ?_
   simp only [S.f11_l7, sl_zero, sl_succ, Ac.addr, Ac.t5, lstA_len', abin_lss, abin_gtr, Do_of, Gd3_true]
   rw [if_pos (by simp only [decide_eq_true_eq]; omega)]
   simp only [JoinP_def, S.f11_k6, sl_zero, Gd_true]
   rw [nodEs] at hr
   refine bool_ite8 (fun h => ?_) (fun h => ?_)
   · have hpos : 0 < l1 := by simpa using h
     rw [if_pos hpos] at hr
     have hga := lstA_addr (cells := GType.cells) (sz := 6) hlt
     simp only [S.f11_k1, Ac.addr, Ac.t5, Do_of, sl_succ, sl_zero]
     rw [hga]
     simp only [Do_of]
     rw [elt_load H hx]
     simp only [Do_of]
     refine hE e hem _ (by omega) (by omega) _ _ ?_
     simp only [abin_add, Do_of]
     rw [w3 i (by omega)]
     have hle' := nodT_le e l1
     exact ih (i + 1) _ hd' (by omega) hr
   · have hpos : ¬ 0 < l1 := by simpa using h
     rw [if_neg hpos] at hr
     rw [hr]
     exact fields _ (by rw [← hr]; omega) hQ
 exact main t.elem 0 (l - 1) rfl (by omega) rfl
theorem nodes_val (hT : Cl Φ S.tab_Lex) : ∀ t : GType, t.ok → ∀ l : Int, -140737488351232 ≤ l → l ≤ 20000 → Val Φ K.f11 [.agg t.cells, .int .i64 l] (.int .i64 (nodT t l)) := by
 refine GType.ind fun t ihf ihe ho l h1 h2 => ?_
 obtain ⟨_, hfo, _, heo⟩ := ok_parts ho
 exact nodes_spec hT ho (fun e he => ihe e he (heo e he)) (fun f hf => ihf f hf (hfo f hf)) h1 h2
theorem refKeys_list (H : AH) : S.f79 Φ H Q = Q (.lst .full 34 (kwsX.map .str)) H := by
 unfold S.f79
 rw [show abslice H false 1 34 [.str []] _ = some (.lst .full 34 (kwsX.map .str), H) from rfl]
 simp only [DoH_some]
theorem refKey_val (hT : Cl Φ S.tab_Lex) (s : List UInt8) : Val Φ K.f41 [.str s] (.bool (kwX s)) := by
 intro H Q hQ
 refine S.cl_f41 hT ?_
 unfold S.f41
 refine S.cl_f79 hT ?_
 rw [refKeys_list]
 have hl : kwsX.length = 34 := rfl
 have main : ∀ (ys : List Wd) (i : Nat), kwsX.drop i = ys → Q (.bool (ys.any fun x => s == x)) H → LoopP (S.f41_l1 Φ (.str s) (.lst .full 34 (kwsX.map .str)) Q) ([.int .i64 i], H) := by
  intro ys
  induction ys with
  | nil =>
   intro i hd hq
   have hle := drop_nil_le hd
   refine LoopP.step ?_
   simp only [S.f41_l1, sl_zero, show alen false (.lst .full 34 (kwsX.map .str)) = some (.int .i64 34) from rfl, Do_of, abin_lss, Gd_true]
   rw [if_neg (by simp only [decide_eq_true_eq]; omega)]
   exact hq
  | cons y ys ih =>
   intro i hd hq
   obtain ⟨hlt, hx, hd'⟩ := drop_cons_lt hd
   obtain ⟨a, ha1, ha2⟩ := strs_at (tk := .full) H hx
   rw [hl] at ha1
   refine LoopP.step ?_
   simp only [S.f41_l1, sl_zero, show alen false (.lst .full 34 (kwsX.map .str)) = some (.int .i64 34) from rfl, Do_of, abin_lss, Gd_true]
   rw [if_pos (by simp only [decide_eq_true_eq]; omega), ha1]
   simp only [Do_of]
   rw [ha2]
   simp only [Do_of, seql, Gd_true]
   rw [List.any_cons] at hq
   refine bool_ite8 (fun h => ?_) (fun h => ?_)
   · have : s = y := (by simpa using h : y = s).symm
     rw [show (s == y) = true from by simpa using this, Bool.true_or] at hq
     exact hq
   · have : (s == y) = false := by
       rw [beq_eq_false_iff_ne]; intro e; rw [e] at h; simp at h
     rw [this, Bool.false_or] at hq
     simp only [abin_add, Do_of]
     have w3 : IntKind.wrap .i64 ((i : Int) + 1) = ((i + 1 : Nat) : Int) := by rw [wrap_i64 (by omega) (by omega)]; omega
     rw [w3]
     exact ih (i + 1) hd' hq
 exact main kwsX 0 rfl hQ
theorem keys_spec (hT : Cl Φ S.tab_Lex) {t : GType} (ho : t.ok) (hE : ∀ e ∈ t.elem, Val Φ K.f14 [.agg e.cells] (.bool (keyT kwX e))) (hF : ∀ f ∈ t.fields, Val Φ K.f14 [.agg f.type.cells] (.bool (keyT kwX f.type))) :
  Val Φ K.f14 [.agg t.cells] (.bool (keyT kwX t)) := by
 intro H Q hQ
 obtain ⟨hlf, hfo, hle, heo⟩ := ok_parts ho
 refine S.cl_f14 hT ?_
 unfold S.f14
 rw [keyT_def] at hQ
 simp only [Ac.tbox, DoH_some]
 have w3 : ∀ i : Nat, i < 9223372036854775807 → IntKind.wrap .i64 ((i : Int) + 1) = ((i + 1 : Nat) : Int) := fun i hi => by rw [wrap_i64 (by omega) (by omega)]; omega
 have fields : ∀ b0 : Bool, b0 = keyEs kwX t.elem → JoinP (S.f14_k5 Φ (.fptr t.cells) Q) [.bool b0] H := by
  intro b0 hb0
  simp only [JoinP_def, S.f14_k5, sl_zero]
  have main : ∀ (ys : List GField) (i : Nat) (b : Bool), t.fields.drop i = ys → (b || keyFs kwX ys) = (keyEs kwX t.elem || keyFs kwX t.fields) → LoopP (S.f14_l4 Φ (.fptr t.cells) Q) ([.bool b, .int .i64 i], H) := by
   intro ys
   induction ys with
   | nil =>
    intro i b hd hr
    have hle := drop_nil_le hd
    refine LoopP.step ?_
    simp only [S.f14_l4, sl_zero, sl_succ, Ac.addr, Ac.t3, lstA_len', abin_lss, Do_of, Gd_true]
    rw [if_neg (by simp only [decide_eq_true_eq]; omega)]
    rw [keyFs, Bool.or_false] at hr
    rw [hr]; exact hQ
   | cons f ys ih =>
    intro i b hd hr
    obtain ⟨hlt, hx, hd'⟩ := drop_cons_lt hd
    have hfm := List.mem_of_getElem? hx
    have hga := lstA_addr (cells := GField.cells) (sz := 9) hlt
    have next : ∀ c : Bool, (c || keyFs kwX ys) = (keyEs kwX t.elem || keyFs kwX t.fields) → JoinP (S.f14_k2 Φ ([.bool b, .int .i64 i], H) (LoopP (S.f14_l4 Φ (.fptr t.cells) Q)) Q) [.bool c] H := by
     intro c hc
     simp only [JoinP_def, S.f14_k2, sl_zero, sl_succ, abin_add, Do_of]
     rw [w3 i (by omega)]
     exact ih (i + 1) c hd' hc
    have k3 : ∀ c : Bool, (c || (keyT kwX f.type || keyFs kwX ys)) = (keyEs kwX t.elem || keyFs kwX t.fields) → JoinP (S.f14_k3 Φ (.fptr t.cells) ([.bool b, .int .i64 i], H) (LoopP (S.f14_l4 Φ (.fptr t.cells) Q)) Q) [.bool c] H := by
     intro c hc
     simp only [JoinP_def, S.f14_k3, sl_zero, sl_succ, Gd3_false]
     refine bool_itef8 (fun h => ?_) (fun h => ?_)
     · simp only [Ac.addr, Ac.t3, Do_of]
       rw [hga]
       simp only [Do_of, flt_addr]
       rw [field_type H hx]
       simp only [Do_of]
       refine hF f hfm _ _ ?_
       exact next _ (by rw [← hc, h]; simp)
     · exact next _ (by rw [← hc, h]; simp)
    refine LoopP.step ?_
    simp only [S.f14_l4, sl_zero, sl_succ, Ac.addr, Ac.t3, lstA_len', abin_lss, Do_of, Gd_true, Gd3_false]
    rw [if_pos (by simp only [decide_eq_true_eq]; omega)]
    rw [keyFs, keyF_def] at hr
    refine bool_itef8 (fun h => ?_) (fun h => ?_)
    · rw [hga]
      simp only [Do_of, fln_addr]
      rw [field_name H hx]
      simp only [Do_of]
      refine refKey_val hT f.name _ _ ?_
      exact k3 _ (by rw [← hr, h]; simp [Bool.or_assoc])
    · exact k3 _ (by rw [← hr, h]; simp)
  exact main t.fields 0 b0 rfl (by rw [hb0])
 have main : ∀ (ys : List GType) (i : Nat) (b : Bool), t.elem.drop i = ys → (b || keyEs kwX ys) = keyEs kwX t.elem → LoopP (S.f14_l6 Φ (.fptr t.cells) Q) ([.bool b, .int .i64 i], H) := by
  intro ys
  induction ys with
  | nil =>
   intro i b hd hr
   have hle := drop_nil_le hd
   refine LoopP.step ?_
   simp only [S.f14_l6, sl_zero, sl_succ, Ac.addr, Ac.t5, lstA_len', abin_lss, Do_of, Gd_true]
   rw [if_neg (by simp only [decide_eq_true_eq]; omega)]
   rw [keyEs, Bool.or_false] at hr
   exact fields b hr
  | cons e ys ih =>
   intro i b hd hr
   obtain ⟨hlt, hx, hd'⟩ := drop_cons_lt hd
   have hem := List.mem_of_getElem? hx
   have hga := lstA_addr (cells := GType.cells) (sz := 6) hlt
   have next : ∀ c : Bool, (c || keyEs kwX ys) = keyEs kwX t.elem → JoinP (S.f14_k1 Φ ([.bool b, .int .i64 i], H) (LoopP (S.f14_l6 Φ (.fptr t.cells) Q)) Q) [.bool c] H := by
    intro c hc
    simp only [JoinP_def, S.f14_k1, sl_zero, sl_succ, abin_add, Do_of]
    rw [w3 i (by omega)]
    exact ih (i + 1) c hd' hc
   refine LoopP.step ?_
   simp only [S.f14_l6, sl_zero, sl_succ, Ac.addr, Ac.t5, lstA_len', abin_lss, Do_of, Gd_true, Gd3_false]
   rw [if_pos (by simp only [decide_eq_true_eq]; omega)]
   rw [keyEs] at hr
   refine bool_itef8 (fun h => ?_) (fun h => ?_)
   · rw [hga]
     simp only [Do_of]
     rw [elt_load H hx]
     simp only [Do_of]
     refine hE e hem _ _ ?_
     exact next _ (by rw [← hr, h]; simp)
   · exact next _ (by rw [← hr, h]; simp)
 exact main t.elem 0 false rfl rfl
theorem keys_val (hT : Cl Φ S.tab_Lex) : ∀ t : GType, t.ok → Val Φ K.f14 [.agg t.cells] (.bool (keyT kwX t)) := by
 refine GType.ind fun t ihf ihe ho => ?_
 obtain ⟨_, hfo, _, heo⟩ := ok_parts ho
 exact keys_spec hT ho (fun e he => ihe e he (heo e he)) (fun f hf => ihf f hf (hfo f hf))
end
end Rb

namespace Rb
open Go
section
variable {Φ : Calls'} {U : TypeId} {H : AH} {Q : Post}
theorem one_two {a b : AV} : aextract 0 (.tup [a, b]) = some a ∧ aextract 1 (.tup [a, b]) = some b := ⟨rfl, rfl⟩
theorem rows62 {H : AH} {P F z1 z2 : List AV} (hP : P.length = 6) (hF : F.length = 2) (sP : P.all AV.scalar = true) (sF : F.all AV.scalar = true) (l1 : z1.length = 6) (l2 : z2.length = 2) {K : AV → AV → AH → Prop}
  (hK : ∀ H' i j, At H' i (.row P) → At H' j (.row F) → K (.ptr i 0) (.ptr j 0) H') :
  DoH (some (abox H true z1)) fun x18 H19 => DoH (some (abox H19 true z2)) fun x20 H21 => Do (astore H21 6 x18 (.agg P)) fun H22 => Do (astore H22 2 x20 (.agg F)) fun H23 => K x18 x20 H23 := by
 simp only [abox, if_true, DoH_some]
 have a1 : At ((H.push (.row z1)).push (.row z2)) H.n (.row z1) := (At.new H _).push _
 have a2 : At ((H.push (.row z1)).push (.row z2)) (H.n + 1) (.row z2) := At.new (H.push _) _
 have hn : (H.push (.row z1)).n = H.n + 1 := rfl
 rw [hn]
 rw [a1.store, if_pos ⟨rfl, hP, sP, by omega⟩]
 simp only [Do_of, AV.cells]
 rw [setCells_all (by omega)]
 have b1 := a1.set (.row (List.take 0 z1 ++ P))
 have b2 := a2.set_ne (i := H.n) (by omega) (.row (List.take 0 z1 ++ P))
 rw [b2.store, if_pos ⟨rfl, hF, sF, by omega⟩]
 simp only [Do_of, AV.cells]
 rw [setCells_all (by omega)]
 exact hK _ H.n (H.n + 1) (b1.set_ne (by omega) _) (b2.set _)
theorem lenW_w1 (st w : Wd) (h : st.length ≤ 200000000000000) (hw : w.length ≤ w47) : (w1 st w).length ≤ 200000000000000 := by
 unfold w1 w47 at *
 split
 · exact h
 · simp only [List.length_append]
   have : (if w = [59] ∨ w = [123] ∨ w = [125] then ([10] : Wd) else [32]).length = 1 := by split <;> rfl
   omega
theorem runW_le : ∀ (ws : List Wd) (st : Wd), st.length ≤ 200000000000000 → (∀ w ∈ ws, w.length ≤ w47) → (runW ws st).length ≤ 200000000000000
 | [], st, h, _ => h
 | w :: r, st, h, hw => runW_le r _ (lenW_w1 st w h (hw w (by simp))) fun v hv => hw v (by simp [hv])
mutual
theorem typ_w47 : ∀ t : GType, t.pok → ∀ w ∈ t.W, w.length ≤ w47
 | .mk kind size packed fields count elem, h, w, hw => by
  rw [GType.pok] at h
  rw [GType.W_def] at hw
  simp only at hw
  have hx8 : ∀ c : UInt8, (c :: Go.Lib.itoa (i64w (8 * size))).length ≤ w47 := fun c => by
   have := itoa_len (i64w_ok (8 * size))
   unfold w47
   simp only [List.length_cons]
   omega
  have hcl : (Go.Lib.itoa count).length ≤ w47 := by have := itoa_len h.1; unfold w47; omega
  split at hw
  · rw [List.mem_singleton.1 hw]; exact hx8 _
  · split at hw
    · rw [List.mem_singleton.1 hw]; exact hx8 _
    · split at hw
      · simp only [List.mem_cons] at hw
        rcases hw with rfl | rfl | rfl | hw
        · decide
        · exact hcl
        · decide
        · exact typs_w47 elem h.2.2.2 w hw
      · split at hw
        · rcases List.mem_cons.1 hw with rfl | hw
          · exact ofW_wd (by decide)
          · rcases List.mem_append.1 hw with hw | hw
            · cases packed
              · simp at hw
              · simp at hw; rw [hw]; decide
            · rcases List.mem_cons.1 hw with rfl | hw
              · decide
              · rcases List.mem_append.1 hw with hw | hw
                · exact flds_w47 fields h.2.2.1 w hw
                · rw [List.mem_singleton.1 hw]; decide
        · cases hw
theorem typs_w47 : ∀ ts : List GType, GType.poks ts → ∀ w ∈ ts.flatMap GType.W, w.length ≤ w47
 | [], _, w, hw => by cases hw
 | x :: r, h, w, hw => by
  rw [List.flatMap_cons] at hw
  rcases List.mem_append.1 hw with hw | hw
  · exact typ_w47 x h.1 w hw
  · exact typs_w47 r h.2 w hw
theorem fld_w47 : ∀ f : GField, f.pok → ∀ w ∈ f.W, w.length ≤ w47
 | .mk name type bits width, h, w, hw => by
  rw [GField.pok] at h
  rw [GField.W_def] at hw
  simp only at hw
  rcases List.mem_cons.1 hw with rfl | hw
  · split
    · decide
    · exact h.1
  · rcases List.mem_append.1 hw with hw | hw
    · exact typ_w47 type h.2.1 w hw
    · rcases List.mem_append.1 hw with hw | hw
      · cases bits
        · simp at hw
        · simp at hw
          rcases hw with rfl | rfl
          · decide
          · have := itoa_len h.2.2; unfold w47; omega
      · rw [List.mem_singleton.1 hw]; decide
theorem flds_w47 : ∀ fs : List GField, GField.poks fs → ∀ w ∈ fs.flatMap GField.W, w.length ≤ w47
 | [], _, w, hw => by cases hw
 | x :: r, h, w, hw => by
  rw [List.flatMap_cons] at hw
  rcases List.mem_append.1 hw with hw | hw
  · exact fld_w47 x h.1 w hw
  · exact flds_w47 r h.2 w hw
end
theorem type_says (hT : Cl Φ S.tab_Lex) (hB : BKit Φ 79 U) {pt : List UInt8 → GType × Int × Int} (hpt : ∀ s, Val Φ K.f15 [.str s] (typV (pt s))) {t : GType} (hp : t.pok) (hf : t.fin)
  (hQ : ∀ H', Q (.tup [.str (printT pt t).1, .int .i64 (printT pt t).2]) H') : Φ K.f12 [.agg t.cells] H Q := by
 refine S.cl_f12 hT ?_
 unfold S.f12
 simp only [Ac.tbox, DoH_some]
 rw [show abuild [.nilp, .lst .nil 0 []] [] = some (.agg [.nilp, .lst .nil 0 []]) from rfl]
 simp only [Do_of]
 obtain ⟨H0, hn, hb, hn0⟩ := bnew_ok (U := U) H (T := 79)
 rw [hn]
 simp only [DoH_some, Ac.tall, Do_of]
 refine typ_all hT hB t hp hb fun H1 hb1 hk1 => ?_
 simp only [Ac.nilckp, Ac.addrp, Do_of]
 refine hB.text hb1 fun H2 hb2 hk2 => ?_
 have hle := runW_le t.W [] (by simp) (typ_w47 t hp)
 refine trim_ok hT (by omega) fun H3 => ?_
 refine hpt _ _ _ ?_
 obtain ⟨⟨q, fl, fk⟩, hpq⟩ : ∃ r, pt (trimR (runW t.W [])) = r := ⟨_, rfl⟩
 rw [hpq]
 have hp1 : (fk ≠ 0 ∨ t ≠ q) → printT pt t = ([], 4) := fun h => by unfold printT; rw [hpq, if_pos h]
 have hp2 : ¬ (fk ≠ 0 ∨ t ≠ q) → printT pt t = (trimR (runW t.W []), 0) := fun h => by unfold printT; rw [hpq, if_neg h]
 simp only [typV, one_two.1, one_two.2, Do_of]
 have k2 : ∀ (b : Bool) (H' : AH), (b = true ↔ (fk ≠ 0 ∨ t ≠ q)) → JoinP (S.f12_k2 Φ (.str (trimR (runW t.W []))) Q) [.bool b] H' := by
  intro b H' hbb
  simp only [JoinP_def, S.f12_k2, S.f12_k1, sl_zero, Gd_true]
  refine bool_ite8 (fun h => ?_) (fun h => ?_)
  · have := hQ H'
    rw [hp1 (hbb.1 h)] at this
    exact this
  · have hn : ¬ (fk ≠ 0 ∨ t ≠ q) := fun e => by rw [hbb.2 e] at h; cases h
    have := hQ H'
    rw [hp2 hn] at this
    exact this
 refine rows62 (P := q.cells) (F := [.int .i64 fl, .int .i64 fk]) q.len rfl q.scalar rfl rfl rfl (K := fun x59 x61 H64 => _) fun H4 i j hi hj => ?_
 simp only [Ac.addrp, Do_of, Nat.zero_add]
 rw [hj.load, show takeCells [.int .i64 fl, .int .i64 fk] 1 1 false = some (.int .i64 fk) from rfl]
 simp only [Do_of, abin_neq, Gd3_false]
 refine bool_itef8 (fun h => ?_) (fun h => ?_)
 · have hk0 : fk = 0 := by simpa using h
   rw [hi.load, takeCells_whole q.len]
   simp only [Do_of]
   refine sameType_all hT t hf q _ _ fun b H5 hb5 => ?_
   simp only [aun_not, Do_of]
   refine k2 _ H5 ?_
   rw [hk0]
   cases b
   · simp only [Bool.not_false, true_iff]
     exact .inr fun e => by have := hb5.2 e; cases this
   · simp only [Bool.not_true, Bool.false_eq_true, false_iff]
     exact fun e => e.elim (fun e => e rfl) fun e => e (hb5.1 rfl)
 · have hk0 : fk ≠ 0 := by simpa using h
   exact k2 _ H4 (by simp [hk0])
theorem PrintTypes_spec (hT : Cl Φ S.tab_Lex) {val : List UInt8 → Int} (hval : ∀ w v, Go.Lib.parseUintB 64 w = .ok v → val w = (v : Int)) (hpt : ∀ s, Val Φ K.f15 [.str s] (typV (parseT numX kwX val s)))
  (hP : ∀ t : GType, t.pok → t.fin → Val Φ K.f12 [.agg t.cells] (.tup [.str (printT (parseT numX kwX val) t).1, .int .i64 (printT (parseT numX kwX val) t).2]))
  (hA : Val Φ K.f7 [] (.bool true)) {t : GType} (ho : t.ok) (hS : Val Φ K.f13 [.agg t.cells] (.int .i64 (soundM t))) (hSame : ∀ u : GType, u = t → Val Φ K.f16 [.agg t.cells, .agg u.cells] (.bool true))
  (hQ : ∀ H', Q (.bool true) H') : S.f4 Φ (.agg t.cells) H Q := by
 have hp := GType.ok_pok t ho
 have hf := GType.ok_fin t ho
 unfold S.f4
 simp only [Ac.tbox, DoH_some, Ac.tall, Do_of]
 refine nodes_val hT t ho 20000 (by omega) (by omega) _ _ ?_
 simp only [abin_leq, Do_of, Gd_true]
 refine bool_ite8 (fun h => hA _ _ (hQ _)) (fun h => ?_)
 have hn : 0 < nodT t 20000 := by simp only [decide_eq_false_iff_not] at h; omega
 refine hP t hp hf _ _ ?_
 simp only [one_two.1, one_two.2, Do_of, abin_neq, Gd_true]
 by_cases hz : (printT (parseT numX kwX val) t).2 = 0
 · rw [hz]
   rw [if_neg (by simp)]
   have hw : (parseT numX kwX val (trimR (runW t.W []))).2.2 = 0 ∧ t = (parseT numX kwX val (trimR (runW t.W []))).1 ∧ (printT (parseT numX kwX val) t).1 = trimR (runW t.W []) := by
    unfold printT at hz ⊢
    by_cases hc : (parseT numX kwX val (trimR (runW t.W []))).2.2 ≠ 0 ∨ t ≠ (parseT numX kwX val (trimR (runW t.W []))).1
    · rw [if_pos hc] at hz; cases hz
    · rw [if_neg hc] at hz ⊢
      simp only [not_or, ne_eq, Decidable.not_not, Classical.not_not] at hc
      exact ⟨hc.1, hc.2, rfl⟩
   obtain ⟨hw1, hw2, hw3⟩ := hw
   rw [hw3]
   refine hpt _ _ _ ?_
   obtain ⟨⟨q, fl, fk⟩, hpq⟩ : ∃ r, parseT numX kwX val (trimR (runW t.W [])) = r := ⟨_, rfl⟩
   rw [hpq] at hw1 hw2 ⊢
   simp only at hw1 hw2
   subst hw1
   simp only [typV, one_two.1, one_two.2, Do_of]
   refine rows62 (P := q.cells) (F := [.int .i64 fl, .int .i64 0]) q.len rfl q.scalar rfl rfl rfl (K := fun x59 x61 H64 => _) fun H4 i j hi hj => ?_
   refine hA _ _ ?_
   simp only [Gd3_true, if_true, Ac.addrp, Nat.zero_add, Do_of]
   rw [hj.load, show takeCells [.int .i64 fl, .int .i64 0] 1 1 false = some (.int .i64 0) from rfl]
   simp only [Do_of, abin_eql, BEq.rfl, JoinP_def, S.f4_k3, sl_zero, Gd3_true, if_true, Ac.tall]
   rw [hi.load, takeCells_whole q.len]
   simp only [Do_of]
   exact hSame q hw2.symm _ _ (hQ _)
 · rw [if_pos (by simpa using hz)]
   have hw : printT (parseT numX kwX val) t = ([], 4) := by
    unfold printT at hz ⊢
    by_cases hc : (parseT numX kwX val (trimR (runW t.W []))).2.2 ≠ 0 ∨ t ≠ (parseT numX kwX val (trimR (runW t.W []))).1
    · rw [if_pos hc]
    · rw [if_neg hc] at hz; exact absurd rfl hz
   rw [hw]
   refine hA _ _ ?_
   simp only [Gd3_true, if_true, abin_eql, BEq.rfl, Do_of, JoinP_def, S.f4_k2, sl_zero, seql, S.f4_k1, Ac.tall]
   refine hS _ _ ?_
   simp only [abin_neq, Do_of, Gd3_false]
   refine bool_itef8 (fun h1 => ?_) (fun h1 => hQ _)
   have hs0 : soundM t = 0 := by simpa using h1
   refine keys_val hT t ho _ _ ?_
   cases hk : keyT kwX t with
   | true => exact hQ _
   | false =>
    have := types_law (kw := kwX) hval hs0 hk hn
    rw [this] at hz
    exact absurd rfl hz
end
end Rb

namespace Rb
open Go
theorem At.put {H : AH} {id n : Nat} {cs ds : List AV} (h : At H id (.row cs)) (hc : cs.length = n) (hd : ds.length = n) (hs : ds.all AV.scalar = true) : astore H n (.ptr id 0) (.agg ds) = some (H.set id (.row ds)) := by
 rw [h.store, if_pos ⟨rfl, hd, hs, by omega⟩]
 congr 3
 show setCells cs 0 ds = ds
 rw [setCells_all (by omega)]; rfl
section
variable {Φ : Calls'} {H : AH} {Q : Post}
theorem refSame_spec {t : GType} (hlf : t.fields.length ≤ 9223372036854775807) (hle : t.elem.length ≤ 9223372036854775807) (hf : ∀ f ∈ t.fields, Val Φ K.f16 [.agg f.type.cells, .agg f.type.cells] (.bool true))
  (he : ∀ e ∈ t.elem, Val Φ K.f16 [.agg e.cells, .agg e.cells] (.bool true)) (hQ : ∀ H', Q (.bool true) H') : S.f16 Φ (.agg t.cells) (.agg t.cells) H Q := by
 unfold S.f16
 simp only [ty_box, DoH_some, ty_addr, ty_l0, ty_l1, ty_l2, ty_l3, ty_l4, ty_l5, lstA_len', Do_of, abin_neq, abeq_def, bne_self_eq_false, beq_self_eq_true, Bool.not_true, Gd3_false, JoinP_def, S.f16_k13, S.f16_k12, S.f16_k11, S.f16_k10, S.f16_k9, sl_zero, Gd_true, if_true, Bool.false_eq_true, if_false, S.f16_k8]
 have k6 : ∀ H1, JoinP (S.f16_k6 Φ (.fptr t.cells) (.fptr t.cells) Q) [] H1 := by
  intro H1
  simp only [JoinP_def, S.f16_k6]
  have main : ∀ (r : List GField) (i : Nat) (H1 : AH), t.fields.drop i = r → LoopP (S.f16_l5 Φ (.fptr t.cells) (.fptr t.cells) Q) ([.int .i64 i], H1) := by
   intro r
   induction r with
   | nil =>
    intro i H1 hd
    have hle := drop_nil_le hd
    refine LoopP.step ?_
    simp only [S.f16_l5, sl_zero, ty_addr, ty_l3, lstA_len', Do_of, abin_lss, Gd_true]
    rw [if_neg (by simp only [decide_eq_true_eq]; omega)]
    exact hQ H1
   | cons f r ih =>
    intro i H1 hd
    obtain ⟨hlt, hx, hd'⟩ := drop_cons_lt hd
    refine LoopP.step ?_
    simp only [S.f16_l5, sl_zero, ty_addr, ty_l3, lstA_len', Do_of, abin_lss, Gd_true]
    rw [if_pos (by simp only [decide_eq_true_eq]; omega), lstA_addr hlt]
    have hl : ∀ H, aload H 9 true (elA GField.cells 9 t.fields i) = some (.agg f.cells) := fun H => elA_load GField.len (by decide) H hx
    simp only [Do_of, hl, DoH_some, abox, if_true, true_and]
    have hzl : ([.str [], .int .i64 0, .int .i64 0, .bool false, .lst .nil 0 [], .int .i64 0, .lst .nil 0 [], .bool false, .int .i64 0] : List AV).length = 9 := rfl
    generalize ([.str [], .int .i64 0, .int .i64 0, .bool false, .lst .nil 0 [], .int .i64 0, .lst .nil 0 [], .bool false, .int .i64 0] : List AV) = zs at *
    have a1 := (At.new H1 (.row zs)).push (.row zs)
    have a2 := At.new (H1.push (.row zs)) (.row zs)
    have hne : H1.n ≠ (H1.push (.row zs)).n := by simp
    generalize (H1.push (.row zs)).n = id2 at *
    generalize (H1.push (.row zs)).push (.row zs) = H2 at *
    generalize H1.n = id1 at *
    rw [a1.put (n := 9) hzl f.len f.scalar]
    simp only [Do_of]
    have b1 := a1.set (.row f.cells)
    have b2 := a2.set_ne (Ne.symm hne) (.row f.cells)
    generalize H2.set id1 (.row f.cells) = H3 at *
    rw [b2.put (n := 9) hzl f.len f.scalar]
    have c1 := b1.set_ne hne (.row f.cells)
    have c2 := b2.set (.row f.cells)
    generalize H3.set id2 (.row f.cells) = H4 at *
    have g : ∀ {id : Nat}, At H4 id (.row f.cells) → aload H4 1 false (.ptr id 0) = some (.str f.name) ∧ aload H4 1 false (.ptr id 7) = some (.bool f.bits) ∧ aload H4 1 false (.ptr id 8) = some (.int .i64 f.width) ∧ aload H4 6 true (.ptr id 1) = some (.agg f.type.cells) :=
     fun h => ⟨by rw [h.load, fd_t0], by rw [h.load, fd_t7], by rw [h.load, fd_t8], by rw [h.load, fd_t1]⟩
    obtain ⟨p0, p7, p8, p1⟩ := g c1
    obtain ⟨q0, q7, q8, q1⟩ := g c2
    simp only [Do_of, afaddr, Nat.zero_add, Nat.add_zero, p0, q0, abin_strne, beq_self_eq_true, Bool.not_true, Gd3_false, if_true, p7, q7, abeq_def, JoinP_def, S.f16_k4, sl_zero, p8, q8, abin_neq, bne_self_eq_false, S.f16_k3, p1, q1]
    refine hf f (List.mem_of_getElem? hx) _ _ ?_
    simp only [aun_not, Do_of, Bool.not_true, S.f16_k2, sl_zero, Gd_true, Bool.false_eq_true, if_false, JoinP_def, S.f16_k1, abin_add]
    rw [wrap_i64 (by omega) (by omega), show ((i : Int) + 1) = ((i + 1 : Nat) : Int) by simp]
    exact ih (i + 1) H4 hd'
  exact main t.fields 0 H1 rfl
 have main : ∀ (r : List GType) (i : Nat) (H1 : AH), t.elem.drop i = r → LoopP (S.f16_l7 Φ (.fptr t.cells) (.fptr t.cells) Q) ([.int .i64 i], H1) := by
  intro r
  induction r with
  | nil =>
   intro i H1 hd
   have hle := drop_nil_le hd
   refine LoopP.step ?_
   simp only [S.f16_l7, sl_zero, ty_addr, ty_l5, lstA_len', Do_of, abin_lss, Gd_true]
   rw [if_neg (by simp only [decide_eq_true_eq]; omega)]
   exact k6 H1
  | cons e r ih =>
   intro i H1 hd
   obtain ⟨hlt, hx, hd'⟩ := drop_cons_lt hd
   refine LoopP.step ?_
   simp only [S.f16_l7, sl_zero, ty_addr, ty_l5, lstA_len', Do_of, abin_lss, Gd_true]
   rw [if_pos (by simp only [decide_eq_true_eq]; omega), lstA_addr hlt]
   have hl : ∀ H, aload H 6 true (elA GType.cells 6 t.elem i) = some (.agg e.cells) := fun H => elA_load GType.len (by decide) H hx
   simp only [Do_of, hl]
   refine he e (List.mem_of_getElem? hx) _ _ ?_
   simp only [aun_not, Do_of, Bool.not_true, Gd_true, Bool.false_eq_true, if_false, abin_add]
   rw [wrap_i64 (by omega) (by omega), show ((i : Int) + 1) = ((i + 1 : Nat) : Int) by simp]
   exact ih (i + 1) H1 hd'
 exact main t.elem 0 H rfl
end
section
variable {C : Ctx} (hGT : GTok C) (hT : Cl (ACall C) S.tab_Lex)
include hGT hT
theorem refSame_val : ∀ t : GType, t.ok → Val (ACall C) K.f16 [.agg t.cells, .agg t.cells] (.bool true) := by
 refine GType.ind fun t ihf ihe ht => ?_
 obtain ⟨h1, h2, h3, h4⟩ := Rb.ok_parts ht
 exact Val.of hGT (by simp [AV.frozs, AV.froz, GType.froz]) rfl fun Q hQ => S.cl_f16 hT (refSame_spec h1 h3 (fun f hf => ihf f hf (h2 f hf)) (fun e he => ihe e he (h4 e he)) hQ)
end
end Rb

namespace Go.Proofs.YtbkkoplgicffgaaGreatDoor.rb
open Rb
theorem valX_val (w : List UInt8) (v : Nat) (h : Go.Lib.parseUintB 64 w = .ok v) : valX w = (v : Int) := by unfold valX; rw [h]
theorem ptOK (s : List UInt8) : Val (ACall C) K.f15 [.str s] (typV (parseT numX kwX valX s)) :=
 Val.of gtC rfl (by simp only [typV, GType.froz, AV.froz, AV.frozs, Bool.and_self]) fun Q hQ => p_Type cl_Lex (ACall.wk C) kwOK valOK (Tokens_val2 gtC cl_Lex numOK idxOK) s hQ
theorem ptyOK (t : GType) (hp : t.pok) (hf : t.fin) : Val (ACall C) K.f12 [.agg t.cells] (.tup [.str (printT (parseT numX kwX valX) t).1, .int .i64 (printT (parseT numX kwX valX) t).2]) :=
 Val.of gtC (by simp only [AV.frozs, AV.froz, GType.froz, Bool.and_self]) rfl fun Q hQ => type_says cl_Lex kitOK ptOK hp hf hQ
theorem printTypes.any (t : GType) (ho : t.ok) : ACall C K.f4 [.agg t.cells] AH.mt (fun v _ => v = .bool true) :=
 S.cl_f4 cl_Lex (PrintTypes_spec cl_Lex valX_val ptOK ptyOK awake10 ho (refSound_val gtC cl_Lex t ho) (fun u hu => by subst hu; exact refSame_val gtC cl_Lex _ ho) fun _ => rfl)
end Go.Proofs.YtbkkoplgicffgaaGreatDoor.rb

namespace Go.Proofs.YtbkkoplgicffgaaGreatDoor.rb
open Rb
variable {H : Type} {enc : TypeId × Value → H} {w : World} {sp : Nat → Bool} {held : Bool} {F : FTab}
theorem tyOK : ∃ fT fF, TyOK Tryz.prog 3 4 9 42 93 40 39 fT fF := ⟨_, _, Tryz.underlying3, Tryz.underlying4, Tryz.underlying9, Tryz.underlying42, Tryz.underlying93, Tryz.underlying40, Tryz.underlying39, rfl, rfl, by kernel_rfl, by kernel_rfl, fun t ht => by
  simp only [List.mem_cons, List.not_mem_nil, or_false] at ht
  rcases ht with rfl | rfl | rfl | rfl | rfl <;> kernel_rfl⟩
theorem decType (n : Nat) : Dec F enc Tryz.prog w sp held n 42 GType.cells GType.ok := let ⟨_, _, h⟩ := tyOK; Dec_type h n
end Go.Proofs.YtbkkoplgicffgaaGreatDoor.rb

namespace Go.Proofs.YtbkkoplgicffgaaGreatDoor.rb.printTypes
open Rb Go.ChangeShapes Go.WideShapes Go.ChangeAt Go.RowKit
set_option maxRecDepth 100000 in
theorem lifted (os : Os) (started : os.Started) (H : Type) (enc : TypeId × Value → H) :
  ReturnsInHanded {} Tryz.checked os 4 .any (fun w args => (Rows.printTypesSpec.pre enc Tryz.prog Tryz.f4 [] false w args ∧ laidMet Tryz.prog laidVars w) ∧ sizedMet enc Tryz.prog Tryz.f4 (OpenSpec.ofChange Rows.printTypesSpec) false w args)
   (Rows.printTypesSpec.post enc Tryz.prog Tryz.f4 false true false false) := by
 refine returnsInHanded_of_change_and (C := Tryz.checked) (X := fun w _ => laidMet Tryz.prog laidVars w) (fun _ _ _ hh h => h.of_heap hh) own started (by kernel_rfl) Tryz.func4
  (ChangeSpec.witness_shaped (enc := enc) (C := Tryz.checked) (os := os) (X := fun w _ => laidMet Tryz.prog laidVars w) false (laidWorld os) #[.agg #[.int .i64 0, .int .i64 0, .bool false, .slice none 0 0, .int .i64 0, .slice none 0 0]] 8 rfl (laid_shaped os _) (by kernel_rfl) (by kernel_rfl) (by kernel_rfl) (laid_met os _)) ?_
 intro W base args ds gs before hval0 hW _ hsz hL _
 have hval : ∀ (j : Nat) t v, Tryz.f4.params[j]? = some t → args[j]? = some v → Value.okWide Tryz.prog W .any base t v := hval0
 have hW' := hW
 obtain ⟨p, q, hA0, hV0, rfl, hfz, hnd⟩ := hW
 have hA : DataW.TrodAll enc Tryz.prog W 0 (fun _ => true) true Tryz.f4.params.toList args.toList ds p := hA0
 have hV : DataW.TrodVars enc Tryz.prog W (fun _ => true) [] gs q := hV0
 rw [Tryz.params4] at hA hval
 obtain ⟨v0, d0, rfl, rfl, h0⟩ := trodAll_one hA
 obtain ⟨rfl, rfl⟩ : gs = [] ∧ q = [] := by
  cases gs with
  | nil => exact ⟨rfl, hV⟩
  | cons g r => exact absurd hV (by intro h; cases h)
 obtain ⟨c0, rfl, _⟩ := okWide_struct Tryz.underlying42 (hval 0 42 v0 rfl rfl)
 obtain ⟨x0, o0, k0⟩ := Dec.arg (F := C.F) decType h0 (fun n hn => of_decide_eq_true (List.all_eq_true.1 hsz n (DataW.weights_mem_each (j := 0) rfl rfl n hn)))
 refine (law_calls (C := C) (f := 4) (by kernel_rfl) (any x0 o0) (gok hL) (VRs.one k0.agg)).mono fun e W' ⟨he, hbel⟩ => ?_
 subst he
 exact ⟨_, rfl, post_true (bt := 4) hW' laidOut (by kernel_rfl) (by kernel_rfl) (by kernel_rfl) Tryz.underlying4 rfl hbel⟩
theorem facts : joinedFacts Tryz.checked.prog 4 Tryz.f4 Rows.printTypesSpec Rows.printTypesRow = true := of_forced (by kernel_rfl)
theorem row : Rows.PrintTypesSaid :=
 OpenClaim.holds_of_wide 4 Tryz.f4 rfl rfl rfl rfl rfl rfl rfl ⟨rfl, rfl, rfl, rfl, rfl⟩ rfl rfl rfl rfl rfl (by kernel_rfl) Tryz.func4 facts
  (of_decide_eq_true (by kernel_rfl)) (by unfold Func.isWrapper; first | (rw [if_pos (by decide +kernel)]; kernel_rfl) | (rw [if_neg (by decide +kernel)]; exact ⟨rfl, rfl⟩))
  (fun os started H enc _ => lifted os started H enc)
end Go.Proofs.YtbkkoplgicffgaaGreatDoor.rb.printTypes
namespace Go.Proofs.YtbkkoplgicffgaaGreatDoor
open Go
theorem printTypes_holds : Rows.PrintTypesCardSaid :=
 Claim7.holds_tied_plain_at .later [] [.data, .data, .data, .data, .sentinel, .sentinel, .listed, .data, .pinned] true (true, "c34840ecdf9fee5f453c02bc03bd124823be46025f6145b69380127cff5b870b") true
  rb.printTypes.row (fun _ h => by cases h) (by kernel_rfl) (fun _ h => by cases h) printTypes_row_tie rfl ⟨rfl, rfl⟩ (by kernel_rfl) rfl
  (fun f fn hf hfn => by
    obtain rfl : f = 4 := Option.some.inj ((show Tryz.prog.funcNamed Rows.printTypesRow.func = some 4 by kernel_rfl).symm.trans hf) |>.symm
    obtain rfl : fn = Tryz.f4 := (Option.some.inj (Tryz.func4.symm.trans hfn)).symm
    exact ⟨by kernel_rfl, fun j t ht => by
      rw [Tryz.params4] at ht
      rcases j with _ | j
      · obtain rfl : t = 42 := by simpa using ht.symm
        exact (show Tryz.prog.wantsStandIn 42 = false by kernel_rfl)
      · simp at ht⟩)
  (by kernel_rfl)
#print axioms printTypes_holds
end Go.Proofs.YtbkkoplgicffgaaGreatDoor
