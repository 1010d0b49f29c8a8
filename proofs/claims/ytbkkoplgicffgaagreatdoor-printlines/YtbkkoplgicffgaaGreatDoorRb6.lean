/- Lines change nothing of a program's text; programs are the same just if their texts are (PrintLines), for every two programs and every number. -/
import Derived.Test.YtbkkoplgicffgaaGreatDoorRb5
import Derived.Test.YtbkkoplgicffgaaGreatDoorRb3
import Derived.SizedLaws
import Derived.Test.YtbkkoplgicffgaaGreatDoorRb4
set_option linter.unusedVariables false
set_option linter.unusedSimpArgs false
set_option linter.unusedSectionVars false
namespace Rb
open Go
section
variable {Φ : Calls'} {kw : List UInt8 → Bool} {val : List UInt8 → Int}
theorem p_end (hT : Cl Φ S.tab_Lex) {H : AH} {Q : Post} {id : Nat} {s : PSt} (p : PS H id s) (hQ : ∀ H', KeepP id H H' → PS H' id s.endM → Q (.agg [.int .i64 s.endM.fl, .int .i64 s.endM.fk]) H') : Φ K.parse_parser_end [.ptr id 0] H Q := by
 refine S.cl_parse_parser_end hT ?_
 unfold S.parse_parser_end
 have hid := lt_of_ps p
 simp only [abox, if_true, DoH_some]
 have p2 := p.pushL (.row [.int .i64 0, .int .i64 0])
 have a1 : At (H.push (.row [.int .i64 0, .int .i64 0])) H.n (.row [.int .i64 0, .int .i64 0]) := At.new H _
 have kk : KeepP id H (H.push (.row [.int .i64 0, .int .i64 0])) := KeepP.push id H _
 generalize H.push (.row [.int .i64 0, .int .i64 0]) = H2 at p2 a1 kk
 have k1 : ∀ H4, KeepP id H H4 → PS H4 id s.endM → At H4 H.n (.row [.int .i64 0, .int .i64 0]) → JoinP (S.parse_parser_end_k1 Φ (.ptr id 0) (.ptr H.n 0) Q) [] H4 := by
  intro H4 k4 p4 c1
  obtain ⟨tk, hat, _⟩ := p4.l0
  simp only [JoinP_def, S.parse_parser_end_k1, anilck, afaddr, Do_of, Nat.zero_add, hat.load]
  rw [show takeCells [tokV tk s.endM.toks, AV.int .i64 s.endM.fl, .int .i64 s.endM.fk] 1 2 true = some (.agg [.int .i64 s.endM.fl, .int .i64 s.endM.fk]) from rfl]
  simp only [Do_of]
  rw [c1.store, if_pos ⟨rfl, rfl, rfl, by simp⟩]
  simp only [Do_of]
  rw [(c1.set _).load]
  refine (Do_of _ _).2 ?_
  exact hQ _ (k4.setL (Nat.le_refl _) _) (p4.setL (by omega) _)
 have k2 : ∀ b : Bool, (b = true ↔ (s.fk = 0 ∧ 1 < s.toks.length)) → JoinP (S.parse_parser_end_k2 Φ (.ptr id 0) (.ptr H.n 0) Q) [.bool b] H2 := by
  intro b hb
  simp only [JoinP_def, S.parse_parser_end_k2, sl_zero, Gd_true]
  refine ite_both (fun hx => ?_) (fun hx => ?_)
  · have e : s.endM = s.fail 4 := by unfold PSt.endM; rw [if_pos (hb.1 hx)]
    refine p_fail hT p2 fun H16 k16 p16 => ?_
    exact k1 H16 (kk.trans k16) (by rw [e]; exact p16) (k16.2 _ _ (by omega) a1)
  · have e : s.endM = s := by unfold PSt.endM; rw [if_neg (fun h => hx (hb.2 h))]
    exact k1 H2 kk (by rw [e]; exact p2) a1
 refine p_bad hT p2 ?_
 simp only [aun_not, Do_of, Gd3_true]
 refine ite_both (fun hx => ?_) (fun hx => ?_)
 · have h0 : s.fk = 0 := by simpa using hx
   obtain ⟨tk, hat, hl0⟩ := p2.l0
   simp only [anilck, afaddr, Do_of, Nat.zero_add, hl0, tokV_len, abin_gtr]
   exact k2 _ (by simp only [decide_eq_true_eq, h0, true_and]; omega)
 · have h0 : s.fk ≠ 0 := by simpa using hx
   exact k2 _ (by simp [h0])
def parseP (num : List UInt8 → Bool) (kw : List UInt8 → Bool) (val : List UInt8 → Int) (s : List UInt8) : GProg × Int × Int := match lexM num s with
 | .error e => (⟨[], []⟩, e.1, e.2)
 | .ok ws => parseM kw val (beginM ws)
def progV (r : GProg × Int × Int) : AV := .tup [.agg r.1.cells, .agg [.int .i64 r.2.1, .int .i64 r.2.2]]
theorem progW (vs ts : AV) (fl fk : Int) {x : GProg} (h1 : vs.weak = lstA GVar.cells x.vars) (h2 : ts.weak = lstA thrCells x.threads) : (AV.tup [.agg [vs, ts], .agg [.int .i64 fl, .int .i64 fk]]).weak = progV (x, fl, fk) := by
 simp only [AV.weak, AV.weaks, h1, h2, progV, GProg.cells]
theorem thrCells_weak (x : List GStmt) : AV.weaks (thrCells x) = thrCells x := by
 simp only [thrCells, AV.weaks, lstA_weak GStmt.weaks]
theorem agg7_slice (H : AH) (v : GVar) : abslice H false 7 1 [.str [], .int .i64 0, .int .i64 0, .bool false, .lst .nil 0 [], .int .i64 0, .lst .nil 0 []] [(0, 7, .agg v.cells)] = some (.lst .full 1 v.cells, H) := by
 have hfl := GVar.len v
 simp only [abslice, fillA, AV.known, AV.cells, hfl]
 rw [if_pos (by simp)]
 rw [setCells_all (by rw [hfl]; rfl)]
 rfl
section
variable {H0 : AH} {Q : Post} {i1 i3 i21 id : Nat}
structure PF (H0 : AH) (id i1 i3 i21 : Nat) (H : AH) (s : PSt) (L1 L2 : AV) : Prop where
 hid : id < H0.n
 h1 : i1 < H0.n
 h3 : i3 < H0.n
 d1 : i1 ≠ id
 d3 : i3 ≠ id
 d13 : i1 ≠ i3
 h21 : H0.n ≤ i21
 kk : KeepP id H0 H
 ps : PS H id s
 a1 : At H i1 (.row [.lst .nil 0 [], .lst .nil 0 []])
 a3 : At H i3 (.row [.int .i64 0, .int .i64 0])
 a21 : At H i21 (.row [L1, L2])
theorem PF.call {H : AH} {s : PSt} {L1 L2 : AV} (h : PF H0 id i1 i3 i21 H s L1 L2) {H' : AH} {s' : PSt} (k : KeepP id H H') (p : PS H' id s') : PF H0 id i1 i3 i21 H' s' L1 L2 :=
 ⟨h.hid, h.h1, h.h3, h.d1, h.d3, h.d13, h.h21, h.kk.trans k, p, k.2 _ _ h.d1 h.a1, k.2 _ _ h.d3 h.a3, k.2 _ _ (by have := h.hid; have := h.h21; omega) h.a21⟩
theorem PF.put {H : AH} {s : PSt} {L1 L2 : AV} (h : PF H0 id i1 i3 i21 H s L1 L2) (M1 M2 : AV) : PF H0 id i1 i3 i21 (H.set i21 (.row [M1, M2])) s M1 M2 :=
 ⟨h.hid, h.h1, h.h3, h.d1, h.d3, h.d13, h.h21, h.kk.setL h.h21 _, h.ps.setL (by have := h.hid; have := h.h21; omega) _, h.a1.set_ne (by have := h.h1; have := h.h21; omega) _, h.a3.set_ne (by have := h.h3; have := h.h21; omega) _, h.a21.set _⟩
theorem PF.left {H H' : AH} {s : PSt} {L1 L2 : AV} (h : PF H0 id i1 i3 i21 H s L1 L2) (k : Left H0.n H H') : PF H0 id i1 i3 i21 H' s L1 L2 :=
 ⟨h.hid, h.h1, h.h3, h.d1, h.d3, h.d13, h.h21, h.kk.left k, h.ps.left k, k.row h.a1, k.row h.a3, k.row h.a21⟩
theorem prog_fin (hT : Cl Φ S.tab_Lex) {H : AH} {s : PSt} {L1 L2 : AV} {vs : List GVar} {ts : List (List GStmt)} (h : PF H0 id i1 i3 i21 H s L1 L2) (w1 : L1.weak = lstA GVar.cells vs) (w2 : L2.weak = lstA thrCells ts) (s1 : L1.scalar = true) (s2 : L2.scalar = true)
  (hQ : ∀ H', Q (progV (if s.endM.fk ≠ 0 then (⟨[], []⟩, s.endM.fl, s.endM.fk) else (⟨vs, ts⟩, 0, 0))) H') : JoinP (S.parse_Prog_k1 Φ (.ptr i1 0) (.ptr i3 0) (.ptr id 0) (.ptr i21 0) fun v H' => Q v.weak H') [] H := by
 simp only [JoinP_def, S.parse_Prog_k1]
 refine p_end hT h.ps fun H61 k61 p61 => ?_
 have h2 := h.call k61 p61
 simp only [abox, if_true, DoH_some]
 rw [store_new H61 _ _ 2 rfl rfl rfl]
 have l1 : aload (H61.push (.row [.int .i64 s.endM.fl, .int .i64 s.endM.fk])) 1 false (.ptr H61.n 1) = some (.int .i64 s.endM.fk) := by rw [load_push]; rfl
 have l2 : aload (H61.push (.row [.int .i64 s.endM.fl, .int .i64 s.endM.fk])) 2 true (.ptr H61.n 0) = some (.agg [.int .i64 s.endM.fl, .int .i64 s.endM.fk]) := by rw [load_push]; rfl
 simp only [Do_of, afaddr, Nat.zero_add, l1, abin_neq, Gd_true]
 have b1 := h2.a1.push (.row [.int .i64 s.endM.fl, .int .i64 s.endM.fk])
 have b3 := h2.a3.push (.row [.int .i64 s.endM.fl, .int .i64 s.endM.fk])
 have b21 := h2.a21.push (.row [.int .i64 s.endM.fl, .int .i64 s.endM.fk])
 have b62 := At.new H61 (.row [.int .i64 s.endM.fl, .int .i64 s.endM.fk])
 have n1 : i1 < H61.n := h2.a1.1
 have n3 : i3 < H61.n := h2.a3.1
 have d13 := h.d13
 generalize H61.push (.row [.int .i64 s.endM.fl, .int .i64 s.endM.fk]) = H64 at l1 l2 b1 b3 b21 b62
 refine ite_both (fun hx => ?_) (fun hx => ?_)
 · have hb : s.endM.fk ≠ 0 := by simpa using hx
   rw [show abuild [.lst .nil 0 [], .lst .nil 0 []] [] = some (.agg [.lst .nil 0 [], .lst .nil 0 []]) from rfl]
   simp only [Do_of, l2]
   rw [b1.store, if_pos ⟨rfl, rfl, rfl, by simp⟩]
   simp only [Do_of]
   refine ⟨?_, ?_⟩
   · rw [(b62.set_ne (by omega) _).load]; rfl
   have e3 := b3.set_ne (i := i1) (by omega) (.row (setCells [AV.lst .nil 0 [], .lst .nil 0 []] 0 (AV.agg [.lst .nil 0 [], .lst .nil 0 []]).cells))
   have e1 := b1.set (.row (setCells [AV.lst .nil 0 [], .lst .nil 0 []] 0 (AV.agg [.lst .nil 0 [], .lst .nil 0 []]).cells))
   rw [e3.store, if_pos ⟨rfl, rfl, rfl, by simp⟩]
   simp only [Do_of]
   rw [(e1.set_ne d13 _).load, (e3.set _).load]
   refine (Do_of _ _).2 ((Do_of _ _).2 ?_)
   have := hQ ((H64.set i1 (.row (setCells [AV.lst .nil 0 [], .lst .nil 0 []] 0 (AV.agg [.lst .nil 0 [], .lst .nil 0 []]).cells))).set i3 (.row (setCells [AV.int .i64 0, .int .i64 0] 0 (AV.agg [.int .i64 s.endM.fl, .int .i64 s.endM.fk]).cells)))
   rw [if_pos hb] at this
   show Q (AV.tup [AV.agg [.lst .nil 0 [], .lst .nil 0 []], AV.agg [.int .i64 s.endM.fl, .int .i64 s.endM.fk]]).weak _
   rw [progW (x := ⟨[], []⟩) _ _ _ _ rfl rfl]
   exact this
 · have hb : ¬ s.endM.fk ≠ 0 := by simpa using hx
   have l21 : aload H64 2 true (.ptr i21 0) = some (.agg [L1, L2]) := by rw [b21.load]; rfl
   rw [l21]
   rw [show abuild [.int .i64 0, .int .i64 0] [] = some (.agg [.int .i64 0, .int .i64 0]) from rfl]
   simp only [Do_of]
   rw [b1.store, if_pos ⟨rfl, rfl, by simp [AV.cells, s1, s2], by simp⟩]
   simp only [Do_of]
   have e3 := b3.set_ne (i := i1) (by omega) (.row (setCells [AV.lst .nil 0 [], .lst .nil 0 []] 0 (AV.agg [L1, L2]).cells))
   have e1 := b1.set (.row (setCells [AV.lst .nil 0 [], .lst .nil 0 []] 0 (AV.agg [L1, L2]).cells))
   rw [e3.store, if_pos ⟨rfl, rfl, rfl, by simp⟩]
   simp only [Do_of]
   rw [(e1.set_ne d13 _).load, (e3.set _).load]
   refine (Do_of _ _).2 ((Do_of _ _).2 ?_)
   have := hQ ((H64.set i1 (.row (setCells [AV.lst .nil 0 [], .lst .nil 0 []] 0 (AV.agg [L1, L2]).cells))).set i3 (.row (setCells [AV.int .i64 0, .int .i64 0] 0 (AV.agg [.int .i64 0, .int .i64 0]).cells)))
   rw [if_neg hb] at this
   show Q (AV.tup [AV.agg [L1, L2], AV.agg [.int .i64 0, .int .i64 0]]).weak _
   rw [progW (x := ⟨vs, ts⟩) _ _ _ _ w1 w2]
   exact this
theorem own_scalar {n0 : Nat} {H : AH} {sz len : Nat} {x : AV} {cells : List AV} (h : OwnT n0 H sz x len cells) : x.scalar = true ∧ x.cells = [x] ∧ x.known = true := by
 obtain ⟨tk, rfl, _, _⟩ := h; exact ⟨rfl, rfl, rfl⟩
theorem thrs_loop (hT : Cl Φ S.tab_Lex) (hbl : ∀ n, BlockOK Φ kw val n) {L1 : AV} {vs : List GVar} (w1 : L1.weak = lstA GVar.cells vs) (s1 : L1.scalar = true) :
  ∀ (n : Nat) (H : AH) (s : PSt) (L2 : AV) (done : List (List GStmt)) (cs : List AV), PF H0 id i1 i3 i21 H s L1 L2 → Wf s → Few n s → (s.fk ≠ 0 ∨ done.length + s.toks.length ≤ 2000001) → OwnT H0.n H 1 L2 done.length cs → AV.weaks cs = done.flatMap thrCells →
  (∀ H', Q (progV (if (thrsM kw val n s).2.endM.fk ≠ 0 then (⟨[], []⟩, (thrsM kw val n s).2.endM.fl, (thrsM kw val n s).2.endM.fk) else (⟨vs, done ++ (thrsM kw val n s).1⟩, 0, 0))) H') →
  LoopP (S.parse_Prog_l2 Φ (.ptr i1 0) (.ptr i3 0) (.ptr id 0) (.ptr i21 0) fun v H' => Q v.weak H') ([], H) := by
 have out : ∀ (n : Nat) (H : AH) (s : PSt) (L2 : AV) (done : List (List GStmt)) (cs : List AV), PF H0 id i1 i3 i21 H s L1 L2 → OwnT H0.n H 1 L2 done.length cs → AV.weaks cs = done.flatMap thrCells → thrsM kw val n s = ([], s) →
   (∀ H', Q (progV (if (thrsM kw val n s).2.endM.fk ≠ 0 then (⟨[], []⟩, (thrsM kw val n s).2.endM.fl, (thrsM kw val n s).2.endM.fk) else (⟨vs, done ++ (thrsM kw val n s).1⟩, 0, 0))) H') →
   JoinP (S.parse_Prog_k1 Φ (.ptr i1 0) (.ptr i3 0) (.ptr id 0) (.ptr i21 0) fun v H' => Q v.weak H') [] H := by
  intro n H s L2 done cs h ow hcs em hQ
  rw [em] at hQ
  simp only [List.append_nil] at hQ
  obtain ⟨hs, _, _⟩ := own_scalar ow
  refine prog_fin hT h w1 ?_ s1 hs hQ
  obtain ⟨tk, rfl, _, _⟩ := ow
  simp only [AV.weak, hcs, lstA]
 intro n
 induction n with
 | zero =>
  intro H s L2 done cs h w f _ ow hcs hQ
  have hb := f.zero w
  refine LoopP.step ?_
  simp only [S.parse_Prog_l2]
  refine p_is hT h.ps fun H1 k1 p1 => ?_
  have hn : ¬ s.isW [116, 104, 114, 101, 97, 100] = true := fun e => hb (isW_hd e).1
  simp only [Gd_true]
  rw [if_neg hn]
  rw [isA_no hn] at p1
  exact out 0 H1 s L2 done cs (h.call k1 p1) (ow.keep h.hid k1) hcs (by unfold thrsM; rfl) hQ
 | succ n ih =>
  intro H s L2 done cs h w f hl ow hcs hQ
  refine LoopP.step ?_
  simp only [S.parse_Prog_l2]
  refine p_is hT h.ps fun H1 k1 p1 => ?_
  have h1 := h.call k1 p1
  have ow1 := ow.keep h.hid k1
  simp only [Gd_true]
  refine ite_both (fun hy => ?_) (fun hy => ?_)
  · rw [isA_yes hy] at h1
    have fa := f.isW w hy (by decide)
    have em : thrsM kw val (n + 1) s = ((blockF (stmtsM kw val n) 1 s.adv).1 :: (thrsM kw val n (blockF (stmtsM kw val n) 1 s.adv).2).1, (thrsM kw val n (blockF (stmtsM kw val n) 1 s.adv).2).2) := by
     conv => lhs; unfold thrsM
     rw [if_pos hy]
    rw [em] at hQ
    have hld : ∀ {H' : AH} {s'}, PF H0 id i1 i3 i21 H' s' L1 L2 → aload H' 1 false (.ptr i21 1) = some L2 := fun h => by rw [h.a21.load]; rfl
    simp only [afaddr, Do_of, Nat.zero_add, hld h1]
    have sb := Sub.block (Sub.stmts kw val n) 1 s.adv
    have ss := w.short (by rw [(isW_hd hy).2]; decide)
    refine hbl n _ _ _ _ _ h1.ps w.adv fa fun H2 k2 p2 => ?_
    have h2 := h1.call k2 p2
    have ow2 := ow1.keep h.hid k2
    generalize blockF (stmtsM kw val n) 1 s.adv = b at hQ sb h2
    refine ⟨hld h2, ?_⟩
    rw [show abslice H2 false 1 1 [.lst .nil 0 []] [(0, 1, lstA GStmt.cells b.1)] = some (.lst .full 1 [lstA GStmt.cells b.1], H2) from rfl]
    simp only [DoH_some]
    have hlen : done.length + s.toks.length ≤ 2000001 := by
     rcases hl with hl | hl
     · exact absurd (isW_hd hy).1 hl
     · exact hl
    refine ow2.app h2.kk.1 (m := 1) (news := [lstA GStmt.cells b.1]) rfl rfl rfl (by decide) (by omega) (by omega) fun x' H3 ow3 l3 => ?_
    have h3 := h2.left l3
    obtain ⟨hsx, hcx, hkx⟩ := own_scalar ow3
    rw [h3.a21.st (n := 1) (o := 1) (v := x') hkx (by rw [hcx]; rfl) (by rw [hcx]; simp [hsx]) (by simp), hcx]
    simp only [Do_of]
    rw [show setCells [L1, L2] 1 [x'] = [L1, x'] from rfl]
    have sb2 := sb.2.1
    refine ih _ b.2 x' (done ++ [b.1]) (cs ++ [lstA GStmt.cells b.1]) (h3.put L1 x') (sb.1 w.adv) (sb.few fa) ?_ ?_ ?_ ?_
    · by_cases hfk : b.2.fk = 0
      · exact .inr (by rw [List.length_append, List.length_singleton]; omega)
      · exact .inl hfk
    · rw [List.length_append, List.length_singleton]
      exact ow3.frame fun t a b ht => ht.set_ne (fun e => by subst e; have := ht.2.symm.trans h3.a21.2; cases this) _
    · rw [weaks_app, hcs, List.flatMap_append]
      simp only [AV.weaks, lstA_weak GStmt.weaks, List.flatMap_cons, List.flatMap_nil, thrCells, List.append_nil]
    · intro H'
      have := hQ H'
      rw [List.append_assoc]
      exact this
  · rw [isA_no hy] at h1
    exact out (n + 1) H1 s L2 done cs h1 ow1 hcs (by unfold thrsM; rw [if_neg hy]) hQ
theorem vars_loop (hT : Cl Φ S.tab_Lex) (hW : Wk Φ) (hkw : ∀ x, Val Φ K.lex_Keyword [.str x] (.bool (kw x))) (hv : NumV Φ val) (m : Nat) :
  ∀ (n : Nat) (H : AH) (s : PSt) (L1 : AV) (done : List GVar), PF H0 id i1 i3 i21 H s L1 (.lst .nil 0 []) → Wf s → Few n s → (s.fk ≠ 0 ∨ done.length + s.toks.length ≤ 2000001) → Few m s → OwnT H0.n H 7 L1 done.length (done.flatMap GVar.cells) →
  (∀ H', Q (progV (if (thrsM kw val m (varsM kw val n s).2).2.endM.fk ≠ 0 then (⟨[], []⟩, (thrsM kw val m (varsM kw val n s).2).2.endM.fl, (thrsM kw val m (varsM kw val n s).2).2.endM.fk) else (⟨done ++ (varsM kw val n s).1, (thrsM kw val m (varsM kw val n s).2).1⟩, 0, 0))) H') →
  LoopP (S.parse_Prog_l4 Φ (.ptr i1 0) (.ptr i3 0) (.ptr id 0) (.ptr i21 0) fun v H' => Q v.weak H') ([], H) := by
 have out : ∀ (n : Nat) (H : AH) (s : PSt) (L1 : AV) (done : List GVar), PF H0 id i1 i3 i21 H s L1 (.lst .nil 0 []) → Wf s → Few m s → OwnT H0.n H 7 L1 done.length (done.flatMap GVar.cells) → varsM kw val n s = ([], s) →
   (∀ H', Q (progV (if (thrsM kw val m (varsM kw val n s).2).2.endM.fk ≠ 0 then (⟨[], []⟩, (thrsM kw val m (varsM kw val n s).2).2.endM.fl, (thrsM kw val m (varsM kw val n s).2).2.endM.fk) else (⟨done ++ (varsM kw val n s).1, (thrsM kw val m (varsM kw val n s).2).1⟩, 0, 0))) H') →
   JoinP (S.parse_Prog_k3 Φ (.ptr i1 0) (.ptr i3 0) (.ptr id 0) (.ptr i21 0) fun v H' => Q v.weak H') [] H := by
  intro n H s L1 done h w f ow em hQ
  rw [em] at hQ
  simp only [List.append_nil] at hQ
  obtain ⟨hs, _, _⟩ := own_scalar ow
  have hw1 : L1.weak = lstA GVar.cells done := by
   have hs : AV.weaks (done.flatMap GVar.cells) = done.flatMap GVar.cells := by
    clear ow hQ h
    induction done with
    | nil => rfl
    | cons v r ih => rw [List.flatMap_cons, weaks_app, GVar.weaks, ih]
   rw [ow.weak hs]; rfl
  simp only [JoinP_def, S.parse_Prog_k3]
  exact thrs_loop hT (p_block hT hW hkw hv) hw1 hs m H s (.lst .nil 0 []) [] [] h w f (.inr (by have := h.ps.2.1; simp only [List.length_nil]; omega)) (OwnT.nil _ _ _) rfl hQ
 intro n
 induction n with
 | zero =>
  intro H s L1 done h w f _ fm ow hQ
  have hb := f.zero w
  refine LoopP.step ?_
  simp only [S.parse_Prog_l4]
  refine p_is hT h.ps fun H1 k1 p1 => ?_
  have hn : ¬ s.isW [118, 97, 114] = true := fun e => hb (isW_hd e).1
  simp only [Gd_true]
  rw [if_neg hn]
  rw [isA_no hn] at p1
  exact out 0 H1 s L1 done (h.call k1 p1) w fm (ow.keep h.hid k1) (by unfold varsM; rfl) hQ
 | succ n ih =>
  intro H s L1 done h w f hl fm ow hQ
  refine LoopP.step ?_
  simp only [S.parse_Prog_l4]
  refine p_is hT h.ps fun H1 k1 p1 => ?_
  have h1 := h.call k1 p1
  have ow1 := ow.keep h.hid k1
  simp only [Gd_true]
  refine ite_both (fun hy => ?_) (fun hy => ?_)
  · rw [isA_yes hy] at h1
    have fa := f.isW w hy (by decide)
    have em : varsM kw val (n + 1) s = (⟨s.adv.nameT kw, (typM kw val n 1 (s.adv.nameS kw)).1⟩ :: (varsM kw val n ((typM kw val n 1 (s.adv.nameS kw)).2.want [59])).1, (varsM kw val n ((typM kw val n 1 (s.adv.nameS kw)).2.want [59])).2) := by
     conv => lhs; unfold varsM
     rw [if_pos hy]
    rw [em] at hQ
    have hld : ∀ {H' : AH} {s'}, PF H0 id i1 i3 i21 H' s' L1 (.lst .nil 0 []) → aload H' 1 false (.ptr i21 0) = some L1 := fun h => by rw [h.a21.load]; rfl
    simp only [afaddr, Do_of, Nat.zero_add, hld h1]
    have ss := w.short (by rw [(isW_hd hy).2]; decide)
    refine p_name hT hkw h1.ps fun H2 k2 p2 => ?_
    have h2 := h1.call k2 p2
    have ow2 := ow1.keep h.hid k2
    refine ⟨hld h2, ?_⟩
    have sn := Sub.nameS kw s.adv
    have st := Sub.typ kw val n 1 (s.adv.nameS kw)
    refine p_typ hT hW hkw hv n _ _ _ _ _ h2.ps (sn.1 w.adv) (sn.few fa) fun H4 k4 p4 => ?_
    have h4 := h2.call k4 p4
    have ow4 := ow2.keep h.hid k4
    generalize typM kw val n 1 (s.adv.nameS kw) = t at hQ st h4
    refine ⟨hld h4, ?_⟩
    have hb : abuild [.str [], .int .i64 0, .int .i64 0, .bool false, .lst .nil 0 [], .int .i64 0, .lst .nil 0 []] [(0, 1, .str (s.adv.nameT kw)), (1, 6, .agg t.1.cells)] = some (.agg (GVar.cells ⟨s.adv.nameT kw, t.1⟩)) := by
     show abuild _ _ = some (.agg (.str (s.adv.nameT kw) :: t.1.cells))
     rw [GType.cells_eq]; rfl
    rw [hb]
    simp only [Do_of]
    rw [agg7_slice]
    simp only [DoH_some]
    have hlen : done.length + s.toks.length ≤ 2000001 := by
     rcases hl with hl | hl
     · exact absurd (isW_hd hy).1 hl
     · exact hl
    refine ow4.app h4.kk.1 (m := 1) (news := GVar.cells ⟨s.adv.nameT kw, t.1⟩) (by simp [acells, GVar.len]) (by rw [GVar.len]) (GVar.scalar _) (by decide) (by omega) (by omega) fun x' H3 ow3 l3 => ?_
    have h3 := h4.left l3
    obtain ⟨hsx, hcx, hkx⟩ := own_scalar ow3
    rw [h3.a21.st (n := 1) (o := 0) (v := x') hkx (by rw [hcx]; rfl) (by rw [hcx]; simp [hsx]) (by simp), hcx]
    simp only [Do_of]
    rw [show setCells [L1, AV.lst .nil 0 []] 0 [x'] = [x', .lst .nil 0 []] from rfl]
    have h5 := h3.put x' (.lst .nil 0 [])
    have ow5 : OwnT H0.n (H3.set i21 (.row [x', .lst .nil 0 []])) 7 x' (done.length + 1) (done.flatMap GVar.cells ++ GVar.cells ⟨s.adv.nameT kw, t.1⟩) := ow3.frame fun t a b ht => ht.set_ne (fun e => by subst e; have := ht.2.symm.trans h3.a21.2; cases this) _
    have sw := Sub.want t.2 [59]
    have sall := (sn.trans st).trans sw
    refine p_want hT h5.ps fun H6 k6 p6 => ?_
    refine ih _ (t.2.want [59]) x' (done ++ [⟨s.adv.nameT kw, t.1⟩]) (h5.call k6 p6) (sall.1 w.adv) (sall.few fa) ?_ (sall.few fm.adv) ?_ ?_
    · by_cases hfk : (t.2.want [59]).fk = 0
      · exact .inr (by have := sall.2.1; rw [List.length_append, List.length_singleton]; omega)
      · exact .inl hfk
    · rw [List.length_append, List.length_singleton, List.flatMap_append, List.flatMap_cons, List.flatMap_nil, List.append_nil]
      exact ow5.keep h.hid k6
    · intro H'
      have := hQ H'
      rw [List.append_assoc]
      exact this
  · rw [isA_no hy] at h1
    exact out (n + 1) H1 s L1 done h1 w fm ow1 (by unfold varsM; rw [if_neg hy]) hQ
end
theorem p_Prog (hT : Cl Φ S.tab_Lex) (hW : Wk Φ) (hkw : ∀ x, Val Φ K.lex_Keyword [.str x] (.bool (kw x))) (hv : NumV Φ val) {num : List UInt8 → Bool} (htok : ∀ s, Val Φ K.lex_Tokens [.str s] (lexV2 (lexM num s))) (s : List UInt8) {H : AH} {Q : Post} (hQ : ∀ H', Q (progV (parseP num kw val s)) H') : Φ K.parse_Prog [.str s] H Q := by
 refine hW _ _ _ _ (S.cl_parse_Prog hT ?_)
 unfold S.parse_Prog
 simp only [abox, if_true, DoH_some]
 have a1 : At ((H.push (.row [.lst .nil 0 [], .lst .nil 0 []])).push (.row [.int .i64 0, .int .i64 0])) H.n (.row [.lst .nil 0 [], .lst .nil 0 []]) := (At.new H _).push _
 have a3 : At ((H.push (.row [.lst .nil 0 [], .lst .nil 0 []])).push (.row [.int .i64 0, .int .i64 0])) (H.n + 1) (.row [.int .i64 0, .int .i64 0]) := At.new (H.push _) _
 have hn2 : (H.push (.row [.lst .nil 0 [], .lst .nil 0 []])).n = H.n + 1 := rfl
 have hn4 : ((H.push (.row [.lst .nil 0 [], .lst .nil 0 []])).push (.row [.int .i64 0, .int .i64 0])).n = H.n + 2 := rfl
 rw [hn2]
 generalize (H.push (.row [.lst .nil 0 [], .lst .nil 0 []])).push (.row [.int .i64 0, .int .i64 0]) = H4 at a1 a3 hn4
 refine p_begin hT htok s fun H6 x6 => ?_
 have b1 := a1.ext x6
 have b3 := a3.ext x6
 unfold parseP at hQ
 cases hM : lexM num s with
 | error e =>
  rw [hM] at hQ
  have hne : e.2 ≠ 0 := lexM_err hM
  simp only [aextract, List.getElem?_cons_zero, List.getElem?_cons_succ, Do_of]
  rw [store_new H6 _ _ 2 rfl rfl rfl]
  have l1 : aload (H6.push (.row [.int .i64 e.1, .int .i64 e.2])) 1 false (.ptr H6.n 1) = some (.int .i64 e.2) := by rw [load_push]; rfl
  have l2 : aload (H6.push (.row [.int .i64 e.1, .int .i64 e.2])) 2 true (.ptr H6.n 0) = some (.agg [.int .i64 e.1, .int .i64 e.2]) := by rw [load_push]; rfl
  have c1 := b1.push (.row [.int .i64 e.1, .int .i64 e.2])
  have c3 := b3.push (.row [.int .i64 e.1, .int .i64 e.2])
  have c9 := At.new H6 (.row [.int .i64 e.1, .int .i64 e.2])
  have hn6 : H.n + 1 < H6.n := b3.1
  simp only [Do_of, afaddr, Nat.zero_add, l1, abin_neq, Gd_true]
  rw [if_pos (by simpa using hne)]
  rw [show abuild [.lst .nil 0 [], .lst .nil 0 []] [] = some (.agg [.lst .nil 0 [], .lst .nil 0 []]) from rfl]
  simp only [Do_of, l2]
  generalize H6.push (.row [.int .i64 e.1, .int .i64 e.2]) = H7 at c1 c3 c9
  rw [c1.store, if_pos ⟨rfl, rfl, rfl, by simp⟩]
  simp only [Do_of]
  refine ⟨?_, ?_⟩
  · rw [(c9.set_ne (by omega) _).load]; rfl
  have e3 := c3.set_ne (i := H.n) (by omega) (.row (setCells [AV.lst .nil 0 [], .lst .nil 0 []] 0 (AV.agg [.lst .nil 0 [], .lst .nil 0 []]).cells))
  have e1 := c1.set (.row (setCells [AV.lst .nil 0 [], .lst .nil 0 []] 0 (AV.agg [.lst .nil 0 [], .lst .nil 0 []]).cells))
  rw [e3.store, if_pos ⟨rfl, rfl, rfl, by simp⟩]
  simp only [Do_of]
  rw [(e1.set_ne (by omega) _).load, (e3.set _).load]
  refine (Do_of _ _).2 ((Do_of _ _).2 ?_)
  show Q (AV.tup [AV.agg [.lst .nil 0 [], .lst .nil 0 []], AV.agg [.int .i64 e.1, .int .i64 e.2]]).weak _
  rw [progW (x := ⟨[], []⟩) _ _ _ _ rfl rfl]
  exact hQ _
 | ok ws =>
  rw [hM] at hQ
  intro id hid p6
  obtain ⟨hwf, hlen⟩ := begin_wf hM
  simp only [aextract, List.getElem?_cons_zero, List.getElem?_cons_succ, Do_of]
  rw [store_new H6 _ _ 2 rfl rfl rfl]
  have l1 : aload (H6.push (.row [.int .i64 0, .int .i64 0])) 1 false (.ptr H6.n 1) = some (.int .i64 0) := by rw [load_push]; rfl
  have c1 := b1.push (.row [.int .i64 0, .int .i64 0])
  have c3 := b3.push (.row [.int .i64 0, .int .i64 0])
  have p7 := p6.pushL (.row [.int .i64 0, .int .i64 0])
  simp only [Do_of, afaddr, Nat.zero_add, l1, abin_neq, Gd_true]
  rw [if_neg (by decide)]
  have hid6 := lt_of_ps p7
  generalize H6.push (.row [.int .i64 0, .int .i64 0]) = H7 at c1 c3 p7 hid6
  have pf : PF H7 id H.n (H.n + 1) H7.n (H7.push (.row [.lst .nil 0 [], .lst .nil 0 []])) (beginM ws) (.lst .nil 0 []) (.lst .nil 0 []) :=
   ⟨hid6, c1.1, c3.1, by omega, by omega, by omega, Nat.le_refl _, KeepP.push _ _ _, p7.pushL _, c1.push _, c3.push _, At.new _ _⟩
  have hlen' : (beginM ws).toks.length = ws.length + 1 := by show (ws ++ _).length = _; simp
  exact vars_loop hT hW hkw hv (beginM ws).toks.length (beginM ws).toks.length _ _ _ [] pf hwf (.inr (Nat.le_refl _)) (.inr (by rw [List.length_nil, hlen']; omega)) (.inr (Nat.le_refl _)) (OwnT.nil _ _ _) hQ
end
end Rb

set_option linter.unusedVariables false
set_option linter.unusedSimpArgs false
set_option linter.unusedSectionVars false
namespace Rb
open Go
theorem two_rows {H : AH} {P F z1 z2 : List AV} (hP : P.length = 2) (hF : F.length = 2) (sP : P.all AV.scalar = true) (sF : F.all AV.scalar = true) (l1 : z1.length = 2) (l2 : z2.length = 2) {K : AV → AV → AH → Prop}
  (hK : ∀ H' i j, AH.Ext H H' → i ≠ j → At H' i (.row P) → At H' j (.row F) → K (.ptr i 0) (.ptr j 0) H') :
  DoH (some (abox H true z1)) fun x18 H19 => DoH (some (abox H19 true z2)) fun x20 H21 => Do (astore H21 2 x18 (.agg P)) fun H22 => Do (astore H22 2 x20 (.agg F)) fun H23 => K x18 x20 H23 := by
 simp only [abox, if_true, DoH_some]
 have a1 : At ((H.push (.row z1)).push (.row z2)) H.n (.row z1) := (At.new H _).push _
 have a2 : At ((H.push (.row z1)).push (.row z2)) (H.n + 1) (.row z2) := At.new (H.push _) _
 have hn : (H.push (.row z1)).n = H.n + 1 := rfl
 rw [hn]
 rw [a1.st (n := 2) (o := 0) (v := .agg P) rfl hP sP (by omega)]
 simp only [Do_of, AV.cells]
 rw [setCells_all (by omega)]
 have b1 := a1.set (.row (List.take 0 z1 ++ P))
 have b2 := a2.set_ne (i := H.n) (by omega) (.row (List.take 0 z1 ++ P))
 rw [b2.st (n := 2) (o := 0) (v := .agg F) rfl hF sF (by omega)]
 simp only [Do_of, AV.cells]
 rw [setCells_all (by omega)]
 refine hK _ H.n (H.n + 1) ?_ (by omega) (b1.set_ne (by omega) _) (b2.set _)
 exact ((((AH.Ext.push H _).trans (AH.Ext.push _ _)).set (Nat.le_refl _) _).set (Nat.le_succ _) _)
section
variable {Φ : Calls'} {U : TypeId} {H : AH} {Q : Post}
theorem runW_flat {α : Type} (f : α → List Wd) (x : α) (r : List α) (st : List UInt8) : runW ((x :: r).flatMap f) st = runW (r.flatMap f) (runW (f x) st) := by rw [List.flatMap_cons, runW_app]
theorem bnew_ok (H : AH) {T : TypeId} : ∃ H', aext H (.bnew T) [.agg [.nilp, .lst .nil 0 []]] = some (.ptr H.n 0, H') ∧ BldAt T U H' H.n [] ∧ H'.n = H.n + 1 :=
 ⟨H.push (.bld T false none), rfl, ⟨Nat.lt_succ_self _, .inl ⟨false, AH.push_self _ _, rfl⟩⟩, rfl⟩
theorem prog_says (hT : Cl Φ S.tab_Lex) (hB : BKit Φ 79 U) {pa : List UInt8 → GProg × Int × Int} (hpa : ∀ s, Val Φ K.parse_Prog [.str s] (progV (pa s))) {p : GProg} (hp : p.pok) (hf : p.fin)
  (hQ : ∀ H', Q (.tup [.str (printM pa p).1, .int .i64 (printM pa p).2]) H') : Φ K.print_Prog [.agg p.cells] H Q := by
 refine S.cl_print_Prog hT ?_
 unfold S.print_Prog
 obtain ⟨⟨hv1, hv2⟩, ht1, ht2⟩ := hp
 unfold maxLen at hv1 ht1
 simp only [Ac.gbox, DoH_some]
 rw [show abuild [.nilp, .lst .nil 0 []] [] = some (.agg [.nilp, .lst .nil 0 []]) from rfl]
 simp only [Do_of]
 obtain ⟨H0, hn, hb, hn0⟩ := bnew_ok (U := U) H (T := 79)
 rw [hn]
 simp only [DoH_some, Ac.addr, Ac.g0, Do_of, lstA_len']
 have k3 : ∀ H1, BldAt 79 U H1 H.n p.text → JoinP (S.print_Prog_k3 Φ (.fptr p.cells) (.ptr H.n 0) Q) [] H1 := by
  intro H1 hb1
  simp only [JoinP_def, S.print_Prog_k3, Ac.nilckp, Ac.addrp, Do_of]
  refine hB.text hb1 fun H2 hb2 hk2 => ?_
  refine hpa p.text H2 _ ?_
  obtain ⟨⟨q, fl, fk⟩, hpq⟩ : ∃ r, pa p.text = r := ⟨_, rfl⟩
  rw [hpq]
  have hp1 : (fk ≠ 0 ∨ p.er ≠ q.er) → printM pa p = ([], 4) := fun h => by unfold printM; rw [hpq, if_pos h]
  have hp2 : ¬ (fk ≠ 0 ∨ p.er ≠ q.er) → printM pa p = (p.text, 0) := fun h => by unfold printM; rw [hpq, if_neg h]
  simp only [progV]
  rw [show aextract 0 (.tup [.agg q.cells, .agg [.int .i64 fl, .int .i64 fk]]) = some (.agg q.cells) from rfl, show aextract 1 (.tup [.agg q.cells, .agg [.int .i64 fl, .int .i64 fk]]) = some (.agg [.int .i64 fl, .int .i64 fk]) from rfl]
  simp only [Do_of]
  have k2 : ∀ (b : Bool) (H' : AH), (b = true ↔ (fk ≠ 0 ∨ p.er ≠ q.er)) → JoinP (S.print_Prog_k2 Φ (.str p.text) Q) [.bool b] H' := by
   intro b H' hbb
   simp only [JoinP_def, S.print_Prog_k2, S.print_Prog_k1, sl_zero, Gd_true]
   refine bool_ite8 (fun h => ?_) (fun h => ?_)
   · have := hQ H'
     rw [hp1 (hbb.1 h)] at this
     exact this
   · have hn : ¬ (fk ≠ 0 ∨ p.er ≠ q.er) := fun e => by rw [hbb.2 e] at h; cases h
     have := hQ H'
     rw [hp2 hn] at this
     exact this
  refine two_rows (P := q.cells) (F := [.int .i64 fl, .int .i64 fk]) (z1 := [.lst .nil 0 [], .lst .nil 0 []]) (z2 := [.int .i64 0, .int .i64 0]) rfl rfl (by simp [GProg.cells, lstA, AV.scalar]) rfl rfl rfl (K := fun x59 x61 H64 => _) fun H3 i j _ _ hi hj => ?_
  simp only [Ac.addrp, Do_of, Nat.zero_add]
  rw [Ac.rowl hj.2, show takeCells [.int .i64 fl, .int .i64 fk] 1 1 false = some (.int .i64 fk) from rfl]
  simp only [Do_of, abin_neq, Gd3_false]
  refine bool_itef8 (fun h => ?_) (fun h => ?_)
  · have hk0 : fk = 0 := by simpa using h
    rw [Ac.gall, Ac.rowl hi.2, show takeCells q.cells 0 2 true = some (.agg q.cells) from rfl]
    simp only [Do_of]
    refine Same_says hT hf q _ _ fun b H4 hb4 => ?_
    simp only [aun_not, Do_of]
    refine k2 _ H4 ?_
    rw [hk0]
    cases b
    · simp only [Bool.not_false, true_iff]
      exact .inr fun e => by have := hb4.2 e; cases this
    · simp only [Bool.not_true, Bool.false_eq_true, false_iff]
      exact fun e => e.elim (fun e => e rfl) fun e => e (hb4.1 rfl)
  · have hk0 : fk ≠ 0 := by simpa using h
    exact k2 _ H3 (by simp [hk0])
 have k5 : ∀ H1, BldAt 79 U H1 H.n (runW (p.vars.flatMap GVar.W) []) → JoinP (S.print_Prog_k5 Φ (.fptr p.cells) (.ptr H.n 0) Q) [] H1 := by
  intro H1 hb1
  simp only [JoinP_def, S.print_Prog_k5, Ac.addr, Ac.g1, Do_of, lstA_len']
  have main : ∀ (ys : List (List GStmt)) (i : Nat) (H2 : AH) (s1 : List UInt8), p.threads.drop i = ys → BldAt 79 U H2 H.n s1 → runW (ys.flatMap thrW) s1 = p.text →
    LoopP (S.print_Prog_l4 Φ (.fptr p.cells) (.ptr H.n 0) (lstA thrCells p.threads) (.int .i64 p.threads.length) Q) ([.int .i64 i], H2) := by
   intro ys
   induction ys with
   | nil =>
    intro i H2 s1 hi hb2 hr
    have hle := drop_nil_le hi
    refine LoopP.step ?_
    simp only [S.print_Prog_l4, sl_zero, abin_lss, Do_of, Gd_true]
    rw [if_neg (by simp only [decide_eq_true_eq]; omega)]
    refine k3 H2 ?_
    rw [← hr]; exact hb2
   | cons y ys ih =>
    intro i H2 s1 hi hb2 hr
    obtain ⟨hlt, hy, hd⟩ := drop_cons_lt hi
    have hty := ht2 y (List.mem_of_getElem? hy)
    refine LoopP.step ?_
    simp only [S.print_Prog_l4, sl_zero, abin_lss, Do_of, Gd_true]
    rw [if_pos (by simp only [decide_eq_true_eq]; omega), lstA_addr hlt]
    simp only [Do_of]
    rw [Ac.thr H2 hy]
    simp only [Do_of]
    refine put1 hT hB hb2 (by decide) fun H3 hb3 hk3 => ?_
    refine block_puts hT hB hty.1 (stmts_all hT hB y (GStmt.poks_iff.2 hty.2)) hb3 fun H4 hb4 hk4 => ?_
    simp only [abin_add, Do_of]
    rw [wrap_i64 (by omega) (by omega), show ((i : Int) + 1) = ((i + 1 : Nat) : Int) by simp]
    refine ih (i + 1) H4 _ hd hb4 ?_
    rw [← hr, runW_flat]
    rfl
  refine main p.threads 0 H1 _ rfl hb1 ?_
  unfold GProg.text GProg.W
  rw [runW_app]
 have main : ∀ (ys : List GVar) (i : Nat) (H2 : AH) (s1 : List UInt8), p.vars.drop i = ys → BldAt 79 U H2 H.n s1 → runW (ys.flatMap GVar.W) s1 = runW (p.vars.flatMap GVar.W) [] →
   LoopP (S.print_Prog_l6 Φ (.fptr p.cells) (.ptr H.n 0) (lstA GVar.cells p.vars) (.int .i64 p.vars.length) Q) ([.int .i64 i], H2) := by
  intro ys
  induction ys with
  | nil =>
   intro i H2 s1 hi hb2 hr
   have hle := drop_nil_le hi
   refine LoopP.step ?_
   simp only [S.print_Prog_l6, sl_zero, abin_lss, Do_of, Gd_true]
   rw [if_neg (by simp only [decide_eq_true_eq]; omega)]
   refine k5 H2 ?_
   rw [← hr]; exact hb2
  | cons y ys ih =>
   intro i H2 s1 hi hb2 hr
   obtain ⟨hlt, hy, hd⟩ := drop_cons_lt hi
   have hty := hv2 y (List.mem_of_getElem? hy)
   have hidn := hb2.1
   refine LoopP.step ?_
   simp only [S.print_Prog_l6, sl_zero, abin_lss, Do_of, Gd_true]
   rw [if_pos (by simp only [decide_eq_true_eq]; omega), lstA_addr hlt]
   simp only [Do_of]
   rw [elA_load GVar.len (by decide) H2 hy]
   simp only [Do_of, DoH_some, abox, if_true]
   rw [store_new H2 _ y.cells 7 y.len y.scalar rfl]
   have hrow : (H2.push (.row y.cells)).o H2.n = .row y.cells := AH.push_self _ _
   have l7 : y.cells.length = 7 := y.len
   simp only [Do_of, Ac.addrp, Nat.zero_add]
   rw [Ac.rowf hrow (by omega), Ac.v0]
   simp only [Do_of]
   refine put2 hT hB (hb2.push _) (by decide) hty.1 fun H3 hb3 hk3 => ?_
   have hrow3 : H3.o H2.n = .row y.cells := hk3.row (Nat.lt_succ_self _) (by omega) hrow
   rw [Ac.rowf hrow3 (by omega), Ac.v1]
   simp only [Do_of]
   refine typ_all hT hB y.type hty.2 hb3 fun H4 hb4 hk4 => ?_
   refine put1 hT hB hb4 (by decide) fun H5 hb5 hk5 => ?_
   simp only [abin_add, Do_of]
   rw [wrap_i64 (by omega) (by omega), show ((i : Int) + 1) = ((i + 1 : Nat) : Int) by simp]
   refine ih (i + 1) H5 _ hd hb5 ?_
   rw [← hr, runW_flat]
   simp only [GVar.W, runW_cons, runW_app, runW_nil]
 exact main p.vars 0 H0 [] rfl hb rfl
end
end Rb

set_option linter.unusedVariables false
set_option linter.unusedSimpArgs false
namespace Rb
open Go Go.RowKit
theorem VR.lst_len {F : FTab} {w : World} {G : Ghost} {tk : Tok} {n : Nat} {cs : List AV} {a : Option Addr} {m c : Nat} (h : VR F w G (.lst tk n cs) (.slice a m c)) : n = m := by
 cases h <;> rfl
section
variable {H : Type} {enc : TypeId × Value → H} {P : Program} {w : World} {sp : Nat → Bool} {held : Bool} {F : FTab} {G : Ghost}
theorem first_reach {tP sV tV : TypeId} {fP : Array Field} (hP : P.underlying tP = some (.struct fP)) {L : List (TypeId × Nat)} (lP : fP.toList.map (fun f => (f.type, f.offset)) = (sV, 0) :: L) (slV : P.underlying sV = some (.slice tV)) (csV : P.cellsOf sV = 1)
  {v : Value} {d : DataW H} {ps : List MemPlace} (hd : DataW.Trod enc P w 0 sp held tP v d ps) (hw : ∀ n ∈ d.weights P tP, n ≤ reachBytes) {α : Type} {cells : α → List AV} {xs : List α} {r : List AV} (hv : VRs F w G (lstA cells xs :: r) v.cells) : xs.length * P.bytesOf tV ≤ reachBytes := by
 obtain ⟨fuel, hf⟩ := hd
 obtain ⟨ys, m, _, hx, hlen, hyl, hfs⟩ := DataW.trod_struct hP hf
 obtain ⟨f0, fr, hfl⟩ : ∃ f0 fr, fP.toList = f0 :: fr := by
  cases h : fP.toList with
  | nil => rw [h] at lP; simp at lP
  | cons f0 fr => exact ⟨f0, fr, rfl⟩
 rw [hfl] at lP
 simp only [List.map_cons, List.cons.injEq, Prod.mk.injEq] at lP
 obtain ⟨⟨ht0, ho0⟩, _⟩ := lP
 have hf0 : fP[0]? = some f0 := by
  have := congrArg (fun l => l[0]?) hfl
  simpa using this
 have h0 := hfs 0 f0 hf0
 rw [ht0, ho0, csV, List.drop_zero] at h0
 have hsz : 0 < ys.length := by
  rw [hyl, ← Array.length_toList, hfl]; simp
 rw [List.getElem?_eq_getElem hsz] at h0
 obtain ⟨hl, hvv⟩ := hv
 have hcs : 0 < v.cells.size := by rw [← hl]; simp
 have hV := hvv 0 _ v.cells[0] rfl (by rw [Array.getElem?_eq_getElem hcs])
 have htk : v.cells.toList.take 1 = [v.cells[0]] := by
  have hl2 : 0 < v.cells.toList.length := by simpa using hcs
  have one : ∀ (l : List Value) (h : 0 < l.length), l.take 1 = [l[0]] := by
   intro l h
   cases l with
   | nil => simp at h
   | cons x r => rfl
  rw [one _ hl2]
  simp
 rw [htk] at h0
 generalize v.cells[0] = V at *
 rcases DataW.trod_slice slV h0 with ⟨e, _⟩ | ⟨a, len, cap, elems, rest, k, _, e, ex, _, _, _, hel, _⟩
 · simp only [List.cons.injEq, and_true] at e
   subst e
   have := hV.lst_len
   rw [this]; simp
 · simp only [List.cons.injEq, and_true] at e
   subst e
   have hn := hV.lst_len
   rw [hn, ← hel]
   have hd : d = .agg (ys.map (·.1)) := congrArg Prod.fst hx
   have hmem : (elems.length + rest.length) * P.bytesOf tV ∈ d.weights P tP := by
    rw [hd]
    simp only [DataW.weights, hP]
    refine DataW.weights_mem_each (j := 0) (t := sV) (d := .slice (elems.map (·.1)) (rest.map (·.1))) ?_ ?_ _ ?_
    · rw [hfl]; simp [ht0]
    · rw [List.getElem?_map, List.getElem?_eq_getElem hsz, ex]; rfl
    · simp only [DataW.weights, slV]; simp
   have := hw _ hmem
   rw [Nat.add_mul] at this
   omega
end
end Rb

set_option linter.unusedVariables false
namespace Rb
open Go Go.RowKit
section
variable {H : Type} {enc : TypeId × Value → H} {P : Program} {w : World} {sp : Nat → Bool} {held : Bool} {F : FTab}
theorem VRs.one_inv {G : Ghost} {c : AV} {cs : List Value} (h : VRs F w G [c] cs.toArray) : ∃ V, cs = [V] ∧ VR F w G c V := by
 obtain ⟨hl, hv⟩ := h
 match cs, hl with
 | [V], _ => exact ⟨V, rfl, hv 0 c V rfl rfl⟩
theorem Dec.slice47 {n : Nat} {t e0 : TypeId} {α : Type} {cells : α → List AV} {ok : α → Prop} (ht : P.underlying t = some (.slice e0)) {sz : Nat} (hs : P.cellsOf e0 = sz) (hz : 0 < sz) (hc : ∀ x, (cells x).length = sz) (hb : 0 < P.bytesOf e0) (h : Dec F enc P w sp held n e0 cells ok) :
  Dec F enc P w sp held (n + 1) t (fun xs : List α => [lstA cells xs]) (fun xs => xs.length ≤ 140737488355328 ∧ ∀ x ∈ xs, ok x) := by
 intro fuel hf cs d ps hd hwt
 obtain ⟨xs, hx, hv⟩ := Dec.slice ht hs hz hc h fuel hf cs d ps hd hwt
 refine ⟨xs, ⟨?_, hx.2⟩, hv⟩
 obtain ⟨V, hcs, hV⟩ := VRs.one_inv hv
 subst hcs
 rcases DataW.trod_slice ht hd with ⟨e, _⟩ | ⟨a, len, cap, elems, rest, m, _, e, hdx, _, _, _, hel, _⟩
 · simp only [List.cons.injEq, and_true] at e
   subst e
   rw [hV.lst_len]; simp
 · simp only [List.cons.injEq, and_true] at e
   subst e
   have hn := hV.lst_len
   have hmem : ∀ d', d = d' → d' = .slice (elems.map (·.1)) (rest.map (·.1)) → (elems.length + rest.length) * P.bytesOf e0 ∈ d.weights P t := by
    rintro d' rfl rfl
    simp [DataW.weights, ht]
   have hmem := hmem _ rfl (congrArg Prod.fst hdx)
   have h1 := hwt _ hmem
   have h2 : reachBytes < 140737488355328 := reachBytes_lt
   have h3 : elems.length * 1 ≤ (elems.length + rest.length) * P.bytesOf e0 := Nat.mul_le_mul (Nat.le_add_right _ _) hb
   omega
def GProg.ok2 (p : GProg) : Prop := p.ok ∧ p.threads.length ≤ 140737488355328 ∧ ∀ t ∈ p.threads, t.length ≤ 140737488355328
theorem Dec_prog2 {tV sV tS sS ssS tP : TypeId} {fP : Array Field} (hV : ∀ n, Dec F enc P w sp held n tV GVar.cells GVar.ok) (hS : ∀ n, Dec F enc P w sp held n tS GStmt.cells GStmt.ok)
  (slV : P.underlying sV = some (.slice tV)) (slS : P.underlying sS = some (.slice tS)) (slSS : P.underlying ssS = some (.slice sS)) (cV : P.cellsOf tV = 7) (cS : P.cellsOf tS = 10) (csS : P.cellsOf sS = 1) (csV : P.cellsOf sV = 1) (cssS : P.cellsOf ssS = 1)
  (bS : 0 < P.bytesOf tS) (bsS : 0 < P.bytesOf sS) (hP : P.underlying tP = some (.struct fP)) (lP : fP.toList.map (fun f => (f.type, f.offset)) = [(sV, 0), (ssS, 1)]) (cP : P.cellsOf tP = 2) : ∀ n, Dec F enc P w sp held n tP GProg.cells GProg.ok2 := by
 intro n
 refine Dec.mono (n := n + 2 + 1) ?_ (by omega)
 have k1 : Dec F enc P w sp held (n + 2) sV (fun xs : List GVar => [lstA GVar.cells xs]) (fun xs => xs.length ≤ maxLen ∧ ∀ x ∈ xs, x.ok) := Dec.slice slV cV (by decide) GVar.len (hV (n + 1))
 have k2 : Dec F enc P w sp held (n + 1) sS thrCells (fun xs => xs.length ≤ 140737488355328 ∧ ∀ x ∈ xs, x.ok) := Dec.slice47 slS cS (by decide) GStmt.len bS (hS n)
 have k3 : Dec F enc P w sp held (n + 2) ssS (fun xs : List (List GStmt) => [lstA thrCells xs]) (fun xs => xs.length ≤ 140737488355328 ∧ ∀ x ∈ xs, x.length ≤ 140737488355328 ∧ ∀ y ∈ x, y.ok) := Dec.slice47 slSS csS (by decide) (fun _ => rfl) bsS k2
 refine Dec.map (fun (x : List GVar × List (List GStmt) × Unit) => (⟨x.1, x.2.1⟩ : GProg)) (fun x => ?_) (fun x hx => ?_)
  (Dec.struct hP lP (by simp [chainB, csV]) (by simp [totC, csV, cssS, cP]) (DecL.cons k1 (DecL.cons k3 DecL.nil)))
 · simp [GProg.cells]
 · obtain ⟨h1, h2, _⟩ := hx
   have l47 : (140737488355328 : Nat) ≤ maxLen := by decide
   exact ⟨⟨h1, Nat.le_trans h2.1 l47, fun t ht => ⟨Nat.le_trans (h2.2 t ht).1 l47, (h2.2 t ht).2⟩⟩, h2.1, fun t ht => (h2.2 t ht).1⟩
end
end Rb

set_option linter.unusedVariables false
set_option linter.unusedSimpArgs false
set_option linter.unusedSectionVars false
namespace Rb
open Go
section
variable {Φ : Calls'} {H : AH} {Q : Post}
set_option maxRecDepth 10000 in
theorem small_ok (hT : Cl Φ S.tab_Lex) {p : GProg} (hv : p.vars.length ≤ maxLen) (hl : p.threads.length ≤ 140737488355328) (ht : ∀ t ∈ p.threads, t.length ≤ 140737488355328)
  (hQ : ∀ b : Bool, (b = true → p.threads.length < 400 ∧ ∀ t ∈ p.threads, t.length < 400) → Q (.bool b) H) : Φ K.rabbetlaw10_small [.agg p.cells] H Q := by
 refine S.cl_rabbetlaw10_small hT ?_
 unfold S.rabbetlaw10_small
 unfold maxLen at hv
 simp only [Ac.gbox, DoH_some]
 have main : ∀ (ys : List (List GStmt)) (i n : Nat), p.threads.drop i = ys → i ≤ n → n ≤ 140737488355729 → (∀ t ∈ p.threads.take i, t.length < n) → LoopP (S.rabbetlaw10_small_l4 Φ (.fptr p.cells) Q) ([.int .i64 n, .int .i64 i], H) := by
  intro ys
  induction ys with
  | nil =>
   intro i n hi hin hn htk
   have hle := drop_nil_le hi
   refine LoopP.step ?_
   simp only [S.rabbetlaw10_small_l4, sl_zero, sl_succ, Ac.addr, Ac.g1, lstA_len', abin_lss, Do_of, Gd3_true]
   rw [if_neg (by simp only [decide_eq_true_eq]; omega)]
   simp only [JoinP_def, S.rabbetlaw10_small_k3, S.rabbetlaw10_small_k2, sl_zero, sl_succ, Gd_true, Bool.false_eq_true, if_false, Ac.addr, Ac.g0, lstA_len', abin_lss, Do_of, Gd3_true]
   refine bool_ite8 (fun h => hQ _ fun h2 => ?_) (fun h => hQ _ fun h2 => by cases h2)
   simp only [decide_eq_true_eq] at h h2
   rw [List.take_of_length_le hle] at htk
   refine ⟨?_, fun t htm => ?_⟩
   · omega
   · have := htk t htm; omega
  | cons y ys ih =>
   intro i n hi hin hn htk
   obtain ⟨hlt, hy, hd⟩ := drop_cons_lt hi
   have hyl := ht y (List.mem_of_getElem? hy)
   refine LoopP.step ?_
   simp only [S.rabbetlaw10_small_l4, sl_zero, sl_succ, Ac.addr, Ac.g1, lstA_len', abin_lss, Do_of, Gd3_true]
   rw [if_pos (by simp only [decide_eq_true_eq]; omega)]
   simp only [JoinP_def, S.rabbetlaw10_small_k3, sl_zero, sl_succ, Gd_true]
   refine bool_ite8 (fun h => ?_) (fun h => ?_)
   · simp only [decide_eq_true_eq] at h
     simp only [S.rabbetlaw10_small_k1, Ac.addr, Ac.g1, Do_of, sl_zero, sl_succ]
     have hga := lstA_addr (cells := thrCells) (sz := 1) hlt
     rw [hga]
     simp only [Do_of]
     rw [Ac.thr H hy]
     simp only [Do_of, lstA_len', abin_add]
     have w1 : IntKind.wrap .i64 (1 + (y.length : Int)) = 1 + (y.length : Int) := wrap_i64 (by omega) (by omega)
     have w2 : IntKind.wrap .i64 ((n : Int) + (1 + (y.length : Int))) = ((n + (1 + y.length) : Nat) : Int) := by rw [wrap_i64 (by omega) (by omega)]; omega
     have w3 : IntKind.wrap .i64 ((i : Int) + 1) = ((i + 1 : Nat) : Int) := by rw [wrap_i64 (by omega) (by omega)]; omega
     rw [w1, w2, w3]
     refine ih (i + 1) (n + (1 + y.length)) hd (by omega) (by omega) fun t htm => ?_
     rw [List.take_add_one, hy] at htm
     simp at htm
     rcases htm with htm | rfl
     · have := htk t htm; omega
     · omega
   · simp only [S.rabbetlaw10_small_k2, sl_zero, sl_succ, Ac.addr, Ac.g0, lstA_len', abin_lss, Do_of, Gd3_true]
     refine bool_ite8 (fun h => hQ _ fun h2 => ?_) (fun h => hQ _ fun h2 => by cases h2)
     simp only [decide_eq_true_eq, decide_eq_false_iff_not] at *
     omega
 have := main p.threads 0 0 rfl (Nat.le_refl _) (by omega) (by simp)
 simpa using this
theorem line_cells (x : GStmt) (n : Int) : x.cells.set 1 (.int .i64 n) = ({ x with line := n } : GStmt).cells := by rw [GStmt.cells_eq, GStmt.cells_eq]; rfl
theorem set_line (n : Int) : ∀ (xs : List GStmt) (k : Nat) (x : GStmt), xs[k]? = some x → (xs.flatMap GStmt.cells).set (k * 10 + 1) (.int .i64 n) = (xs.set k { x with line := n }).flatMap GStmt.cells
 | [], k, x, h => by simp at h
 | y :: r, 0, x, h => by
  simp at h; subst h
  rw [List.flatMap_cons, List.set_append_left _ _ (by rw [y.len]; decide)]
  rw [show 0 * 10 + 1 = 1 from rfl, line_cells]
  rfl
 | y :: r, k + 1, x, h => by
  rw [List.flatMap_cons, List.set_append_right _ _ (by rw [y.len]; omega), y.len, show (k + 1) * 10 + 1 - 10 = k * 10 + 1 by omega, set_line n r k x (by simpa using h)]
  rfl
theorem lineTo_step (n : Int) {xs : List GStmt} {k : Nat} {x : GStmt} (h : xs[k]? = some x) : (lineTo n (xs.take k) ++ xs.drop k).set k { x with line := n } = lineTo n (xs.take (k + 1)) ++ xs.drop (k + 1) := by
 have hlt := (List.getElem?_eq_some_iff.1 h).1
 have hl : (lineTo n (xs.take k)).length = k := by simp [lineTo]; omega
 rw [List.set_append_right _ _ (by omega), hl, Nat.sub_self, List.drop_eq_getElem_cons hlt, List.set_cons_zero, List.take_add_one, h]
 simp [lineTo]
theorem lineTo_get (n : Int) {xs : List GStmt} {k : Nat} {x : GStmt} (h : xs[k]? = some x) : (lineTo n (xs.take k) ++ xs.drop k)[k]? = some x := by
 have hlt := (List.getElem?_eq_some_iff.1 h).1
 have hl : (lineTo n (xs.take k)).length = k := by simp [lineTo]; omega
 rw [List.getElem?_append_right (by omega), hl, Nat.sub_self, List.getElem?_drop, Nat.add_zero, h]
theorem lineTo_len (n : Int) (xs : List GStmt) : (lineTo n xs).length = xs.length := by simp [lineTo]
structure Same1 (id : Nat) (H H' : AH) : Prop where
 n : H'.n = H.n
 o : ∀ j, j ≠ id → H'.o j = H.o j
theorem Same1.refl (id : Nat) (H : AH) : Same1 id H H := ⟨rfl, fun _ _ => rfl⟩
theorem Same1.set {id : Nat} {H0 H : AH} (h : Same1 id H0 H) (x : AObj) : Same1 id H0 (H.set id x) := ⟨h.n, fun j hj => (AH.set_ne H x hj).trans (h.o j hj)⟩
theorem Same1.at {id j : Nat} {H H' : AH} {x : AObj} (h : Same1 id H H') (hj : j ≠ id) (k : At H j x) : At H' j x := ⟨by rw [h.n]; exact k.1, (h.o j hj).trans k.2⟩
theorem inner_loop {n : Int} {x32 : AV} {s37 : List AV × AH} {L38 : (List AV × AH) → Prop} {id : Nat} {xs : List GStmt} (hxs : xs.length ≤ 140737488355328) {H0 : AH} (ha : At H0 id (.row (xs.flatMap GStmt.cells)))
  (hK : ∀ H', Same1 id H0 H' → At H' id (.row ((lineTo n xs).flatMap GStmt.cells)) → JoinP (S.rabbetlaw10_PrintLines_k2 Φ x32 (.row id 0 xs.length 10) s37 L38 Q) [] H') :
  LoopP (S.rabbetlaw10_PrintLines_l3 Φ (.int .i64 n) x32 (.row id 0 xs.length 10) s37 L38 Q) ([.int .i64 0], H0) := by
 have main : ∀ (ys : List GStmt) (k : Nat) (H1 : AH), xs.drop k = ys → Same1 id H0 H1 → At H1 id (.row ((lineTo n (xs.take k) ++ xs.drop k).flatMap GStmt.cells)) → LoopP (S.rabbetlaw10_PrintLines_l3 Φ (.int .i64 n) x32 (.row id 0 xs.length 10) s37 L38 Q) ([.int .i64 k], H1) := by
  intro ys
  induction ys with
  | nil =>
   intro k H1 hk hs h1
   have hle := drop_nil_le hk
   refine LoopP.step ?_
   simp only [S.rabbetlaw10_PrintLines_l3, sl_zero]
   rw [show alen false (.row id 0 xs.length 10) = some (.int .i64 xs.length) from rfl]
   simp only [Do_of, abin_lss, Gd_true]
   rw [if_neg (by simp only [decide_eq_true_eq]; omega)]
   refine hK H1 hs ?_
   rw [hk, List.take_of_length_le hle, List.append_nil] at h1
   exact h1
  | cons y ys ih =>
   intro k H1 hk hs h1
   obtain ⟨hlt, hy, hd⟩ := drop_cons_lt hk
   refine LoopP.step ?_
   simp only [S.rabbetlaw10_PrintLines_l3, sl_zero]
   rw [show alen false (.row id 0 xs.length 10) = some (.int .i64 xs.length) from rfl]
   simp only [Do_of, abin_lss, Gd_true]
   rw [if_pos (by simp only [decide_eq_true_eq]; omega)]
   rw [show aiaddr none 10 (.row id 0 xs.length 10) (.int .i64 k) = some (.ptr id (0 + k * 10)) from by simp only [aiaddr]; rw [if_pos ⟨by omega, by omega⟩]; rfl]
   simp only [Do_of, Ac.addrp]
   have hlen : ((lineTo n (xs.take k) ++ xs.drop k).flatMap GStmt.cells).length = xs.length * 10 := by
    rw [flatMap_len GStmt.len]
    congr 1
    simp [lineTo_len]; omega
   rw [h1.store, if_pos ⟨rfl, rfl, rfl, by rw [hlen]; omega⟩]
   simp only [Do_of, abin_add]
   have w3 : IntKind.wrap .i64 ((k : Int) + 1) = ((k + 1 : Nat) : Int) := by rw [wrap_i64 (by omega) (by omega)]; omega
   rw [w3]
   refine ih (k + 1) _ hd (hs.set _) ?_
   have e : setCells ((lineTo n (xs.take k) ++ xs.drop k).flatMap GStmt.cells) (0 + k * 10 + 1) (AV.int .i64 n).cells = (lineTo n (xs.take (k + 1)) ++ xs.drop (k + 1)).flatMap GStmt.cells := by
    show ((lineTo n (xs.take k) ++ xs.drop k).flatMap GStmt.cells).set (0 + k * 10 + 1) (.int .i64 n) = _
    rw [Nat.zero_add, set_line n _ k y (lineTo_get n hy), lineTo_step n hy]
   rw [e]
   exact h1.set _
 exact main xs 0 H0 rfl (Same1.refl _ _) (by simpa [lineTo] using ha)
structure InvL (r : Nat) (V L : AV) (i : Nat) (ts : List (List GStmt)) (n : Int) (H : AH) : Prop where
 row : At H r (.row [V, L])
 own : ∃ cells, OwnT (r + 1) H 1 L i cells ∧ AV.weaks cells = ((ts.take i).map (lineTo n)).flatMap thrCells
theorem InvL.scal {r : Nat} {V L : AV} {i : Nat} {ts : List (List GStmt)} {n : Int} {H : AH} (h : InvL r V L i ts n H) : L.scalar = true := by
 obtain ⟨cells, ⟨tk, rfl, _⟩, _⟩ := h.own; rfl
theorem append_thr {r : Nat} {V L : AV} {i : Nat} {p : GProg} {n : Int} {H1 : AH} {s37 : List AV × AH} {L38 : (List AV × AH) → Prop} {x : AV} {t : List GStmt} (hV : V.scalar = true) (hi : InvL r V L i p.threads n H1) (ht : p.threads[i]? = some t) (hil : i < 140737488)
  (hx : x.weak = lstA GStmt.cells (lineTo n t)) (hxs : x.scalar = true)
  (hK : ∀ L' H', InvL r V L' (i + 1) p.threads n H' → JoinP (S.rabbetlaw10_PrintLines_k1 Φ s37 L38 Q) [] H') :
  Do (aload H1 1 false (.ptr r 1)) fun x66 => DoH (abslice H1 false 1 1 [.lst .nil 0 []] [(0, 1, x)]) fun x67 H68 => DoH (aappend H68 false 1 24 x66 x67) fun x69 H70 => Do (astore H70 1 (.ptr r 1) x69) fun H72 => JoinP (S.rabbetlaw10_PrintLines_k1 Φ s37 L38 Q) [] H72 := by
 rw [hi.row.load, show takeCells [V, L] 1 1 false = some L from rfl]
 simp only [Do_of]
 have hxk : x.known = true ∧ x.cells = [x] := by cases x <;> simp [AV.scalar] at hxs <;> exact ⟨rfl, rfl⟩
 rw [show abslice H1 false 1 1 [.lst .nil 0 []] [(0, 1, x)] = some (.lst .full 1 [x], H1) from by
   simp only [abslice, fillA, hxk.1, hxk.2]; rfl]
 simp only [DoH_some]
 obtain ⟨cells, ho, hc⟩ := hi.own
 refine ho.app (m := 1) (news := [x]) hi.row.1 rfl rfl (by simp [hxs]) (by decide) (by omega) (by omega) fun L' H2 ho2 hl2 => ?_
 have hr2 := hl2.row hi.row
 have hs2 : L'.scalar = true ∧ L'.cells = [L'] ∧ L'.known = true := by obtain ⟨tk, rfl, _⟩ := ho2; exact ⟨rfl, rfl, rfl⟩
 rw [hr2.store, if_pos ⟨hs2.2.2, by rw [hs2.2.1]; rfl, by simp [hs2.2.1, hs2.1], by simp⟩]
 simp only [Do_of]
 refine hK L' _ ⟨?_, cells ++ [x], ?_, ?_⟩
 · rw [hs2.2.1]
   exact hr2.set _
 · refine ho2.frame fun t a b h => h.set_ne (fun e => ?_) _
   subst e
   have := h.2
   rw [hr2.2] at this
   cases this
 · rw [weaks_app, hc]
   rw [List.take_add_one, ht]
   simp only [Option.toList_some, List.map_append, List.map_cons, List.map_nil, List.flatMap_append, List.flatMap_cons, List.flatMap_nil, List.append_nil]
   congr 1
   simp only [AV.weaks, hx, thrCells]
theorem abslice0 (H : AH) (zs : List AV) : abslice H false 10 0 zs [] = some (.lst .full 0 [], H) := rfl
theorem moved_pok {p : GProg} {n : Int} (h : p.pok) (f : p.fin) : (p.moved n).pok ∧ (p.moved n).fin := by
 have hm : ∀ t ∈ (p.moved n).threads, ∃ u ∈ p.threads, t = lineTo n u := by
  intro t ht
  obtain ⟨u, hu, rfl⟩ := List.mem_map.1 ht
  exact ⟨u, hu, rfl⟩
 have hs : ∀ u : List GStmt, ∀ s ∈ lineTo n u, ∃ x ∈ u, s = { x with line := n } := by
  intro u s hs
  obtain ⟨x, hx, rfl⟩ := List.mem_map.1 hs
  exact ⟨x, hx, rfl⟩
 refine ⟨⟨h.1, by simpa [GProg.moved] using h.2.1, fun t ht => ?_⟩, ⟨f.1, by simpa [GProg.moved] using f.2.1, fun t ht => ?_⟩⟩
 · obtain ⟨u, hu, rfl⟩ := hm t ht
   refine ⟨by rw [lineTo_len]; exact (h.2.2 u hu).1, fun s hss => ?_⟩
   obtain ⟨x, hx, rfl⟩ := hs u s hss
   have := (h.2.2 u hu).2 x hx
   cases x
   rw [GStmt.pok] at this ⊢
   exact this
 · obtain ⟨u, hu, rfl⟩ := hm t ht
   refine ⟨by rw [lineTo_len]; exact (f.2.2 u hu).1, fun s hss => ?_⟩
   obtain ⟨x, hx, rfl⟩ := hs u s hss
   have := (f.2.2 u hu).2 x hx
   cases x
   rw [GStmt.fin] at this ⊢
   exact this
def printV (r : List UInt8 × Int) : AV := .tup [.str r.1, .int .i64 r.2]
set_option maxRecDepth 10000 in
theorem PrintLines_spec (hT : Cl Φ S.tab_Lex) (hWa : ∀ k args (H : AH) (Q : Post), Φ k (AV.weaks args) H Q → Φ k args H Q) {pa : List UInt8 → GProg × Int × Int} (hP : ∀ p : GProg, p.pok → p.fin → Val Φ K.print_Prog [.agg p.cells] (printV (printM pa p)))
  (hA : Val Φ K.rabbetlaw10_awake [] (.bool true)) {p q : GProg} (hp : p.ok2) (hq : q.ok2) {n : Int} (hQ : ∀ H', Q (.bool true) H') : S.rabbetlaw10_PrintLines Φ (.agg p.cells) (.agg q.cells) (.int .i64 n) H Q := by
 have pp := GProg.ok_pok hp.1
 have pf := GProg.ok_fin hp.1
 have qp := GProg.ok_pok hq.1
 have qf := GProg.ok_fin hq.1
 obtain ⟨mp, mf⟩ := moved_pok (n := n) pp pf
 unfold S.rabbetlaw10_PrintLines
 simp only [Ac.gbox, DoH_some, Ac.gall, Do_of]
 refine small_ok hT pp.1.1 hp.2.1 hp.2.2 fun b1 hb1 => ?_
 simp only [aun_not, Do_of, Gd3_false]
 have k10 : ∀ b2 : Bool, (b2 = false → p.threads.length < 400 ∧ ∀ t ∈ p.threads, t.length < 400) → JoinP (S.rabbetlaw10_PrintLines_k10 Φ (.int .i64 n) (.fptr p.cells) (.fptr q.cells) Q) [.bool b2] H := by
  intro b2 hb2
  simp only [JoinP_def, S.rabbetlaw10_PrintLines_k10, sl_zero, Gd_true]
  refine bool_ite8 (fun _ => hA _ _ (hQ _)) (fun h => ?_)
  obtain ⟨hl1, hl2⟩ := hb2 h
  simp only [S.rabbetlaw10_PrintLines_k9, Ac.gall, Do_of]
  refine hP p pp pf _ _ ?_
  simp only [printV, show ∀ a b, aextract 0 (.tup [a, b]) = some a from fun _ _ => rfl, show ∀ a b, aextract 1 (.tup [a, b]) = some b from fun _ _ => rfl, Do_of]
  refine hP q qp qf _ _ ?_
  simp only [printV, show ∀ a b, aextract 0 (.tup [a, b]) = some a from fun _ _ => rfl, show ∀ a b, aextract 1 (.tup [a, b]) = some b from fun _ _ => rfl, Do_of, Ac.addr, Ac.g0]
  have hbu : abuild [.lst .nil 0 [], .lst .nil 0 []] [(0, 1, lstA GVar.cells p.vars)] = some (.agg [lstA GVar.cells p.vars, .lst .nil 0 []]) := rfl
  rw [hbu]
  simp only [Do_of, DoH_some, abox, if_true]
  rw [store_new H _ [lstA GVar.cells p.vars, .lst .nil 0 []] 2 rfl rfl rfl]
  simp only [Do_of]
  obtain ⟨r, hr⟩ : ∃ r, H.n = r := ⟨_, rfl⟩
  rw [hr]
  have k7 : ∀ (L : AV) (H' : AH), InvL r (lstA GVar.cells p.vars) L p.threads.length p.threads n H' → JoinP (S.rabbetlaw10_PrintLines_k7 Φ (.fptr p.cells) (.fptr q.cells) (.str (printM pa p).1) (.int .i64 (printM pa p).2) (.str (printM pa q).1) (.int .i64 (printM pa q).2) (.ptr r 0) Q) [] H' := by
   intro L H' hi
   have hrow := hi.row
   obtain ⟨cells, ho, hc⟩ := hi.own
   rw [List.take_of_length_le (Nat.le_refl _)] at hc
   have hLw : L.weak = lstA thrCells (p.moved n).threads := by
    obtain ⟨tk, rfl, _⟩ := ho
    simp only [AV.weak, hc, lstA, GProg.moved, List.length_map]
   have hagg : AV.weaks [.agg [lstA GVar.cells p.vars, L]] = [.agg (p.moved n).cells] := by
    simp only [AV.weaks, AV.weak, hLw, lstA_weak GVar.weaks]
    rfl
   have hM : printM pa (p.moved n) = printM pa p := printM_er pa (GProg.er_moved n p)
   simp only [JoinP_def, S.rabbetlaw10_PrintLines_k7]
   rw [hrow.load, show takeCells [lstA GVar.cells p.vars, L] 0 2 true = some (.agg [lstA GVar.cells p.vars, L]) from rfl]
   simp only [Do_of]
   refine hWa _ _ _ _ ?_
   rw [hagg]
   refine hP (p.moved n) mp mf _ _ ?_
   simp only [printV, hM, show ∀ a b, aextract 0 (.tup [a, b]) = some a from fun _ _ => rfl, show ∀ a b, aextract 1 (.tup [a, b]) = some b from fun _ _ => rfl, Do_of]
   refine hA _ _ ?_
   simp only [Gd3_true, if_true, abin_eql, Do_of, BEq.rfl, S.rabbetlaw10_PrintLines_k6, sl_zero]
   rw [show abin .eql (.str (printM pa p).1) (.str (printM pa p).1) = some (.bool ((printM pa p).1 == (printM pa p).1)) from rfl]
   simp only [Do_of, BEq.rfl, JoinP_def, S.rabbetlaw10_PrintLines_k5, sl_zero, Gd3_true, if_true, Ac.gall]
   rw [hrow.load, show takeCells [lstA GVar.cells p.vars, L] 0 2 true = some (.agg [lstA GVar.cells p.vars, L]) from rfl]
   simp only [Do_of]
   refine hWa _ _ _ _ ?_
   have hagg2 : AV.weaks [.agg p.cells, .agg [lstA GVar.cells p.vars, L]] = [.agg p.cells, .agg (p.moved n).cells] := by
    have e1 : (AV.agg p.cells).weak = .agg p.cells := by
     simp only [AV.weak, AV.weaks, GProg.cells, lstA_weak GVar.weaks, lstA_weak thrCells_weak]
    have e2 := hagg
    simp only [AV.weaks, List.cons.injEq, and_true] at e2
    simp only [AV.weaks, e1, e2]
   rw [hagg2]
   refine Same_says hT pf (p.moved n) _ _ fun b H2 hb => ?_
   have hbt : b = true := hb.2 (GProg.er_moved n p).symm
   subst hbt
   simp only [JoinP_def, S.rabbetlaw10_PrintLines_k4, sl_zero, Gd3_true, if_true, abin_neq, Do_of, Gd3_false]
   refine bool_itef8 (fun h1 => ?_) (fun h1 => hQ _)
   refine bool_itef8 (fun h2 => ?_) (fun h2 => hQ _)
   have e1 : (printM pa p).2 = 0 := by simpa using h1
   have e2 : (printM pa q).2 = 0 := by simpa using h2
   rw [show abin .eql (.str (printM pa p).1) (.str (printM pa q).1) = some (.bool ((printM pa p).1 == (printM pa q).1)) from rfl]
   simp only [Do_of, Ac.gall]
   refine Same_says hT pf q _ _ fun b H3 hb => ?_
   rw [beqF]
   simp only [Do_of]
   have hlaw := print_lines_law pa p q
   have hiff : (printM pa p).1 = (printM pa q).1 ↔ p.er = q.er := by
    rcases hlaw with h | h | h
    · exact absurd e1 h
    · exact absurd e2 h
    · exact h
   have : (((printM pa p).1 == (printM pa q).1) == b) = true := by
    cases b
    · have hne : ¬ p.er = q.er := fun e => by have := hb.2 e; cases this
      have : ((printM pa p).1 == (printM pa q).1) = false := by
       rw [beq_eq_false_iff_ne]; exact fun e => hne (hiff.1 e)
      rw [this]; rfl
    · have : ((printM pa p).1 == (printM pa q).1) = true := beq_iff_eq.2 (hiff.2 (hb.1 rfl))
      rw [this]; rfl
   rw [this]
   exact hQ _
  have main : ∀ (ys : List (List GStmt)) (i : Nat) (L : AV) (H' : AH), p.threads.drop i = ys → i ≤ p.threads.length → InvL r (lstA GVar.cells p.vars) L i p.threads n H' →
    LoopP (S.rabbetlaw10_PrintLines_l8 Φ (.int .i64 n) (.fptr p.cells) (.fptr q.cells) (.str (printM pa p).1) (.int .i64 (printM pa p).2) (.str (printM pa q).1) (.int .i64 (printM pa q).2) (.ptr r 0) Q) ([.int .i64 i], H') := by
   intro ys
   induction ys with
   | nil =>
    intro i L H' hd hile hi
    have hle := drop_nil_le hd
    refine LoopP.step ?_
    simp only [S.rabbetlaw10_PrintLines_l8, sl_zero, Ac.addr, Ac.g1, lstA_len', abin_lss, Do_of, Gd_true]
    rw [if_neg (by simp only [decide_eq_true_eq]; omega)]
    have : i = p.threads.length := by omega
    subst this
    exact k7 L H' hi
   | cons y ys ih =>
    intro i L H' hd hile hi
    obtain ⟨hlt, hy, hd2⟩ := drop_cons_lt hd
    have hyl := hl2 y (List.mem_of_getElem? hy)
    refine LoopP.step ?_
    simp only [S.rabbetlaw10_PrintLines_l8, sl_zero, Ac.addr, Ac.g1, lstA_len', abin_lss, Do_of, Gd_true]
    rw [if_pos (by simp only [decide_eq_true_eq]; omega), abslice0]
    simp only [DoH_some]
    have hga := lstA_addr (cells := thrCells) (sz := 1) hlt
    rw [hga]
    simp only [Do_of]
    rw [Ac.thr _ hy]
    simp only [Do_of]
    have next : ∀ L' H2, InvL r (lstA GVar.cells p.vars) L' (i + 1) p.threads n H2 → JoinP (S.rabbetlaw10_PrintLines_k1 Φ ([.int .i64 i], H') (LoopP (S.rabbetlaw10_PrintLines_l8 Φ (.int .i64 n) (.fptr p.cells) (.fptr q.cells) (.str (printM pa p).1) (.int .i64 (printM pa p).2) (.str (printM pa q).1) (.int .i64 (printM pa q).2) (.ptr r 0) Q)) Q) [] H2 := by
     intro L' H2 hi2
     simp only [JoinP_def, S.rabbetlaw10_PrintLines_k1, sl_zero, abin_add, Do_of]
     have w3 : IntKind.wrap .i64 ((i : Int) + 1) = ((i + 1 : Nat) : Int) := by rw [wrap_i64 (by omega) (by omega)]; omega
     rw [w3]
     exact ih (i + 1) L' H2 hd2 (by omega) hi2
    by_cases h0 : y.length = 0
    · obtain rfl := List.length_eq_zero_iff.1 h0
      rw [show aappend H' true 10 168 (.lst .full 0 []) (lstA GStmt.cells []) = some (.lst .full 0 [], H') from rfl]
      simp only [DoH_some]
      refine LoopP.step ?_
      simp only [S.rabbetlaw10_PrintLines_l3, sl_zero, show alen false (.lst .full 0 []) = some (.int .i64 0) from rfl, abin_lss, Do_of, Gd_true]
      rw [if_neg (by simp)]
      simp only [JoinP_def, S.rabbetlaw10_PrintLines_k2, show afreeze H' (.lst .full 0 []) = some (.lst .full 0 [], H') from rfl, DoH_some, Ac.addrp, Do_of, Nat.zero_add]
      exact append_thr rfl hi hy (by omega) rfl rfl next
    · have happ : aappend H' true 10 168 (.lst .full 0 []) (lstA GStmt.cells y) = some (.row H'.n 0 y.length 10, H'.push (.row (y.flatMap GStmt.cells))) := by
        have hac : acells H' 10 (lstA GStmt.cells y) = some (y.length, y.flatMap GStmt.cells) := by
         simp only [acells, lstA]; rw [if_pos (flatMap_len GStmt.len y)]
        have hsc : (y.flatMap GStmt.cells).all AV.scalar = true := by
         rw [List.all_flatMap]; exact List.all_eq_true.2 fun x _ => x.scalar
        simp only [aappend, hac, hsc, not_true_eq_false, if_false, if_neg h0]
        rw [if_neg (by simp only [Decidable.not_not]; exact ⟨rfl, by omega, by omega⟩)]
        simp
      rw [happ]
      simp only [DoH_some]
      have hnew : At (H'.push (.row (y.flatMap GStmt.cells))) H'.n (.row (y.flatMap GStmt.cells)) := At.new H' _
      refine inner_loop (by omega) hnew fun H2 hs h2 => ?_
      have hrn : r ≠ H'.n := Nat.ne_of_lt hi.row.1
      simp only [JoinP_def, S.rabbetlaw10_PrintLines_k2]
      have hfz : afreeze H2 (.row H'.n 0 y.length 10) = some (lstA GStmt.cells (lineTo n y), H2.set H'.n .gone) := by
       have hlen : ((lineTo n y).flatMap GStmt.cells).length = y.length * 10 := by rw [flatMap_len GStmt.len, lineTo_len]
       simp only [afreeze, h2.2]
       rw [if_pos (by omega)]
       simp only [lstA, List.drop_zero, lineTo_len]
       rw [List.take_of_length_le (by omega)]
      rw [hfz]
      simp only [DoH_some, Ac.addrp, Do_of, Nat.zero_add]
      refine append_thr (L := L) rfl ⟨?_, ?_⟩ hy (by omega) (lstA_weak GStmt.weaks _) rfl next
      · exact (hs.at hrn (hi.row.push _)).set_ne hrn _
      · obtain ⟨cells, ho, hc⟩ := hi.own
        refine ⟨cells, ho.frame fun t a b h => ?_, hc⟩
        have : t ≠ H'.n := Nat.ne_of_lt h.1
        exact (hs.at this (h.push _)).set_ne this _
  refine main p.threads 0 (.lst .nil 0 []) _ rfl (Nat.zero_le _) ⟨?_, [], OwnT.nil _ _ _, rfl⟩
  rw [← hr]
  exact At.new H _
 refine bool_itef8 (fun h => ?_) (fun h => ?_)
 · refine small_ok hT qp.1.1 hq.2.1 hq.2.2 fun b2 hb2 => ?_
   simp only [aun_not, Do_of]
   exact k10 _ fun h2 => hb1 (by simpa using h)
 · exact k10 _ fun h2 => by cases h2
end
end Rb

set_option linter.unusedVariables false
set_option linter.unusedSimpArgs false
set_option linter.unusedSectionVars false
namespace Rb
open Go
def kwTextX : List UInt8 := [118, 97, 114, 32, 116, 104, 114, 101, 97, 100, 32, 115, 116, 114, 117, 99, 116, 32, 117, 110, 105, 111, 110, 32, 112, 97, 99, 107, 101, 100, 32, 117, 56, 32, 117, 49, 54, 32, 117, 51, 50, 32, 117, 54, 52, 32, 97, 56, 32, 97, 49, 54, 32, 97, 51, 50, 32, 97, 54, 52, 32, 97, 49, 50, 56, 32, 108, 101, 116, 32, 115, 101, 116, 32, 119, 114, 105, 116, 101, 32, 115, 116, 111, 114, 101, 32, 108, 111, 97, 100, 50, 32, 115, 116, 111, 114, 101, 50, 32, 102, 101, 110, 99, 101, 32, 105, 102, 32, 101, 108, 115, 101, 32, 119, 104, 105, 108, 101, 32, 112, 114, 105, 110, 116, 32, 114, 101, 97, 100, 32, 108, 111, 97, 100, 32, 97, 100, 100, 32, 115, 119, 97, 112, 32, 99, 97, 115, 32, 114, 108, 120, 32, 97, 99, 113, 32, 114, 101, 108, 32, 115, 99]
def kwsX : List (List UInt8) := [[118, 97, 114], [116, 104, 114, 101, 97, 100], [115, 116, 114, 117, 99, 116], [117, 110, 105, 111, 110], [112, 97, 99, 107, 101, 100], [117, 56], [117, 49, 54], [117, 51, 50], [117, 54, 52], [97, 56], [97, 49, 54], [97, 51, 50], [97, 54, 52], [97, 49, 50, 56], [108, 101, 116], [115, 101, 116], [119, 114, 105, 116, 101], [115, 116, 111, 114, 101], [108, 111, 97, 100, 50], [115, 116, 111, 114, 101, 50], [102, 101, 110, 99, 101], [105, 102], [101, 108, 115, 101], [119, 104, 105, 108, 101], [112, 114, 105, 110, 116], [114, 101, 97, 100], [108, 111, 97, 100], [97, 100, 100], [115, 119, 97, 112], [99, 97, 115], [114, 108, 120], [97, 99, 113], [114, 101, 108], [115, 99]]
def kwX (s : List UInt8) : Bool := kwsX.any fun x => s == x
theorem abin_streqK (s t : List UInt8) : abin .eql (.str s) (.str t) = some (.bool (s == t)) := rfl
theorem idxI_any {α : Type} (p : α → Bool) (xs : List α) : decide (idxI (xs.findIdx? p) ≥ 0) = xs.any p := by
 cases hf : xs.findIdx? p with
 | none =>
  rw [List.findIdx?_eq_none_iff] at hf
  have : xs.any p = false := by simpa using hf
  rw [this]; rfl
 | some i =>
  obtain ⟨hi, h1, _⟩ := List.findIdx?_eq_some_iff_getElem.1 hf
  have : xs.any p = true := by rw [List.any_eq_true]; exact ⟨xs[i], List.getElem_mem hi, h1⟩
  rw [this]; simp [idxI]
section
variable {Φ : Calls'} {H : AH} {Q : Post}
theorem Index_gen {a : AV} {xs : List (List UInt8)} {t : List UInt8} (hlen : alen false a = some (.int .i64 xs.length)) (hr : ∀ (i : Nat) x, xs[i]? = some x → ∃ p, aiaddr none 1 a (.int .i64 i) = some p ∧ aload H 1 false p = some (.str x)) (hb : xs.length ≤ 9223372036854775807)
  (hQ : Q (.int .i64 (idxI (xs.findIdx? fun x => t == x))) H) : S.slices_Index___string_string_ Φ a (.str t) H Q := by
 unfold S.slices_Index___string_string_
 rw [hlen]
 simp only [Do_of]
 have main : ∀ (ys : List (List UInt8)) (i : Nat), xs.drop i = ys → Q (.int .i64 (idxI ((ys.findIdx? fun x => t == x).map (· + i)))) H → LoopP (S.slices_Index___string_string__l1 Φ a (.str t) (.int .i64 xs.length) Q) ([.int .i64 i], H) := by
  intro ys
  induction ys with
  | nil =>
   intro i hi hq
   have hle := drop_nil_le hi
   refine LoopP.step ?_
   simp only [S.slices_Index___string_string__l1, sl_zero, abin_lss, Do_of, Gd_true]
   rw [if_neg (by simp only [decide_eq_true_eq]; omega)]
   simpa [idxI] using hq
  | cons y ys ih =>
   intro i hi hq
   obtain ⟨hlt, hy, hd⟩ := drop_cons_lt hi
   obtain ⟨p, h1, h2⟩ := hr i y hy
   refine LoopP.step ?_
   simp only [S.slices_Index___string_string__l1, sl_zero, abin_lss, Do_of, Gd_true]
   rw [if_pos (by simp only [decide_eq_true_eq]; omega), h1]
   simp only [Do_of]
   rw [h2]
   simp only [Do_of, abin_streqK, Gd_true]
   rw [List.findIdx?_cons] at hq
   by_cases he : (t == y) = true
   · rw [if_pos he]
     rw [if_pos he] at hq
     simpa [idxI] using hq
   · rw [if_neg he]
     rw [if_neg he] at hq
     simp only [abin_add, Do_of]
     rw [wrap_i64 (by omega) (by omega), show ((i : Int) + 1) = ((i + 1 : Nat) : Int) by simp]
     refine ih (i + 1) hd ?_
     have : (List.findIdx? (fun x => t == x) ys).map (· + (i + 1)) = ((List.findIdx? (fun x => t == x) ys).map (· + 1)).map (· + i) := by
      rw [Option.map_map]; congr 1; funext k; simp only [Function.comp]; omega
     rw [this]; exact hq
 refine main xs 0 rfl ?_
 simpa using hQ
theorem Contains_gen (hT : Cl Φ S.tab_Lex) {a : AV} {xs : List (List UInt8)} {t : List UInt8} (hlen : alen false a = some (.int .i64 xs.length)) (hr : ∀ (i : Nat) x, xs[i]? = some x → ∃ p, aiaddr none 1 a (.int .i64 i) = some p ∧ aload H 1 false p = some (.str x)) (hb : xs.length ≤ 9223372036854775807)
  (hQ : Q (.bool (xs.any fun x => t == x)) H) : Φ K.slices_Contains___string_string_ [a, .str t] H Q := by
 refine S.cl_slices_Contains___string_string_ hT ?_
 unfold S.slices_Contains___string_string_
 refine S.cl_slices_Index___string_string_ hT (Index_gen hlen hr hb ?_)
 simp only [abin_geq, Do_of, idxI_any]
 exact hQ
end
section
variable {C : Ctx} (hGT : GTok C) (hT : Cl (ACall C) S.tab_Lex)
include hGT hT
theorem Keyword_val (hF : ∀ (H : AH) (Q : Post), Q (.lst .dead 34 (kwsX.map .str)) H → ACall C K.strings_Fields [.str kwTextX] H Q) (s : List UInt8) : Val (ACall C) K.lex_Keyword [.str s] (.bool (kwX s)) := by
 intro H Q hQ
 refine S.cl_lex_Keyword hT ?_
 unfold S.lex_Keyword
 refine hF _ _ ?_
 refine Contains_gen hT (xs := kwsX) rfl (fun i x hx => ?_) (by decide) hQ
 have hlt := (List.getElem?_eq_some_iff.1 hx).1
 refine ⟨.fptr ((kwsX.map AV.str).drop (i * 1)), ?_, ?_⟩
 · simp only [aiaddr]
   have hl : kwsX.length = 34 := rfl
   rw [if_pos ⟨by omega, by omega⟩]
   simp
 · show takeCells _ 0 1 false = _
   unfold takeCells
   rw [if_pos (by rw [List.length_drop, List.length_map]; omega)]
   simp [hx]
theorem Prog_val {num kw : List UInt8 → Bool} {val : List UInt8 → Int} (hkw : ∀ x, Val (ACall C) K.lex_Keyword [.str x] (.bool (kw x))) (hv : NumV (ACall C) val) (hnum : NumS (ACall C) num) (hidx : IdxS (ACall C)) (s : List UInt8) : Val (ACall C) K.parse_Prog [.str s] (progV (parseP num kw val s)) :=
 Val.of hGT rfl (by
   have h1 : ∀ vs : List GVar, (lstA GVar.cells vs).froz = true := fun vs => lstA_froz GVar.froz vs
   have h2 : ∀ ts : List (List GStmt), (lstA thrCells ts).froz = true := fun ts => lstA_froz (fun t => by simp only [thrCells, AV.frozs, lstA_froz GStmt.froz, Bool.and_self]) ts
   simp only [progV, GProg.cells, AV.froz, AV.frozs, h1, h2, Bool.and_self]) fun Q hQ => p_Prog hT (ACall.wk C) hkw hv (Tokens_val2 hGT hT hnum hidx) s hQ
end
end Rb

set_option linter.unusedVariables false
namespace Go.Proofs.YtbkkoplgicffgaaGreatDoor.rb
open Rb
theorem awake10 : Val (ACall C) K.rabbetlaw10_awake [] (.bool true) := fun H Q hQ => RbM10_rootok0 K.rabbetlaw10_awake [] (.bool true) rfl H Q hQ
theorem fieldsOK (H : AH) (Q : Post) (hQ : Q (.lst .dead 34 (kwsX.map .str)) H) : ACall C K.strings_Fields [.str kwTextX] H Q := RbM100_ok K.strings_Fields [.str kwTextX] _ (by kernel_rfl) H Q hQ
theorem kwOK (s : List UInt8) : Val (ACall C) K.lex_Keyword [.str s] (.bool (kwX s)) := Keyword_val gtC cl_Lex fieldsOK s
theorem progOK (s : List UInt8) : Val (ACall C) K.parse_Prog [.str s] (progV (parseP numX kwX valX s)) := Prog_val gtC cl_Lex kwOK valOK numOK idxOK s
theorem kitOK : BKit (ACall C) 79 5 where
 write := fun hb s h1 h2 hQ => writeOK hb s h1 h2 hQ
 len := fun hb hQ => lenOK hb hQ
 text := fun hb hQ => textOK hb hQ
 itoa := fun n H Q h0 h1 hQ => itoaOK n h0 h1 H Q hQ
 fmt := fun n H Q h hQ => fmtOK n (by omega) H Q hQ
theorem printOK (p : GProg) (hp : p.pok) (hf : p.fin) : Val (ACall C) K.print_Prog [.agg p.cells] (printV (printM (parseP numX kwX valX) p)) :=
 Val.of gtC (by simp only [AV.frozs, AV.froz, GProg.froz, Bool.and_self]) rfl fun Q hQ => prog_says cl_Lex kitOK progOK hp hf hQ
theorem printLines.any (p : GProg) (hp : p.ok2) (q : GProg) (hq : q.ok2) (n : Int) (_ : -9223372036854775808 ≤ n) (_ : n ≤ 9223372036854775807) : ACall C K.rabbetlaw10_PrintLines [.agg p.cells, .agg q.cells, .int .i64 n] AH.mt (fun v _ => v = .bool true) :=
 S.cl_rabbetlaw10_PrintLines cl_Lex (PrintLines_spec cl_Lex (fun _ _ _ _ h => ACall.weak_args h) printOK awake10 hp hq fun _ => rfl)
end Go.Proofs.YtbkkoplgicffgaaGreatDoor.rb

set_option linter.unusedVariables false
namespace Go.Proofs.YtbkkoplgicffgaaGreatDoor.rb
open Rb
variable {H : Type} {enc : TypeId × Value → H} {w : World} {sp : Nat → Bool} {held : Bool} {F : FTab}
theorem tyOK : ∃ fT fF, TyOK Tryz.prog 3 4 9 42 93 40 39 fT fF := ⟨_, _, Tryz.underlying3, Tryz.underlying4, Tryz.underlying9, Tryz.underlying42, Tryz.underlying93, Tryz.underlying40, Tryz.underlying39, rfl, rfl, by kernel_rfl, by kernel_rfl, fun t ht => by
  simp only [List.mem_cons, List.not_mem_nil, or_false] at ht
  rcases ht with rfl | rfl | rfl | rfl | rfl <;> kernel_rfl⟩
theorem decType (n : Nat) : Dec F enc Tryz.prog w sp held n 42 GType.cells GType.ok := let ⟨_, _, h⟩ := tyOK; Dec_type h n
theorem exOK : ∃ fE fL fR, ExOK Tryz.prog 3 70 9 72 54 158 55 52 fE fL fR := ⟨_, _, _, Tryz.underlying3, Tryz.underlying70, Tryz.underlying9, Tryz.underlying72, Tryz.underlying54, Tryz.underlying158, Tryz.underlying55, Tryz.underlying52, rfl, rfl, rfl, by kernel_rfl, by kernel_rfl, by kernel_rfl, fun t ht => by
  simp only [List.mem_cons, List.not_mem_nil, or_false] at ht
  rcases ht with rfl | rfl | rfl | rfl | rfl <;> kernel_rfl⟩
theorem decPlace (n : Nat) : Dec F enc Tryz.prog w sp held n 54 GPlace.cells GPlace.ok := let ⟨_, _, _, h⟩ := exOK; (Dec_exprs h n).2.1
theorem decVar (n : Nat) : Dec F enc Tryz.prog w sp held n 65 GVar.cells GVar.ok := Dec_var Tryz.underlying9 (by kernel_rfl) (by kernel_rfl) decType Tryz.underlying65 rfl (by kernel_rfl) n
theorem decVars (n : Nat) : Dec F enc Tryz.prog w sp held n 22 (fun xs : List GVar => [lstA GVar.cells xs]) (fun xs => xs.length ≤ maxLen ∧ ∀ x ∈ xs, x.ok) := Dec.mono (Dec.slice Tryz.underlying22 (by kernel_rfl) (by decide) GVar.len (decVar n)) (Nat.le_succ n)
theorem decStmt (n : Nat) : Dec F enc Tryz.prog w sp held n 57 GStmt.cells GStmt.ok := let ⟨_, _, _, h⟩ := exOK; Dec_stmt h Tryz.underlying57 Tryz.underlying51 rfl (by kernel_rfl) (by kernel_rfl) n
theorem decProg (n : Nat) : Dec F enc Tryz.prog w sp held n 25 GProg.cells GProg.ok := Dec_prog decVar decStmt Tryz.underlying22 Tryz.underlying51 Tryz.underlying23 (by kernel_rfl) (by kernel_rfl) (by kernel_rfl) (by kernel_rfl) (by kernel_rfl) Tryz.underlying25 rfl (by kernel_rfl) n
theorem decProg2 (n : Nat) : Dec F enc Tryz.prog w sp held n 25 GProg.cells GProg.ok2 := Dec_prog2 decVar decStmt Tryz.underlying22 Tryz.underlying51 Tryz.underlying23 (by kernel_rfl) (by kernel_rfl) (by kernel_rfl) (by kernel_rfl) (by kernel_rfl) (Nat.le_of_ble_eq_true (by kernel_rfl)) (Nat.le_of_ble_eq_true (by kernel_rfl)) Tryz.underlying25 rfl (by kernel_rfl) n
end Go.Proofs.YtbkkoplgicffgaaGreatDoor.rb

set_option linter.unusedVariables false
set_option linter.unusedSimpArgs false
namespace Go.Proofs.YtbkkoplgicffgaaGreatDoor.rb.printLines
open Rb Go.ChangeShapes Go.WideShapes Go.ChangeAt Go.RowKit
set_option maxRecDepth 100000 in
theorem lifted (os : Os) (started : os.Started) (H : Type) (enc : TypeId × Value → H) :
  ReturnsInHanded {} Tryz.checked os 5 .any (fun w args => (Rows.printLinesSpec.pre enc Tryz.prog Tryz.f5 [] false w args ∧ laidMet Tryz.prog laidVars w) ∧ sizedMet enc Tryz.prog Tryz.f5 (OpenSpec.ofChange Rows.printLinesSpec) false w args)
   (Rows.printLinesSpec.post enc Tryz.prog Tryz.f5 false true false false) := by
 refine returnsInHanded_of_change_and (C := Tryz.checked) (X := fun w _ => laidMet Tryz.prog laidVars w) (fun _ _ _ hh h => h.of_heap hh) own started (by kernel_rfl) Tryz.func5
  (ChangeSpec.witness_shaped (enc := enc) (C := Tryz.checked) (os := os) (X := fun w _ => laidMet Tryz.prog laidVars w) false (laidWorld os) #[.agg #[.slice none 0 0, .slice none 0 0], .agg #[.slice none 0 0, .slice none 0 0], .int .i64 0] 8 rfl (laid_shaped os _) (by kernel_rfl) (by kernel_rfl) (by kernel_rfl) (laid_met os _)) ?_
 intro W base args ds gs before hval0 hW _ hsz hL _
 have hval : ∀ (j : Nat) t v, Tryz.f5.params[j]? = some t → args[j]? = some v → Value.okWide Tryz.prog W .any base t v := hval0
 have hW' := hW
 obtain ⟨p, q, hA0, hV0, rfl, hfz, hnd⟩ := hW
 have hA : DataW.TrodAll enc Tryz.prog W 0 (fun _ => true) true Tryz.f5.params.toList args.toList ds p := hA0
 have hV : DataW.TrodVars enc Tryz.prog W (fun _ => true) [] gs q := hV0
 rw [Tryz.params5] at hA hval
 obtain ⟨v0, v1, v2, d0, d1, d2, p0, p1, p2, rfl, rfl, rfl, h0, h1, h2⟩ := trodAll_three hA
 obtain ⟨rfl, rfl⟩ : gs = [] ∧ q = [] := by
  cases gs with
  | nil => exact ⟨rfl, hV⟩
  | cons g r => exact absurd hV (by intro h; cases h)
 obtain ⟨c0, rfl, _⟩ := okWide_struct Tryz.underlying25 (hval 0 25 v0 rfl rfl)
 obtain ⟨x0, o0, k0⟩ := Dec.arg (F := C.F) decProg2 h0 (fun n hn => of_decide_eq_true (List.all_eq_true.1 hsz n (DataW.weights_mem_each (j := 0) rfl rfl n hn)))
 obtain ⟨c1, rfl, _⟩ := okWide_struct Tryz.underlying25 (hval 1 25 v1 rfl rfl)
 obtain ⟨x1, o1, k1⟩ := Dec.arg (F := C.F) decProg2 h1 (fun n hn => of_decide_eq_true (List.all_eq_true.1 hsz n (DataW.weights_mem_each (j := 1) rfl rfl n hn)))
 obtain ⟨a2, rfl, rfl, rfl, w2⟩ := open_int Tryz.underlying3 (hval 2 3 v2 rfl rfl) h2
 have b2 : IntKind.min .i64 ≤ a2 ∧ a2 ≤ IntKind.max .i64 := by simpa [Lit.wf] using w2
 simp only [IntKind.min, IntKind.max, IntKind.signed, IntKind.bits, if_true, if_false, Bool.false_eq_true] at b2
 refine (law_calls (C := C) (f := 5) (by kernel_rfl) (any x0 o0 x1 o1 a2 (by omega) (by omega)) (gok hL) (VRs.three k0.agg k1.agg (.int _ _))).mono fun e W' ⟨he, hbel⟩ => ?_
 subst he
 exact ⟨_, rfl, post_true (bt := 4) hW' laidOut (by kernel_rfl) (by kernel_rfl) (by kernel_rfl) Tryz.underlying4 rfl hbel⟩
theorem facts : joinedFacts Tryz.checked.prog 5 Tryz.f5 Rows.printLinesSpec Rows.printLinesRow = true := of_forced (by kernel_rfl)
theorem row : Rows.PrintLinesSaid :=
 OpenClaim.holds_of_wide 5 Tryz.f5 rfl rfl rfl rfl rfl rfl rfl ⟨rfl, rfl, rfl, rfl, rfl⟩ rfl rfl rfl rfl rfl (by kernel_rfl) Tryz.func5 facts
  (of_decide_eq_true (by kernel_rfl)) (by unfold Func.isWrapper; first | (rw [if_pos (by decide +kernel)]; kernel_rfl) | (rw [if_neg (by decide +kernel)]; exact ⟨rfl, rfl⟩))
  (fun os started H enc _ => lifted os started H enc)
end Go.Proofs.YtbkkoplgicffgaaGreatDoor.rb.printLines
namespace Go.Proofs.YtbkkoplgicffgaaGreatDoor
open Go
theorem printLines_holds : Rows.PrintLinesCardSaid :=
 Claim7.holds_tied_plain_at .later [] [.data, .data, .data, .data, .sentinel, .sentinel, .listed, .data, .pinned] true (true, "c34840ecdf9fee5f453c02bc03bd124823be46025f6145b69380127cff5b870b") true
  rb.printLines.row (fun _ h => by cases h) (by kernel_rfl) (fun _ h => by cases h) printLines_row_tie rfl ⟨rfl, rfl⟩ (by kernel_rfl) rfl
  (fun f fn hf hfn => by
    obtain rfl : f = 5 := Option.some.inj ((show Tryz.prog.funcNamed Rows.printLinesRow.func = some 5 by kernel_rfl).symm.trans hf) |>.symm
    obtain rfl : fn = Tryz.f5 := (Option.some.inj (Tryz.func5.symm.trans hfn)).symm
    exact ⟨by kernel_rfl, fun j t ht => by
      rw [Tryz.params5] at ht
      rcases j with _ | _ | _ | j
      · obtain rfl : t = 25 := by simpa using ht.symm
        exact (show Tryz.prog.wantsStandIn 25 = false by kernel_rfl)
      · obtain rfl : t = 25 := by simpa using ht.symm
        exact (show Tryz.prog.wantsStandIn 25 = false by kernel_rfl)
      · obtain rfl : t = 3 := by simpa using ht.symm
        exact (show Tryz.prog.wantsStandIn 3 = false by kernel_rfl)
      · simp at ht⟩)
  (by kernel_rfl)
#print axioms printLines_holds
end Go.Proofs.YtbkkoplgicffgaaGreatDoor
