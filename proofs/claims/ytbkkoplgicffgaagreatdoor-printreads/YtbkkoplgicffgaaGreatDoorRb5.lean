/- A part of the proof (part 5): see the last text. -/
import Derived.Test.YtbkkoplgicffgaaGreatDoorRb4
import Derived.Test.YtbkkoplgicffgaaGreatDoorRb3
set_option linter.unusedVariables false
set_option linter.unusedSimpArgs false
set_option linter.unusedSectionVars false
namespace Rb
open Go
section
variable {Φ : Calls'} {kw : List UInt8 → Bool} {val : List UInt8 → Int}
theorem kids_loop (hT : Cl Φ S.tab_Lex) {H0 : AH} {Q : Post} {id i1 i4 : Nat} {d kind o : Int} {pl : GPlace} {n : Nat} (hex : ExpOK Φ kw val n) (hid : id < H0.n) (h1 : H0.n ≤ i1) (h4 : H0.n ≤ i4) (hne : i1 ≠ i4) {tot : Nat} (htot : tot ≤ 2) :
  ∀ (k : Nat) (H : AH) (s : PSt) (L : AV) (done : List GExpr), done.length + k = tot → KeepP id H0 H → PS H id s → Wf s → Few n s →
  At H i1 (.row z8) → At H i4 (.row ([.int .i64 kind, .int .u64 0, .str [], .int .i64 0, .int .i64 o] ++ pl.cells ++ [L])) → OwnT H0.n H 8 L done.length (done.flatMap GExpr.cells) →
  (∀ H', KeepP id H0 H' → PS H' id (kidsM (fun d s => exprM kw val n d s) d k s).2 → Q (.agg (GExpr.cells ⟨kind, 0, [], 0, o, pl, done ++ (kidsM (fun d s => exprM kw val n d s) d k s).1⟩)) H') →
  LoopP (S.f113_l2 Φ (.ptr id 0) (.int .i64 tot) (.int .i64 d) (.ptr i1 0) (.ptr i4 0) fun v H' => Q v.weak H') ([.int .i64 done.length], H) := by
 have hld : ∀ {H : AH} {L : AV}, At H i4 (.row ([.int .i64 kind, .int .u64 0, .str [], .int .i64 0, .int .i64 o] ++ pl.cells ++ [L])) → aload H 1 false (.ptr i4 7) = some L := fun h => by
  rw [h.load, GPlace.cells_eq]; rfl
 intro k
 induction k with
 | zero =>
  intro H s L done hk kk p w f a1 a4 ow hQ
  refine LoopP.step ?_
  simp only [S.f113_l2, sl_zero, abin_lss, Do_of, Gd_true]
  rw [if_neg (by simp only [decide_eq_true_eq]; omega)]
  simp only [JoinP_def, S.f113_k1]
  have hsc : L.scalar = true := by obtain ⟨tk, rfl, _, _⟩ := ow; rfl
  rw [a4.load, takeCells_whole (by simp [GPlace.len])]
  simp only [Do_of]
  rw [a1.store, if_pos ⟨rfl, by simp [AV.cells, GPlace.len], by simp only [AV.cells, List.all_append, List.all_cons, GPlace.scalar, hsc]; rfl, by decide⟩]
  simp only [Do_of, AV.cells]
  rw [setCells_all (by simp [GPlace.len, z8]), (a1.set _).load]
  simp only [List.take_zero, List.nil_append]
  rw [takeCells_whole (by simp [GPlace.len])]
  simp only [Do_of]
  have hwk : L.weak = lstA GExpr.cells done := by
   have hs : AV.weaks (done.flatMap GExpr.cells) = done.flatMap GExpr.cells := by rw [← GExpr.all_eq]; exact GExpr.weaksA done
   rw [ow.weak hs]; rfl
  have := hQ (H.set i1 (.row ([.int .i64 kind, .int .u64 0, .str [], .int .i64 0, .int .i64 o] ++ pl.cells ++ [L]))) (kk.setL h1 _) (p.setL (by omega) _)
  simp only [kidsM, List.append_nil] at this
  rw [GExpr.cells_eq] at this
  simp only [AV.weak, weaks_app, AV.weaks, GPlace.weaks, hwk]
  simpa using this
 | succ k ih =>
  intro H s L done hk kk p w f a1 a4 ow hQ
  refine LoopP.step ?_
  simp only [S.f113_l2, sl_zero, abin_lss, Do_of, Gd_true]
  rw [if_pos (by simp only [decide_eq_true_eq]; omega)]
  simp only [afaddr, Do_of, Nat.zero_add]
  rw [hld a4]
  simp only [Do_of, abin_add]
  have se := Sub.expr kw val n (x64 (d + 1)) s
  refine hex _ _ _ _ _ p w f fun H2 k2 p2 => ?_
  have c1 := k2.2 _ _ (by omega) a1
  have c4 := k2.2 _ _ (by omega) a4
  have ow2 := ow.keep hid k2
  have em : kidsM (fun d s => exprM kw val n d s) d (k + 1) s = ((exprM kw val n (x64 (d + 1)) s).1 :: (kidsM (fun d s => exprM kw val n d s) d k (exprM kw val n (x64 (d + 1)) s).2).1, (kidsM (fun d s => exprM kw val n d s) d k (exprM kw val n (x64 (d + 1)) s).2).2) := rfl
  rw [em] at hQ
  generalize exprM kw val n (x64 (d + 1)) s = e at p2 hQ se
  refine ⟨hld c4, ?_⟩
  rw [agg8_slice]
  simp only [DoH_some]
  refine ow2.app (Nat.le_trans kk.1 k2.1) (m := 1) (news := e.1.cells) (by simp [acells, GExpr.len]) (by rw [GExpr.len]) (GExpr.scalar _) (by decide) (by omega) (by omega) fun x' H3 ow3 l3 => ?_
  have d1 := l3.row c1
  have d4 := l3.row c4
  have hsx : x'.scalar = true := by obtain ⟨tk, rfl, _, _⟩ := ow3; rfl
  have hcx : x'.cells = [x'] := by obtain ⟨tk, rfl, _, _⟩ := ow3; rfl
  have hkx : x'.known = true := by obtain ⟨tk, rfl, _, _⟩ := ow3; rfl
  rw [d4.store, if_pos ⟨hkx, by rw [hcx]; rfl, by rw [hcx]; simp [hsx], by simp [GPlace.len]⟩, hcx]
  simp only [Do_of]
  have er : setCells ([.int .i64 kind, .int .u64 0, .str [], .int .i64 0, .int .i64 o] ++ pl.cells ++ [L]) 7 [x'] = [.int .i64 kind, .int .u64 0, .str [], .int .i64 0, .int .i64 o] ++ pl.cells ++ [x'] := by
   rw [GPlace.cells_eq]; rfl
  rw [er, wrap_i64 (by omega) (by omega)]
  have hq' := ih (H3.set i4 (.row ([.int .i64 kind, .int .u64 0, .str [], .int .i64 0, .int .i64 o] ++ pl.cells ++ [x']))) e.2 x' (done ++ [e.1]) (by rw [List.length_append, List.length_singleton]; omega) (((kk.trans k2).left l3).setL h4 _) ((p2.left l3).setL (by omega) _) (se.1 w) (se.few f) (d1.set_ne hne _) (d4.set _) ?_ fun H' k' p' => ?_
  · rw [List.length_append, List.length_singleton] at hq'
    exact hq'
  · have : OwnT H0.n H3 8 x' (done ++ [e.1]).length ((done ++ [e.1]).flatMap GExpr.cells) := by
      rw [List.length_append, List.length_singleton, List.flatMap_append]
      simpa using ow3
    exact this.frame fun t a b ht => ht.set_ne (fun e => by subst e; have := ht.2.symm.trans d4.2; cases this) _
  · have := hQ H' k' p'
    rw [List.append_assoc]
    exact this
theorem p_access (hT : Cl Φ S.tab_Lex) (hW : Wk Φ) {n : Nat} (hex : ExpOK Φ kw val n) (hpl : PlaceOK Φ kw val n) {H : AH} {Q : Post} {id : Nat} {s : PSt} {kind d : Int} {m : Nat} (hm : m ≤ 2) (p : PS H id s) (w : Wf s) (f : Few n s)
  (hQ : ∀ H', KeepP id H H' → PS H' id (accM kw (fun d s => exprM kw val n d s) (fun d s => partsM kw val n d s) kind m d s).2 → Q (.agg (accM kw (fun d s => exprM kw val n d s) (fun d s => partsM kw val n d s) kind m d s).1.cells) H') : Φ K.f113 [.ptr id 0, .int .i64 kind, .int .i64 m, .int .i64 d] H Q := by
 refine hW _ _ _ _ (S.cl_f113 hT ?_)
 unfold S.f113
 have hid := lt_of_ps p
 have ez : ([.int .i64 0, .int .u64 0, .str [], .int .i64 0, .int .i64 0, .str [], .lst .nil 0 [], .lst .nil 0 []] : List AV) = z8 := rfl
 rw [ez]
 simp only [abox, if_true, DoH_some]
 rw [show abuild z8 [(0, 1, .int .i64 kind)] = some (.agg [.int .i64 kind, .int .u64 0, .str [], .int .i64 0, .int .i64 0, .str [], .lst .nil 0 [], .lst .nil 0 []]) from rfl]
 simp only [Do_of]
 have a1 : At (H.push (.row z8)) H.n (.row z8) := At.new H _
 have hn1 : (H.push (.row z8)).n = H.n + 1 := rfl
 have kk := KeepP.push id H (.row z8)
 have p1 := p.pushL (.row z8)
 generalize H.push (.row z8) = H1 at a1 hn1 kk p1
 rw [store_new H1 z8 _ 8 rfl rfl rfl]
 simp only [Do_of]
 have a4 : At (H1.push (.row [.int .i64 kind, .int .u64 0, .str [], .int .i64 0, .int .i64 0, .str [], .lst .nil 0 [], .lst .nil 0 []])) H1.n (.row [.int .i64 kind, .int .u64 0, .str [], .int .i64 0, .int .i64 0, .str [], .lst .nil 0 [], .lst .nil 0 []]) := At.new H1 _
 have b1 := a1.push (.row [.int .i64 kind, .int .u64 0, .str [], .int .i64 0, .int .i64 0, .str [], .lst .nil 0 [], .lst .nil 0 []])
 have k6 := kk.pushL (.row [.int .i64 kind, .int .u64 0, .str [], .int .i64 0, .int .i64 0, .str [], .lst .nil 0 [], .lst .nil 0 []])
 have p6 := p1.pushL (.row [.int .i64 kind, .int .u64 0, .str [], .int .i64 0, .int .i64 0, .str [], .lst .nil 0 [], .lst .nil 0 []])
 generalize H1.push (.row [.int .i64 kind, .int .u64 0, .str [], .int .i64 0, .int .i64 0, .str [], .lst .nil 0 [], .lst .nil 0 []]) = H6 at a4 b1 k6 p6
 have k3 : ∀ (o : Int × PSt) (H8 : AH), o = (if kind = 4 then (0, s) else orderM s) → Sub s o.2 → KeepP id H H8 → PS H8 id o.2 → At H8 H.n (.row z8) → At H8 H1.n (.row [.int .i64 kind, .int .u64 0, .str [], .int .i64 0, .int .i64 o.1, .str [], .lst .nil 0 [], .lst .nil 0 []]) →
   JoinP (S.f113_k3 Φ (.ptr id 0) (.int .i64 m) (.int .i64 d) (.ptr H.n 0) (.ptr H1.n 0) fun v H' => Q v.weak H') [] H8 := by
  intro o H8 eo so k8 p8 c1 c4
  simp only [JoinP_def, S.f113_k3]
  have sp := Sub.place kw (Sub.parts kw val n) d o.2
  refine hpl _ _ _ _ _ p8 (so.1 w) (so.few f) fun H15 k15 p15 => ?_
  have em : accM kw (fun d s => exprM kw val n d s) (fun d s => partsM kw val n d s) kind m d s = (⟨kind, 0, [], 0, o.1, (placeM' kw (partsM kw val n) d o.2).1, (kidsM (fun d s => exprM kw val n d s) d m (placeM' kw (partsM kw val n) d o.2).2).1⟩, (kidsM (fun d s => exprM kw val n d s) d m (placeM' kw (partsM kw val n) d o.2).2).2) := by
   unfold accM
   dsimp only
   rw [← eo]
  rw [em] at hQ
  generalize placeM' kw (partsM kw val n) d o.2 = pl at p15 hQ sp
  have d1 := k15.2 _ _ (by omega) c1
  have d4 := k15.2 _ _ (by omega) c4
  simp only [afaddr, Do_of, Nat.zero_add]
  rw [d4.store, if_pos ⟨rfl, GPlace.len _, GPlace.scalar _, by simp⟩]
  simp only [Do_of, AV.cells]
  have er : setCells [.int .i64 kind, .int .u64 0, .str [], .int .i64 0, .int .i64 o.1, .str [], .lst .nil 0 [], .lst .nil 0 []] 5 pl.1.cells = [.int .i64 kind, .int .u64 0, .str [], .int .i64 0, .int .i64 o.1] ++ pl.1.cells ++ [.lst .nil 0 []] := by
   rw [GPlace.cells_eq]; rfl
  rw [er]
  exact kids_loop hT (pl := pl.1) hex hid (Nat.le_refl _) (by omega) (by omega) hm m _ pl.2 (.lst .nil 0 []) [] (by simp) ((k8.trans k15).setL (by omega) _) (p15.setL (by omega) _) (sp.1 (so.1 w)) (sp.few (so.few f)) (d1.set_ne (by omega) _) (d4.set _) (OwnT.nil _ _ _) hQ
 simp only [abin_neq, Do_of, Gd_true]
 refine ite_both (fun hx => ?_) (fun hx => ?_)
 · have hk : kind ≠ 4 := by simpa using hx
   refine p_order hT p6 fun H11 k11 p11 => ?_
   have c1 := k11.2 _ _ (by omega) b1
   have c4 := k11.2 _ _ (by omega) a4
   simp only [afaddr, Do_of, Nat.zero_add]
   rw [c4.store, if_pos ⟨rfl, rfl, rfl, by simp⟩]
   simp only [Do_of, AV.cells]
   exact k3 (orderM s) _ (by rw [if_neg hk]) (Sub.order s) ((k6.trans k11).setL (by omega) _) (p11.setL (by omega) _) (c1.set_ne (by omega) _) (c4.set _)
 · have hk : kind = 4 := by simpa using hx
   exact k3 (0, s) _ (by rw [if_pos hk]) (Sub.rfl s) k6 p6 b1 a4
end
end Rb

namespace Rb
open Go
section
variable {Φ : Calls'} {kw : List UInt8 → Bool} {val : List UInt8 → Int}
theorem p_expr (hT : Cl Φ S.tab_Lex) (hW : Wk Φ) (hkw : ∀ x, Val Φ K.f47 [.str x] (.bool (kw x))) (hv : NumV Φ val) : ∀ n, ExpOK Φ kw val n := by
 intro n
 induction n using Nat.strongRecOn with
 | ind n ih =>
 intro H Q id s d p w f hQ
 refine hW _ _ _ _ (S.cl_f88 hT ?_)
 unfold S.f88
 have hid := lt_of_ps p
 have ez : ([.int .i64 0, .int .u64 0, .str [], .int .i64 0, .int .i64 0, .str [], .lst .nil 0 [], .lst .nil 0 []] : List AV) = z8 := rfl
 rw [ez]
 simp only [abox, if_true, DoH_some]
 have p2 : PS (H.push (.row z8)) id s := p.pushL _
 have a1 : At (H.push (.row z8)) H.n (.row z8) := At.new H _
 have kk : KeepP id H (H.push (.row z8)) := KeepP.push id H _
 have ret : ∀ (ds : List AV) (t : GExpr) (s' : PSt) (H' : AH), KeepP id H H' → PS H' id s' → At H' H.n (.row z8) → AV.weaks ds = t.cells → ds.all AV.scalar = true → (∀ H', KeepP id H H' → PS H' id s' → Q (.agg t.cells) H') →
   Do (astore H' 8 (.ptr H.n 0) (.agg ds)) fun H'' => Do (aload H'' 8 true (.ptr H.n 0)) fun v => Q v.weak H'' := by
  intro ds t s' H' k' p' a' hds hsc hq
  have hl : ds.length = 8 := by rw [← weaks_len, hds, GExpr.len]
  rw [a'.store, if_pos ⟨rfl, hl, hsc, by decide⟩]
  simp only [Do_of, AV.cells]
  rw [setCells_all (by rw [hl]; rfl), (a'.set _).load]
  simp only [List.take_zero, List.nil_append]
  rw [takeCells_whole hl]
  simp only [Do_of, AV.weak, hds]
  exact hq _ (k'.setL (Nat.le_refl _) _) (p'.setL (by omega) _)
 have bz : abuild z8 [] = some (.agg z8) := rfl
 refine p_deep hT p2 fun H4 k4 p4 => ?_
 have b1 := k4.2 _ _ (by omega) a1
 have kb := kk.trans k4
 have sd := Sub.deep s d
 simp only [aun_not, Do_of, Gd_true, bz]
 have bad : ∀ s' : PSt, (exprM kw val n d s) = (exZ, s') → PS H4 id s' → Do (astore H4 8 (.ptr H.n 0) (.agg z8)) fun H7 => Do (aload H7 8 true (.ptr H.n 0)) fun x8 => Q x8.weak H7 := by
  intro s' e ps
  rw [e] at hQ
  exact ret z8 exZ s' H4 kb ps b1 rfl rfl hQ
 cases n with
 | zero =>
  have hb := f.zero w
  have e : s.deep d = s := by
   unfold PSt.deep
   split
   · unfold PSt.fail; rw [if_neg hb]
   · rfl
  rw [e] at p4 ⊢
  rw [if_pos (by simpa using hb)]
  exact bad s (by unfold exprM; rfl) p4
 | succ n =>
 have f1 := sd.few f
 have w1 := sd.1 w
 have hex := ih n (Nat.lt_succ_self n)
 have hpl : PlaceOK Φ kw val n := p_place hT hW hkw fun m hm => ih m (by omega)
 conv at hQ => intro H' _; unfold exprM
 dsimp only at hQ
 generalize es : s.deep d = s1 at p4 sd f1 w1 hQ
 refine ite_both (fun hx => ?_) (fun hx => ?_)
 · have hb : s1.fk ≠ 0 := by simpa using hx
   rw [if_pos hb] at hQ
   exact ret z8 exZ s1 H4 kb p4 b1 rfl rfl hQ
 have h0 : s1.fk = 0 := by simpa using hx
 rw [if_neg (by simpa using h0)] at hQ
 refine p_peek hT p4 ?_
 refine p_digits hT ?_
 refine ite_both (fun hd => ?_) (fun hd => ?_)
 · rw [if_pos hd] at hQ
   refine p_num hT hv p4 w1 fun H16 k16 p16 => ?_
   rw [show abuild z8 [(0, 1, .int .i64 1), (1, 1, .int .u64 (s1.num val 18446744073709551615).1)] = some (.agg [.int .i64 1, .int .u64 (s1.num val 18446744073709551615).1, .str [], .int .i64 0, .int .i64 0, .str [], .lst .nil 0 [], .lst .nil 0 []]) from rfl]
   simp only [Do_of]
   exact ret _ ⟨1, (s1.num val 18446744073709551615).1, [], 0, 0, plZ, []⟩ _ H16 (kb.trans k16) p16 (k16.2 _ _ (by omega) b1) rfl rfl hQ
 rw [if_neg hd] at hQ
 have k2 : ∀ b : Bool, (b = true ↔ (lettersM s1.hd.1 = true ∧ kw s1.hd.1 = false)) → JoinP (S.f88_k2 Φ (.ptr id 0) (.int .i64 d) (.ptr H.n 0) fun v H' => Q v.weak H') [.bool b] H4 := by
  intro b hb
  simp only [JoinP_def, S.f88_k2, sl_zero, Gd_true, ez]
  refine ite_both (fun hl => ?_) (fun hl => ?_)
  · rw [if_pos (hb.1 hl)] at hQ
    refine p_next hT p4 fun H28 k28 p28 => ?_
    rw [show abuild z8 [(0, 1, .int .i64 2), (2, 1, .str s1.hd.1)] = some (.agg [.int .i64 2, .int .u64 0, .str s1.hd.1, .int .i64 0, .int .i64 0, .str [], .lst .nil 0 [], .lst .nil 0 []]) from rfl]
    simp only [Do_of]
    exact ret _ ⟨2, 0, s1.hd.1, 0, 0, plZ, []⟩ _ H28 (kb.trans k28) p28 (k28.2 _ _ (by omega) b1) rfl rfl hQ
  rw [if_neg (fun h => hl (hb.2 h))] at hQ
  have yes : ∀ {w' : List UInt8}, s1.isW w' = true → s1.isA w' = s1.adv := fun h => by unfold PSt.isA; rw [if_pos h]
  have no : ∀ {w' : List UInt8}, ¬ s1.isW w' = true → s1.isA w' = s1 := fun h => by unfold PSt.isA; rw [if_neg h]
  refine p_is hT p4 fun H5 k5 p5 => ?_
  have kb5 := kb.trans k5
  have b5 := k5.2 _ _ (by omega) b1
  refine ite_both (fun hy => ?_) (fun hy => ?_)
  · rw [yes hy] at p5
    rw [if_pos hy] at hQ
    refine p_binary hT hW hex p5 w1.adv (f1.isW w1 hy (by decide)) fun H6 k6 p6 => ?_
    exact ret _ _ _ H6 (kb5.trans k6) p6 (k6.2 _ _ (by omega) b5) (GExpr.weaks _) (GExpr.scalar _) hQ
  rw [no hy] at p5
  rw [if_neg hy] at hQ
  refine p_is hT p5 fun H7 k7 p7 => ?_
  have kb7 := kb5.trans k7
  have b7 := k7.2 _ _ (by omega) b5
  refine ite_both (fun hy => ?_) (fun hy => ?_)
  · rw [yes hy] at p7
    rw [if_pos hy] at hQ
    refine p_access hT hW hex hpl (m := 0) (by decide) p7 w1.adv (f1.isW w1 hy (by decide)) fun H6 k6 p6 => ?_
    exact ret _ _ _ H6 (kb7.trans k6) p6 (k6.2 _ _ (by omega) b7) (GExpr.weaks _) (GExpr.scalar _) hQ
  rw [no hy] at p7
  rw [if_neg hy] at hQ
  refine p_is hT p7 fun H8 k8 p8 => ?_
  have kb8 := kb7.trans k8
  have b8 := k8.2 _ _ (by omega) b7
  refine ite_both (fun hy => ?_) (fun hy => ?_)
  · rw [yes hy] at p8
    rw [if_pos hy] at hQ
    refine p_access hT hW hex hpl (m := 0) (by decide) p8 w1.adv (f1.isW w1 hy (by decide)) fun H6 k6 p6 => ?_
    exact ret _ _ _ H6 (kb8.trans k6) p6 (k6.2 _ _ (by omega) b8) (GExpr.weaks _) (GExpr.scalar _) hQ
  rw [no hy] at p8
  rw [if_neg hy] at hQ
  refine p_is hT p8 fun H9 k9 p9 => ?_
  have kb9 := kb8.trans k9
  have b9 := k9.2 _ _ (by omega) b8
  refine ite_both (fun hy => ?_) (fun hy => ?_)
  · rw [yes hy] at p9
    rw [if_pos hy] at hQ
    refine p_access hT hW hex hpl (m := 1) (by decide) p9 w1.adv (f1.isW w1 hy (by decide)) fun H6 k6 p6 => ?_
    exact ret _ _ _ H6 (kb9.trans k6) p6 (k6.2 _ _ (by omega) b9) (GExpr.weaks _) (GExpr.scalar _) hQ
  rw [no hy] at p9
  rw [if_neg hy] at hQ
  refine p_is hT p9 fun H10 k10 p10 => ?_
  have kb10 := kb9.trans k10
  have b10 := k10.2 _ _ (by omega) b9
  refine ite_both (fun hy => ?_) (fun hy => ?_)
  · rw [yes hy] at p10
    rw [if_pos hy] at hQ
    refine p_access hT hW hex hpl (m := 1) (by decide) p10 w1.adv (f1.isW w1 hy (by decide)) fun H6 k6 p6 => ?_
    exact ret _ _ _ H6 (kb10.trans k6) p6 (k6.2 _ _ (by omega) b10) (GExpr.weaks _) (GExpr.scalar _) hQ
  rw [no hy] at p10
  rw [if_neg hy] at hQ
  refine p_is hT p10 fun H11 k11 p11 => ?_
  have kb11 := kb10.trans k11
  have b11 := k11.2 _ _ (by omega) b10
  refine ite_both (fun hy => ?_) (fun hy => ?_)
  · rw [yes hy] at p11
    rw [if_pos hy] at hQ
    refine p_access hT hW hex hpl (m := 2) (by decide) p11 w1.adv (f1.isW w1 hy (by decide)) fun H6 k6 p6 => ?_
    exact ret _ _ _ H6 (kb11.trans k6) p6 (k6.2 _ _ (by omega) b11) (GExpr.weaks _) (GExpr.scalar _) hQ
  rw [no hy] at p11
  rw [if_neg hy] at hQ
  simp only [JoinP_def, S.f88_k1, ez, bz]
  refine p_fail hT p11 fun H6 k6 p6 => ?_
  simp only [Do_of]
  exact ret z8 exZ (s1.fail 4) H6 (kb11.trans k6) p6 (k6.2 _ _ (by omega) b11) rfl rfl hQ
 refine p_letters hT ?_
 simp only [Gd3_true]
 refine ite_both (fun hl => ?_) (fun hl => ?_)
 · refine hkw _ _ _ ?_
   simp only [aun_not, Do_of]
   exact k2 _ (by simp [hl])
 · exact k2 _ (by simp [hl])
end
end Rb

namespace Rb
open Go
section
variable (kw : List UInt8 → Bool) (val : List UInt8 → Int)
theorem Sub.block {ss : Int → PSt → List GStmt × PSt} (h : ∀ d s, Sub s (ss d s).2) (d : Int) (s : PSt) : Sub s (blockF ss d s).2 := by
 unfold blockF
 dsimp only
 split
 · exact Sub.deep _ _
 · exact ((Sub.deep _ _).trans (Sub.want _ _)).trans (h _ _)
theorem Sub.value {ex : Int → PSt → GExpr × PSt} (h : ∀ d s, Sub s (ex d s).2) (d : Int) (s : PSt) : Sub s (valueF ex d s).2 := (Sub.want _ _).trans (h _ _)
theorem Sub.control {ex : Int → PSt → GExpr × PSt} {ss : Int → PSt → List GStmt × PSt} (h : ∀ d s, Sub s (ex d s).2) (k : ∀ d s, Sub s (ss d s).2) (x : GStmt) (d : Int) (s : PSt) : Sub s (controlF ex ss x d s).2 := by
 unfold controlF
 dsimp only
 repeat' split
 · exact ((((Sub.adv _).trans (h _ _)).trans (Sub.block k _ _)).trans (Sub.adv _)).trans (Sub.block k _ _)
 · exact ((Sub.adv _).trans (h _ _)).trans (Sub.block k _ _)
 · exact ((Sub.adv _).trans (h _ _)).trans (Sub.block k _ _)
 · exact Sub.fail _ _
theorem Sub.stmt {ex : Int → PSt → GExpr × PSt} {pa : Int → PSt → List GPart × PSt} {ss : Int → PSt → List GStmt × PSt} (h : ∀ d s, Sub s (ex d s).2) (g : ∀ d s, Sub s (pa d s).2) (k : ∀ d s, Sub s (ss d s).2) (d : Int) (s : PSt) : Sub s (stmtF kw ex pa ss d s).2 := by
 unfold stmtF
 dsimp only
 repeat' split
 · exact (((Sub.adv _).trans (Sub.nameS kw _)).trans (Sub.value h _ _)).trans (Sub.want _ _)
 · exact (((Sub.adv _).trans (Sub.nameS kw _)).trans (Sub.value h _ _)).trans (Sub.want _ _)
 · exact (((Sub.adv _).trans (Sub.place kw g _ _)).trans (Sub.value h _ _)).trans (Sub.want _ _)
 · exact ((((Sub.adv _).trans (Sub.order _)).trans (Sub.place kw g _ _)).trans (Sub.value h _ _)).trans (Sub.want _ _)
 · exact (((((Sub.adv _).trans (Sub.order _)).trans (Sub.place kw g _ _)).trans (Sub.nameS kw _)).trans (Sub.nameS kw _)).trans (Sub.want _ _)
 · exact ((((((Sub.adv _).trans (Sub.order _)).trans (Sub.place kw g _ _)).trans (Sub.value h _ _)).trans (Sub.want _ _)).trans (h _ _)).trans (Sub.want _ _)
 · exact ((Sub.adv _).trans (Sub.order _)).trans (Sub.want _ _)
 · exact ((Sub.adv _).trans (h _ _)).trans (Sub.want _ _)
 · exact Sub.control h k _ _ _
theorem Sub.stmts : ∀ (n : Nat) (d : Int) (s : PSt), Sub s (stmtsM kw val n d s).2
 | 0, d, s => by unfold stmtsM; exact Sub.rfl s
 | n + 1, d, s => by
  unfold stmtsM
  split
  · exact Sub.rfl s
  · split
    · exact Sub.adv s
    · exact (Sub.stmt kw (Sub.expr kw val n) (Sub.parts kw val n) (Sub.stmts n) d s).trans (Sub.stmts n _ _)
theorem Sub.vars : ∀ (n : Nat) (s : PSt), Sub s (varsM kw val n s).2
 | 0, s => by unfold varsM; exact Sub.rfl s
 | n + 1, s => by
  unfold varsM
  split
  · exact ((((Sub.adv _).trans (Sub.nameS kw _)).trans (Sub.typ kw val n _ _)).trans (Sub.want _ _)).trans (Sub.vars n _)
  · exact Sub.rfl s
theorem Sub.thrs : ∀ (n : Nat) (s : PSt), Sub s (thrsM kw val n s).2
 | 0, s => by unfold thrsM; exact Sub.rfl s
 | n + 1, s => by
  unfold thrsM
  split
  · exact ((Sub.adv _).trans (Sub.block (Sub.stmts kw val n) _ _)).trans (Sub.thrs n _)
  · exact Sub.rfl s
end
end Rb

namespace Rb
open Go
section
variable {Φ : Calls'} {kw : List UInt8 → Bool} {val : List UInt8 → Int}
theorem p_value (hT : Cl Φ S.tab_Lex) {n : Nat} (hex : ExpOK Φ kw val n) {H : AH} {Q : Post} {id : Nat} {s : PSt} {d : Int} (p : PS H id s) (w : Wf s) (f : Few n s)
  (hQ : ∀ H', KeepP id H H' → PS H' id (valueF (exprM kw val n) d s).2 → Q (.lst .full 1 (valueF (exprM kw val n) d s).1.cells) H') : Φ K.f85 [.ptr id 0, .int .i64 d] H Q := by
 refine S.cl_f85 hT ?_
 unfold S.f85
 refine p_want hT p fun H2 k2 p2 => ?_
 simp only [abin_add, Do_of]
 have sw := Sub.want s [61]
 refine hex _ _ _ _ _ p2 (sw.1 w) (sw.few f) fun H5 k5 p5 => ?_
 rw [agg8_slice]
 simp only [DoH_some]
 exact hQ H5 (k2.trans k5) p5
end
end Rb

namespace Rb
open Go
def z10 (l : Int) : List AV := [.int .i64 0, .int .i64 l, .str [], .str [], .int .i64 0, .str [], .lst .nil 0 [], .lst .nil 0 [], .lst .nil 0 [], .lst .nil 0 []]
structure SF (H0 : AH) (id i1 i10 : Nat) (H : AH) (s : PSt) (r : List AV) : Prop where
 hid : id < H0.n
 h1 : H0.n ≤ i1
 h10 : H0.n ≤ i10
 ne : i1 ≠ i10
 len : r.length = 10
 kk : KeepP id H0 H
 ps : PS H id s
 a1 : At H i1 (.row (z10 0))
 a10 : At H i10 (.row r)
section
variable {H0 H : AH} {id i1 i10 : Nat} {s : PSt} {r : List AV}
theorem SF.call (h : SF H0 id i1 i10 H s r) {H' : AH} {s' : PSt} (k : KeepP id H H') (p : PS H' id s') : SF H0 id i1 i10 H' s' r :=
 ⟨h.hid, h.h1, h.h10, h.ne, h.len, h.kk.trans k, p, k.2 _ _ (by have := h.hid; have := h.h1; omega) h.a1, k.2 _ _ (by have := h.hid; have := h.h10; omega) h.a10⟩
theorem setCells_len : ∀ (ys xs : List AV) (o : Nat), (setCells xs o ys).length = xs.length
 | [], xs, o => rfl
 | y :: ys, xs, o => by rw [setCells, setCells_len ys, List.length_set]
theorem SF.put (h : SF H0 id i1 i10 H s r) {r' : List AV} (hl : r'.length = 10) : SF H0 id i1 i10 (H.set i10 (.row r')) s r' :=
 ⟨h.hid, h.h1, h.h10, h.ne, hl, h.kk.setL h.h10 _, h.ps.setL (by have := h.hid; have := h.h10; omega) _, h.a1.set_ne h.ne _, h.a10.set _⟩
theorem SF.store (h : SF H0 id i1 i10 H s r) {n o : Nat} {v : AV} (hk : v.known = true) (hl : v.cells.length = n) (hs : v.cells.all AV.scalar = true) (ho : o + n ≤ 10) {K : AH → Prop} (hK : ∀ H', SF H0 id i1 i10 H' s (setCells r o v.cells) → K H') : Do (astore H n (.ptr i10 o) v) K := by
 rw [h.a10.st hk hl hs (by rw [h.len]; exact ho)]
 exact ⟨_, rfl, hK _ (h.put (by rw [setCells_len, h.len]))⟩
theorem SF.ret1 (h : SF H0 id i1 i10 H s r) {x : GStmt} {ds : List AV} {Q : Post} (hr : AV.weaks ds = x.cells) (hs : ds.all AV.scalar = true) (hq : ∀ H', KeepP id H0 H' → PS H' id s → Q (.agg x.cells) H') :
  Do (astore H 10 (.ptr i1 0) (.agg ds)) fun H30 => Do (aload H30 10 true (.ptr i1 0)) fun x31 => Q x31.weak H30 := by
 have hl : ds.length = 10 := by rw [← weaks_len, hr, GStmt.len]
 rw [h.a1.st (n := 10) (o := 0) (v := .agg ds) rfl hl hs (by decide)]
 simp only [Do_of, AV.cells]
 rw [setCells_all (by rw [hl]; rfl), (h.a1.set _).load]
 simp only [List.take_zero, List.nil_append]
 rw [takeCells_whole hl]
 simp only [Do_of, AV.weak, hr]
 exact hq _ (h.kk.setL h.h1 _) (h.ps.setL (by have := h.hid; have := h.h1; omega) _)
theorem SF.ret (h : SF H0 id i1 i10 H s r) {x : GStmt} {Q : Post} (hr : AV.weaks r = x.cells) (hs : r.all AV.scalar = true) (hq : ∀ H', KeepP id H0 H' → PS H' id s → Q (.agg x.cells) H') :
  Do (aload H 10 true (.ptr i10 0)) fun x29 => Do (astore H 10 (.ptr i1 0) x29) fun H30 => Do (aload H30 10 true (.ptr i1 0)) fun x31 => Q x31.weak H30 := by
 rw [h.a10.load, takeCells_whole h.len]
 simp only [Do_of]
 exact h.ret1 hr hs hq
end
def BlockOK (Φ : Calls') (kw : List UInt8 → Bool) (val : List UInt8 → Int) (n : Nat) : Prop :=
 ∀ (H : AH) (Q : Post) (id : Nat) (s : PSt) (d : Int), PS H id s → Wf s → Few n s → (∀ H', KeepP id H H' → PS H' id (blockF (stmtsM kw val n) d s).2 → Q (lstA GStmt.cells (blockF (stmtsM kw val n) d s).1) H') → Φ K.f23 [.ptr id 0, .int .i64 d] H Q
theorem isA_yes {s : PSt} {w : List UInt8} (h : s.isW w = true) : s.isA w = s.adv := by unfold PSt.isA; rw [if_pos h]
theorem isA_no {s : PSt} {w : List UInt8} (h : ¬ s.isW w = true) : s.isA w = s := by unfold PSt.isA; rw [if_neg h]
section
variable {Φ : Calls'} {kw : List UInt8 → Bool} {val : List UInt8 → Int}
theorem p_control (hT : Cl Φ S.tab_Lex) (hW : Wk Φ) {n : Nat} (hex : ExpOK Φ kw val n) (hbl : BlockOK Φ kw val n) {H : AH} {Q : Post} {id : Nat} {s : PSt} {d line : Int} (p : PS H id s) (w : Wf s) (f : Few (n + 1) s)
  (hQ : ∀ H', KeepP id H H' → PS H' id (controlF (exprM kw val n) (stmtsM kw val n) (stZ line) d s).2 → Q (.agg (controlF (exprM kw val n) (stmtsM kw val n) (stZ line) d s).1.cells) H') : Φ K.f89 [.ptr id 0, .agg (z10 line), .int .i64 d] H Q := by
 refine hW _ _ _ _ (S.cl_f89 hT ?_)
 unfold S.f89
 have hid := lt_of_ps p
 rw [show aboxv H true 10 (.agg (z10 line)) = some (.ptr H.n 0, H.push (.row (z10 line))) from rfl]
 simp only [DoH_some, abox, if_true]
 have ez : ([.int .i64 0, .int .i64 0, .str [], .str [], .int .i64 0, .str [], .lst .nil 0 [], .lst .nil 0 [], .lst .nil 0 [], .lst .nil 0 []] : List AV) = z10 0 := rfl
 rw [ez]
 have hn1 : (H.push (.row (z10 line))).n = H.n + 1 := rfl
 have f0 : SF H id (H.n + 1) H.n ((H.push (.row (z10 line))).push (.row (z10 0))) s (z10 line) :=
  ⟨hid, by omega, Nat.le_refl _, by omega, rfl, (KeepP.push id H _).pushL _, (p.pushL _).pushL _, At.new _ _, (At.new H _).push _⟩
 rw [hn1]
 generalize (H.push (.row (z10 line))).push (.row (z10 0)) = H4 at f0
 conv at hQ => intro H' _; unfold controlF
 dsimp only at hQ
 have k3 : ∀ (k : Int) (H6 : AH), (k = 8 ∨ k = 9) → Few n s.adv → SF H id (H.n + 1) H.n H6 s.adv (setCells (z10 line) 0 [.int .i64 k]) →
   (∀ H', KeepP id H H' → PS H' id (if k = 8 then (if (blockF (stmtsM kw val n) (x64 (d + 1)) (exprM kw val n (x64 (d + 1)) s.adv).2).2.isW [101, 108, 115, 101] = true then
       (({ stZ line with kind := 8, exprs := [(exprM kw val n (x64 (d + 1)) s.adv).1], thn := (blockF (stmtsM kw val n) (x64 (d + 1)) (exprM kw val n (x64 (d + 1)) s.adv).2).1, els := (blockF (stmtsM kw val n) (x64 (d + 1)) (blockF (stmtsM kw val n) (x64 (d + 1)) (exprM kw val n (x64 (d + 1)) s.adv).2).2.adv).1 } : GStmt), (blockF (stmtsM kw val n) (x64 (d + 1)) (blockF (stmtsM kw val n) (x64 (d + 1)) (exprM kw val n (x64 (d + 1)) s.adv).2).2.adv).2)
       else ({ stZ line with kind := 8, exprs := [(exprM kw val n (x64 (d + 1)) s.adv).1], thn := (blockF (stmtsM kw val n) (x64 (d + 1)) (exprM kw val n (x64 (d + 1)) s.adv).2).1 }, (blockF (stmtsM kw val n) (x64 (d + 1)) (exprM kw val n (x64 (d + 1)) s.adv).2).2))
     else ({ stZ line with kind := 9, exprs := [(exprM kw val n (x64 (d + 1)) s.adv).1], thn := (blockF (stmtsM kw val n) (x64 (d + 1)) (exprM kw val n (x64 (d + 1)) s.adv).2).1 }, (blockF (stmtsM kw val n) (x64 (d + 1)) (exprM kw val n (x64 (d + 1)) s.adv).2).2)).2 →
     Q (.agg (if k = 8 then (if (blockF (stmtsM kw val n) (x64 (d + 1)) (exprM kw val n (x64 (d + 1)) s.adv).2).2.isW [101, 108, 115, 101] = true then
       (({ stZ line with kind := 8, exprs := [(exprM kw val n (x64 (d + 1)) s.adv).1], thn := (blockF (stmtsM kw val n) (x64 (d + 1)) (exprM kw val n (x64 (d + 1)) s.adv).2).1, els := (blockF (stmtsM kw val n) (x64 (d + 1)) (blockF (stmtsM kw val n) (x64 (d + 1)) (exprM kw val n (x64 (d + 1)) s.adv).2).2.adv).1 } : GStmt), (blockF (stmtsM kw val n) (x64 (d + 1)) (blockF (stmtsM kw val n) (x64 (d + 1)) (exprM kw val n (x64 (d + 1)) s.adv).2).2.adv).2)
       else ({ stZ line with kind := 8, exprs := [(exprM kw val n (x64 (d + 1)) s.adv).1], thn := (blockF (stmtsM kw val n) (x64 (d + 1)) (exprM kw val n (x64 (d + 1)) s.adv).2).1 }, (blockF (stmtsM kw val n) (x64 (d + 1)) (exprM kw val n (x64 (d + 1)) s.adv).2).2))
     else ({ stZ line with kind := 9, exprs := [(exprM kw val n (x64 (d + 1)) s.adv).1], thn := (blockF (stmtsM kw val n) (x64 (d + 1)) (exprM kw val n (x64 (d + 1)) s.adv).2).1 }, (blockF (stmtsM kw val n) (x64 (d + 1)) (exprM kw val n (x64 (d + 1)) s.adv).2).2)).1.cells) H') →
   JoinP (S.f89_k3 Φ (.ptr id 0) (.int .i64 d) (.ptr H.n 0) (.ptr (H.n + 1) 0) fun v H' => Q v.weak H') [] H6 := by
  intro k H6 hk f1 h6 hq
  simp only [JoinP_def, S.f89_k3, abin_add, Do_of]
  have se := Sub.expr kw val n (x64 (d + 1)) s.adv
  refine hex _ _ _ _ _ h6.ps w.adv f1 fun H13 k13 p13 => ?_
  have h13 := h6.call k13 p13
  generalize exprM kw val n (x64 (d + 1)) s.adv = e at hq se h13
  rw [agg8_slice]
  simp only [DoH_some, afaddr, Do_of, Nat.zero_add]
  refine h13.store (n := 1) rfl rfl rfl (by decide) fun H17 h17 => ?_
  have sb := Sub.block (Sub.stmts kw val n) (x64 (d + 1)) e.2
  refine hbl _ _ _ _ _ h17.ps (se.1 w.adv) (se.few f1) fun H20 k20 p20 => ?_
  have h20 := h17.call k20 p20
  generalize blockF (stmtsM kw val n) (x64 (d + 1)) e.2 = a at hq sb h20
  refine h20.store (n := 1) rfl rfl rfl (by decide) fun H22 h22 => ?_
  have er : setCells (setCells (setCells (z10 line) 0 [AV.int .i64 k]) 7 (AV.lst .full 1 e.1.cells).cells) 8 (lstA GStmt.cells a.1).cells = [.int .i64 k, .int .i64 line, .str [], .str [], .int .i64 0, .str [], .lst .nil 0 [], .lst .full 1 e.1.cells, lstA GStmt.cells a.1, .lst .nil 0 []] := rfl
  rw [er] at h22
  have l0 : aload H22 1 false (.ptr H.n 0) = some (.int .i64 k) := by rw [h22.a10.load]; rfl
  rw [l0]
  simp only [Do_of, abin_eql, Gd3_true]
  have ws : AV.weak (lstA GStmt.cells a.1) = lstA GStmt.cells a.1 := lstA_weak GStmt.weaks _
  have k1 : ∀ (s' : PSt) (H24 : AH) (el : AV) (els : List GStmt), SF H id (H.n + 1) H.n H24 s' [.int .i64 k, .int .i64 line, .str [], .str [], .int .i64 0, .str [], .lst .nil 0 [], .lst .full 1 e.1.cells, lstA GStmt.cells a.1, el] → el.weak = lstA GStmt.cells els → el.scalar = true →
    (∀ H', KeepP id H H' → PS H' id s' → Q (.agg (GStmt.cells { stZ line with kind := k, exprs := [e.1], thn := a.1, els := els })) H') → JoinP (S.f89_k1 Φ (.ptr H.n 0) (.ptr (H.n + 1) 0) fun v H' => Q v.weak H') [] H24 := by
   intro s' H24 el els h24 hel hsc hq'
   simp only [JoinP_def, S.f89_k1]
   refine h24.ret ?_ (by simp only [List.all_cons, hsc]; rfl) hq'
   rw [GStmt.cells_eq, GPlace.cells_eq]
   simp only [AV.weaks, ws, hel]
   simp only [AV.weak, GExpr.weaks]
   simp [lstA, stZ, plZ, AV.weaks]
  have k2 : ∀ (b : Bool) (s' : PSt) (H26 : AH), (b = true ↔ (k = 8 ∧ a.2.isW [101, 108, 115, 101] = true)) → s' = (if b = true then a.2.adv else a.2) → SF H id (H.n + 1) H.n H26 s' [.int .i64 k, .int .i64 line, .str [], .str [], .int .i64 0, .str [], .lst .nil 0 [], .lst .full 1 e.1.cells, lstA GStmt.cells a.1, .lst .nil 0 []] →
    JoinP (S.f89_k2 Φ (.ptr id 0) (.int .i64 d) (.ptr H.n 0) (.ptr (H.n + 1) 0) fun v H' => Q v.weak H') [.bool b] H26 := by
   intro b s' H26 hb hs' h26
   simp only [JoinP_def, S.f89_k2, sl_zero, Gd_true]
   refine ite_both (fun hx => ?_) (fun hx => ?_)
   · obtain ⟨hk8, hel⟩ := hb.1 hx
     rw [if_pos hx] at hs'
     subst hs'
     simp only [hk8, if_true, hel] at hq
     simp only [abin_add, Do_of, afaddr, Nat.zero_add]
     refine hbl _ _ _ _ _ h26.ps ((se.trans sb).1 w.adv).adv ((se.trans sb).few f1).adv fun H34 k34 p34 => ?_
     have h34 := h26.call k34 p34
     generalize blockF (stmtsM kw val n) (x64 (d + 1)) a.2.adv = c at hq h34
     refine h34.store (n := 1) rfl rfl rfl (by decide) fun H36 h36 => ?_
     exact k1 c.2 H36 (lstA GStmt.cells c.1) c.1 h36 (lstA_weak GStmt.weaks _) rfl (by rw [hk8]; exact hq)
   · have hx' : b = false := by simpa using hx
     rw [hx'] at hs'
     simp only [Bool.false_eq_true, if_false] at hs'
     subst hs'
     refine k1 a.2 H26 (.lst .nil 0 []) [] h26 rfl rfl ?_
     rcases hk with hk | hk
     · have hel : ¬ a.2.isW [101, 108, 115, 101] = true := fun h => hx (hb.2 ⟨hk, h⟩)
       simp only [hk, if_true, hel, if_false, Bool.false_eq_true] at hq
       rw [hk]; exact hq
     · subst hk
       exact hq
  refine ite_both (fun hx => ?_) (fun hx => ?_)
  · have hk8 : k = 8 := by simpa using hx
    refine p_is hT h22.ps fun H31 k31 p31 => ?_
    refine k2 (a.2.isW [101, 108, 115, 101]) _ H31 ⟨fun h => ⟨hk8, h⟩, fun h => h.2⟩ rfl ?_
    exact h22.call k31 p31
  · have hk8 : k ≠ 8 := by simpa using hx
    exact k2 false a.2 H22 ⟨fun h => (Bool.false_ne_true h).elim, fun h => absurd h.1 hk8⟩ rfl h22
 refine p_is hT f0.ps fun H8 k8 p8 => ?_
 have h8 := f0.call k8 p8
 simp only [Gd_true]
 refine ite_both (fun hy => ?_) (fun hy => ?_)
 · rw [isA_yes hy] at h8
   rw [if_pos hy] at hQ
   simp only [afaddr, Do_of, Nat.zero_add]
   refine h8.store (n := 1) rfl rfl rfl (by decide) fun H10 h10 => ?_
   exact k3 8 H10 (.inl rfl) (f.isW w hy (by decide)) h10 hQ
 · rw [isA_no hy] at h8
   rw [if_neg hy] at hQ
   refine p_is hT h8.ps fun H41 k41 p41 => ?_
   have h41 := h8.call k41 p41
   refine ite_both (fun hz => ?_) (fun hz => ?_)
   · rw [isA_yes hz] at h41
     rw [if_pos hz] at hQ
     simp only [afaddr, Do_of, Nat.zero_add]
     refine h41.store (n := 1) rfl rfl rfl (by decide) fun H43 h43 => ?_
     exact k3 9 H43 (.inr rfl) (f.isW w hz (by decide)) h43 hQ
   · rw [isA_no hz] at h41
     rw [if_neg hz] at hQ
     refine p_fail hT h41.ps fun H45 k45 p45 => ?_
     have h45 := h41.call k45 p45
     exact h45.ret (x := stZ line) rfl rfl hQ
end
end Rb

namespace Rb
open Go
section
variable {Φ : Calls'} {kw : List UInt8 → Bool} {val : List UInt8 → Int}
def StmtOK (Φ : Calls') (kw : List UInt8 → Bool) (val : List UInt8 → Int) (n : Nat) : Prop :=
 ∀ (H : AH) (Q : Post) (id : Nat) (s : PSt) (d : Int), PS H id s → Wf s → Few (n + 1) s → (∀ H', KeepP id H H' → PS H' id (stmtF kw (exprM kw val n) (partsM kw val n) (stmtsM kw val n) d s).2 → Q (.agg (stmtF kw (exprM kw val n) (partsM kw val n) (stmtsM kw val n) d s).1.cells) H') → Φ K.f54 [.ptr id 0, .int .i64 d] H Q
theorem p_stmt (hT : Cl Φ S.tab_Lex) (hW : Wk Φ) (hkw : ∀ x, Val Φ K.f47 [.str x] (.bool (kw x))) {n : Nat} (hex : ExpOK Φ kw val n) (hpl : PlaceOK Φ kw val n) (hbl : BlockOK Φ kw val n) : StmtOK Φ kw val n := by
 intro H Q id s d p w f hQ
 refine hW _ _ _ _ (S.cl_f54 hT ?_)
 unfold S.f54
 have hid := lt_of_ps p
 have ez : ([.int .i64 0, .int .i64 0, .str [], .str [], .int .i64 0, .str [], .lst .nil 0 [], .lst .nil 0 [], .lst .nil 0 [], .lst .nil 0 []] : List AV) = z10 0 := rfl
 rw [ez]
 obtain ⟨w0, hw0, hwd, hlt⟩ := p.hdc
 have p2 : PS (H.push (.row (z10 0))) id s := p.pushL _
 obtain ⟨tk, hat, hl0⟩ := p2.l0
 simp only [abox, if_true, DoH_some, anilck, afaddr, Do_of, Nat.zero_add, hl0]
 have ha : aiaddr none 2 (tokV tk s.toks) (.int .i64 0) = some (elA tokC 2 s.toks 0) := tokV_addr hlt
 rw [ha]
 simp only [Do_of, elA, afaddr, pz_line _ hw0]
 rw [show abuild (z10 0) [(1, 1, .int .i64 w0.2)] = some (.agg (z10 w0.2)) from rfl]
 simp only [Do_of]
 have hn1 : (H.push (.row (z10 0))).n = H.n + 1 := rfl
 have k1 : KeepP id H (H.push (.row (z10 0))) := KeepP.push id H _
 have a1 : At (H.push (.row (z10 0))) H.n (.row (z10 0)) := At.new H _
 clear hl0 hat
 generalize H.push (.row (z10 0)) = H2 at p2 hn1 k1 a1
 rw [store_new H2 (z10 0) (z10 w0.2) 10 rfl rfl rfl]
 simp only [Do_of]
 rw [hn1]
 have f0 : SF H id H.n (H.n + 1) (H2.push (.row (z10 w0.2))) s (z10 w0.2) := by
  have := At.new H2 (.row (z10 w0.2))
  rw [hn1] at this
  exact ⟨hid, Nat.le_refl _, by omega, by omega, rfl, k1.pushL _, p2.pushL _, a1.push _, this⟩
 generalize H2.push (.row (z10 w0.2)) = H12 at f0
 conv at hQ => intro H' _; unfold stmtF
 dsimp only at hQ
 rw [hwd] at hQ
 clear ha hw0 hwd hlt p2 k1 a1 hn1 p
 generalize w0.2 = line at hQ f0
 have fin : ∀ {s' : PSt} {H14 : AH} {r : List AV} (x : GStmt), SF H id H.n (H.n + 1) H14 s' r → AV.weaks r = x.cells → r.all AV.scalar = true → (∀ H', KeepP id H H' → PS H' id (s'.want [59]) → Q (.agg x.cells) H') →
   JoinP (S.f54_k1 Φ (.ptr id 0) (.ptr H.n 0) (.ptr (H.n + 1) 0) fun v H' => Q v.weak H') [] H14 := by
  intro s' H14 r x h14 hr hs hq
  simp only [JoinP_def, S.f54_k1]
  refine p_want hT h14.ps fun H28 k28 p28 => ?_
  exact (h14.call k28 p28).ret hr hs hq
 refine p_is hT f0.ps fun H16 k16 p16 => ?_
 have h16 := f0.call k16 p16
 simp only [Gd_true]
 refine ite_both (fun hy => ?_) (fun hy => ?_)
 · rw [isA_yes hy] at h16
   rw [if_pos hy] at hQ
   have fa := f.isW w hy (by decide)
   refine p_name hT hkw h16.ps fun H18 k18 p18 => ?_
   have h18 := h16.call k18 p18
   have sn := Sub.nameS kw s.adv
   refine p_value hT hex h18.ps (sn.1 w.adv) (sn.few fa) fun H20 k20 p20 => ?_
   have h20 := h18.call k20 p20
   generalize valueF (exprM kw val n) d (s.adv.nameS kw) = v at hQ h20
   try simp only [afaddr, Do_of, Nat.zero_add]
   refine h20.store (n := 1) rfl rfl rfl (by decide) fun H22 h22 => ?_
   refine h22.store (n := 1) rfl rfl rfl (by decide) fun H24 h24 => ?_
   refine h24.store (n := 1) rfl rfl rfl (by decide) fun H26 h26 => ?_
   refine fin (r := [.int .i64 1, .int .i64 line, .str (s.adv.nameT kw), .str [], .int .i64 0, .str [], .lst .nil 0 [], .lst .full 1 v.1.cells, .lst .nil 0 [], .lst .nil 0 []]) _ h26 ?_ rfl hQ
   rw [GStmt.cells_eq, GPlace.cells_eq]
   simp only [AV.weaks, AV.weak, GExpr.weaks]
   simp [lstA, stZ, plZ, AV.weaks]
 rw [isA_no hy] at h16
 rw [if_neg hy] at hQ
 clear hy
 refine p_is hT h16.ps fun H17 k17 p17 => ?_
 replace h16 := h16.call k17 p17
 refine ite_both (fun hy => ?_) (fun hy => ?_)
 · rw [isA_yes hy] at h16
   rw [if_pos hy] at hQ
   have fa := f.isW w hy (by decide)
   refine p_name hT hkw h16.ps fun H18 k18 p18 => ?_
   have h18 := h16.call k18 p18
   have sn := Sub.nameS kw s.adv
   refine p_value hT hex h18.ps (sn.1 w.adv) (sn.few fa) fun H20 k20 p20 => ?_
   have h20 := h18.call k20 p20
   generalize valueF (exprM kw val n) d (s.adv.nameS kw) = v at hQ h20
   try simp only [afaddr, Do_of, Nat.zero_add]
   refine h20.store (n := 1) rfl rfl rfl (by decide) fun H22 h22 => ?_
   refine h22.store (n := 1) rfl rfl rfl (by decide) fun H24 h24 => ?_
   refine h24.store (n := 1) rfl rfl rfl (by decide) fun H26 h26 => ?_
   refine fin (r := [.int .i64 2, .int .i64 line, .str (s.adv.nameT kw), .str [], .int .i64 0, .str [], .lst .nil 0 [], .lst .full 1 v.1.cells, .lst .nil 0 [], .lst .nil 0 []]) _ h26 ?_ rfl hQ
   rw [GStmt.cells_eq, GPlace.cells_eq]
   simp only [AV.weaks, AV.weak, GExpr.weaks]
   simp [lstA, stZ, plZ, AV.weaks]
 rw [isA_no hy] at h16
 rw [if_neg hy] at hQ
 clear hy
 have wp : ∀ p : GPlace, AV.weaks [.str p.var, lstA GPart.cells p.parts] = [.str p.var, lstA GPart.cells p.parts] := fun p => by
  have := GPlace.weaks p
  rw [GPlace.cells_eq] at this
  exact this
 have wq : ∀ p : GPlace, (lstA GPart.cells p.parts).weak = lstA GPart.cells p.parts := fun p => by
  have := wp p
  simp only [AV.weaks, AV.weak] at this
  simpa using this
 refine p_is hT h16.ps fun H17 k17 p17 => ?_
 replace h16 := h16.call k17 p17
 refine ite_both (fun hy => ?_) (fun hy => ?_)
 · rw [isA_yes hy] at h16
   rw [if_pos hy] at hQ
   have fa := f.isW w hy (by decide)
   have sp := Sub.place kw (Sub.parts kw val n) d s.adv
   refine hpl _ _ _ _ _ h16.ps w.adv fa fun H18 k18 p18 => ?_
   have h18 := h16.call k18 p18
   generalize placeM' kw (partsM kw val n) d s.adv = pl at hQ h18 sp
   refine p_value hT hex h18.ps (sp.1 w.adv) (sp.few fa) fun H20 k20 p20 => ?_
   have h20 := h18.call k20 p20
   generalize valueF (exprM kw val n) d pl.2 = v at hQ h20
   try simp only [afaddr, Do_of, Nat.zero_add]
   rw [GPlace.cells_eq]
   refine h20.store (n := 1) rfl rfl rfl (by decide) fun H22 h22 => ?_
   refine h22.store (n := 2) rfl rfl rfl (by decide) fun H24 h24 => ?_
   refine h24.store (n := 1) rfl rfl rfl (by decide) fun H26 h26 => ?_
   refine fin (r := [.int .i64 3, .int .i64 line, .str [], .str [], .int .i64 0, .str pl.1.var, lstA GPart.cells pl.1.parts, .lst .full 1 v.1.cells, .lst .nil 0 [], .lst .nil 0 []]) _ h26 ?_ rfl hQ
   rw [GStmt.cells_eq, GPlace.cells_eq]
   simp only [AV.weaks, wq]
   simp only [AV.weak, GExpr.weaks]
   simp [lstA, stZ, plZ, AV.weaks]
 rw [isA_no hy] at h16
 rw [if_neg hy] at hQ
 clear hy
 refine p_is hT h16.ps fun H17 k17 p17 => ?_
 replace h16 := h16.call k17 p17
 refine ite_both (fun hy => ?_) (fun hy => ?_)
 · rw [isA_yes hy] at h16
   rw [if_pos hy] at hQ
   have fa := f.isW w hy (by decide)
   have so := Sub.order s.adv
   refine p_order hT h16.ps fun H15 k15 p15 => ?_
   have h15 := h16.call k15 p15
   generalize orderM s.adv = o at hQ so h15
   have sp := Sub.place kw (Sub.parts kw val n) d o.2
   refine hpl _ _ _ _ _ h15.ps (so.1 w.adv) (so.few fa) fun H18 k18 p18 => ?_
   have h18 := h15.call k18 p18
   generalize placeM' kw (partsM kw val n) d o.2 = pl at hQ h18 sp
   refine p_value hT hex h18.ps ((so.trans sp).1 w.adv) ((so.trans sp).few fa) fun H20 k20 p20 => ?_
   have h20 := h18.call k20 p20
   generalize valueF (exprM kw val n) d pl.2 = v at hQ h20
   try simp only [afaddr, Do_of, Nat.zero_add]
   rw [GPlace.cells_eq]
   refine h20.store (n := 1) rfl rfl rfl (by decide) fun H22 h22 => ?_
   refine h22.store (n := 1) rfl rfl rfl (by decide) fun H23 h23 => ?_
   refine h23.store (n := 2) rfl rfl rfl (by decide) fun H24 h24 => ?_
   refine h24.store (n := 1) rfl rfl rfl (by decide) fun H26 h26 => ?_
   refine fin (r := [.int .i64 4, .int .i64 line, .str [], .str [], .int .i64 o.1, .str pl.1.var, lstA GPart.cells pl.1.parts, .lst .full 1 v.1.cells, .lst .nil 0 [], .lst .nil 0 []]) _ h26 ?_ rfl hQ
   rw [GStmt.cells_eq, GPlace.cells_eq]
   simp only [AV.weaks, wq]
   simp only [AV.weak, GExpr.weaks]
   simp [lstA, stZ, plZ, AV.weaks]
 rw [isA_no hy] at h16
 rw [if_neg hy] at hQ
 clear hy
 refine p_is hT h16.ps fun H17 k17 p17 => ?_
 replace h16 := h16.call k17 p17
 refine ite_both (fun hy => ?_) (fun hy => ?_)
 · rw [isA_yes hy] at h16
   rw [if_pos hy] at hQ
   have fa := f.isW w hy (by decide)
   have so := Sub.order s.adv
   refine p_order hT h16.ps fun H15 k15 p15 => ?_
   have h15 := h16.call k15 p15
   generalize orderM s.adv = o at hQ so h15
   refine hpl _ _ _ _ _ h15.ps (so.1 w.adv) (so.few fa) fun H18 k18 p18 => ?_
   have h18 := h15.call k18 p18
   generalize placeM' kw (partsM kw val n) d o.2 = pl at hQ h18
   refine p_name hT hkw h18.ps fun H19 k19 p19 => ?_
   have h19 := h18.call k19 p19
   refine p_name hT hkw h19.ps fun H20 k20 p20 => ?_
   have h20 := h19.call k20 p20
   try simp only [afaddr, Do_of, Nat.zero_add]
   rw [GPlace.cells_eq]
   refine h20.store (n := 1) rfl rfl rfl (by decide) fun H22 h22 => ?_
   refine h22.store (n := 1) rfl rfl rfl (by decide) fun H23 h23 => ?_
   refine h23.store (n := 2) rfl rfl rfl (by decide) fun H24 h24 => ?_
   refine h24.store (n := 1) rfl rfl rfl (by decide) fun H25 h25 => ?_
   refine h25.store (n := 1) rfl rfl rfl (by decide) fun H26 h26 => ?_
   refine fin (r := [.int .i64 5, .int .i64 line, .str (pl.2.nameT kw), .str ((pl.2.nameS kw).nameT kw), .int .i64 o.1, .str pl.1.var, lstA GPart.cells pl.1.parts, .lst .nil 0 [], .lst .nil 0 [], .lst .nil 0 []]) _ h26 ?_ rfl hQ
   rw [GStmt.cells_eq, GPlace.cells_eq]
   simp only [AV.weaks, wq]
   simp only [AV.weak]
   simp [lstA, stZ, plZ, AV.weaks]
 rw [isA_no hy] at h16
 rw [if_neg hy] at hQ
 clear hy
 refine p_is hT h16.ps fun H17 k17 p17 => ?_
 replace h16 := h16.call k17 p17
 refine ite_both (fun hy => ?_) (fun hy => ?_)
 · rw [isA_yes hy] at h16
   rw [if_pos hy] at hQ
   have fa := f.isW w hy (by decide)
   have so := Sub.order s.adv
   refine p_order hT h16.ps fun H15 k15 p15 => ?_
   have h15 := h16.call k15 p15
   generalize orderM s.adv = o at hQ so h15
   have sp := Sub.place kw (Sub.parts kw val n) d o.2
   refine hpl _ _ _ _ _ h15.ps (so.1 w.adv) (so.few fa) fun H18 k18 p18 => ?_
   have h18 := h15.call k18 p18
   generalize placeM' kw (partsM kw val n) d o.2 = pl at hQ h18 sp
   have sv := Sub.value (Sub.expr kw val n) d pl.2
   refine p_value hT hex h18.ps ((so.trans sp).1 w.adv) ((so.trans sp).few fa) fun H20 k20 p20 => ?_
   have h20 := h18.call k20 p20
   generalize valueF (exprM kw val n) d pl.2 = v at hQ h20 sv
   try simp only [afaddr, Do_of, Nat.zero_add]
   rw [GPlace.cells_eq]
   refine h20.store (n := 1) rfl rfl rfl (by decide) fun H22 h22 => ?_
   refine h22.store (n := 1) rfl rfl rfl (by decide) fun H23 h23 => ?_
   refine h23.store (n := 2) rfl rfl rfl (by decide) fun H24 h24 => ?_
   refine h24.store (n := 1) rfl rfl rfl (by decide) fun H26 h26 => ?_
   have er : ∃ r : List AV, r = [.int .i64 6, .int .i64 line, .str [], .str [], .int .i64 o.1, .str pl.1.var, lstA GPart.cells pl.1.parts, .lst .full 1 v.1.cells, .lst .nil 0 [], .lst .nil 0 []] := ⟨_, rfl⟩
   obtain ⟨r, er⟩ := er
   have h27 : SF H id H.n (H.n + 1) H26 v.2 r := by rw [er]; exact h26
   clear h26 h24 h23 h22 h20
   have sw := Sub.want v.2 [44]
   refine p_want hT h27.ps fun H28 k28 p28 => ?_
   have h28 := h27.call k28 p28
   have hld : ∀ {H' : AH} {s'}, SF H id H.n (H.n + 1) H' s' r → aload H' 1 false (.ptr (H.n + 1) 7) = some (.lst .full 1 v.1.cells) := fun h => by rw [h.a10.load, er]; rfl
   rw [hld h28]
   simp only [Do_of, abin_add]
   have s4 := ((so.trans sp).trans sv).trans sw
   refine hex _ _ _ _ _ h28.ps (s4.1 w.adv) (s4.few fa) fun H29 k29 p29 => ?_
   have h29 := h28.call k29 p29
   generalize exprM kw val n (x64 (d + 1)) (v.2.want [44]) = u at hQ h29
   refine ⟨hld h29, ?_⟩
   rw [agg8_slice]
   simp only [DoH_some]
   have own : OwnT H.n H29 8 (.lst .full 1 v.1.cells) 1 v.1.cells := ⟨.full, rfl, by rw [GExpr.len], .inr (.inl rfl)⟩
   refine own.app h29.kk.1 (m := 1) (news := u.1.cells) (by simp [acells, GExpr.len]) (by rw [GExpr.len]) (GExpr.scalar _) (by decide) (by decide) (by decide) fun x' H30 ow3 l3 => ?_
   have hsx : x'.scalar = true := by obtain ⟨tk, rfl, _, _⟩ := ow3; rfl
   have hcx : x'.cells = [x'] := by obtain ⟨tk, rfl, _, _⟩ := ow3; rfl
   have hkx : x'.known = true := by obtain ⟨tk, rfl, _, _⟩ := ow3; rfl
   have h30 : SF H id H.n (H.n + 1) H30 u.2 r := ⟨h29.hid, h29.h1, h29.h10, h29.ne, h29.len, h29.kk.left l3, h29.ps.left l3, l3.row h29.a1, l3.row h29.a10⟩
   refine h30.store (n := 1) hkx (by rw [hcx]; rfl) (by rw [hcx]; simp [hsx]) (by decide) fun H31 h31 => ?_
   rw [hcx] at h31
   have er2 : setCells r 7 [x'] = [.int .i64 6, .int .i64 line, .str [], .str [], .int .i64 o.1, .str pl.1.var, lstA GPart.cells pl.1.parts, x', .lst .nil 0 [], .lst .nil 0 []] := by rw [er]; rfl
   rw [er2] at h31
   have hwk : x'.weak = lstA GExpr.cells [v.1, u.1] := by
    rw [ow3.weak (by rw [weaks_app, GExpr.weaks, GExpr.weaks])]
    simp [lstA]
   refine fin _ h31 ?_ (by simp only [List.all_cons, hsx]; rfl) hQ
   rw [GStmt.cells_eq, GPlace.cells_eq]
   simp only [AV.weaks, wq, hwk]
   simp only [AV.weak]
   simp [lstA, stZ, plZ, AV.weaks]
 rw [isA_no hy] at h16
 rw [if_neg hy] at hQ
 clear hy
 refine p_is hT h16.ps fun H17 k17 p17 => ?_
 replace h16 := h16.call k17 p17
 refine ite_both (fun hy => ?_) (fun hy => ?_)
 · rw [isA_yes hy] at h16
   rw [if_pos hy] at hQ
   refine p_order hT h16.ps fun H15 k15 p15 => ?_
   have h15 := h16.call k15 p15
   generalize orderM s.adv = o at hQ h15
   try simp only [afaddr, Do_of, Nat.zero_add]
   refine h15.store (n := 1) rfl rfl rfl (by decide) fun H22 h22 => ?_
   refine h22.store (n := 1) rfl rfl rfl (by decide) fun H23 h23 => ?_
   exact fin (r := [.int .i64 7, .int .i64 line, .str [], .str [], .int .i64 o.1, .str [], .lst .nil 0 [], .lst .nil 0 [], .lst .nil 0 [], .lst .nil 0 []]) _ h23 rfl rfl hQ
 rw [isA_no hy] at h16
 rw [if_neg hy] at hQ
 clear hy
 refine p_is hT h16.ps fun H17 k17 p17 => ?_
 replace h16 := h16.call k17 p17
 refine ite_both (fun hy => ?_) (fun hy => ?_)
 · rw [isA_yes hy] at h16
   rw [if_pos hy] at hQ
   have fa := f.isW w hy (by decide)
   try simp only [abin_add, Do_of]
   refine hex _ _ _ _ _ h16.ps w.adv fa fun H29 k29 p29 => ?_
   have h29 := h16.call k29 p29
   generalize exprM kw val n (x64 (d + 1)) s.adv = u at hQ h29
   rw [agg8_slice]
   simp only [DoH_some, afaddr, Do_of, Nat.zero_add]
   refine h29.store (n := 1) rfl rfl rfl (by decide) fun H22 h22 => ?_
   refine h22.store (n := 1) rfl rfl rfl (by decide) fun H23 h23 => ?_
   refine fin (r := [.int .i64 10, .int .i64 line, .str [], .str [], .int .i64 0, .str [], .lst .nil 0 [], .lst .full 1 u.1.cells, .lst .nil 0 [], .lst .nil 0 []]) _ h23 ?_ rfl hQ
   rw [GStmt.cells_eq, GPlace.cells_eq]
   simp only [AV.weaks, AV.weak, GExpr.weaks]
   simp [lstA, stZ, plZ, AV.weaks]
 rw [isA_no hy] at h16
 rw [if_neg hy] at hQ
 clear hy
 rw [h16.a10.load, takeCells_whole h16.len]
 simp only [Do_of]
 refine p_control hT hW hex hbl h16.ps w f fun H20 k20 p20 => ?_
 have h20 := h16.call k20 p20
 exact h20.ret1 (GStmt.weaks _) (GStmt.scalar _) hQ
end
end Rb

namespace Rb
open Go
theorem Few.stmt {kw : List UInt8 → Bool} {ex : Int → PSt → GExpr × PSt} {pa : Int → PSt → List GPart × PSt} {ss : Int → PSt → List GStmt × PSt} (h : ∀ d s, Sub s (ex d s).2) (g : ∀ d s, Sub s (pa d s).2) (k : ∀ d s, Sub s (ss d s).2) {n : Nat} {d : Int} {s : PSt} (hf : Few (n + 1) s) (hw : Wf s) : Few n (stmtF kw ex pa ss d s).2 := by
 have fa : ∀ (w : List UInt8), s.isW w = true → w ≠ [] → Few n s.adv := fun w h1 h2 => hf.isW hw h1 h2
 have ctl : ∀ x, Few n (controlF ex ss x d s).2 := by
  intro x
  unfold controlF
  dsimp only
  by_cases c1 : s.isW [105, 102] = true
  · have := fa _ c1 (by decide)
    simp only [if_pos c1]
    split
    · exact ((((h _ _).trans (Sub.block k _ _)).trans (Sub.adv _)).trans (Sub.block k _ _)).few this
    · exact ((h _ _).trans (Sub.block k _ _)).few this
  simp only [if_neg c1]
  by_cases c2 : s.isW [119, 104, 105, 108, 101] = true
  · have := fa _ c2 (by decide)
    simp only [if_pos c2]
    exact ((h _ _).trans (Sub.block k _ _)).few this
  simp only [if_neg c2]
  exact .inl (PSt.fail_fk s (by decide))
 unfold stmtF
 dsimp only
 by_cases c : s.isW [108, 101, 116] = true
 · have := fa _ c (by decide)
   simp only [if_pos c]
   exact (((Sub.nameS kw _).trans (Sub.value h _ _)).trans (Sub.want _ _)).few this
 simp only [if_neg c]; clear c
 by_cases c : s.isW [115, 101, 116] = true
 · have := fa _ c (by decide)
   simp only [if_pos c]
   exact (((Sub.nameS kw _).trans (Sub.value h _ _)).trans (Sub.want _ _)).few this
 simp only [if_neg c]; clear c
 by_cases c : s.isW [119, 114, 105, 116, 101] = true
 · have := fa _ c (by decide)
   simp only [if_pos c]
   exact (((Sub.place kw g _ _).trans (Sub.value h _ _)).trans (Sub.want _ _)).few this
 simp only [if_neg c]; clear c
 by_cases c : s.isW [115, 116, 111, 114, 101] = true
 · have := fa _ c (by decide)
   simp only [if_pos c]
   exact ((((Sub.order _).trans (Sub.place kw g _ _)).trans (Sub.value h _ _)).trans (Sub.want _ _)).few this
 simp only [if_neg c]; clear c
 by_cases c : s.isW [108, 111, 97, 100, 50] = true
 · have := fa _ c (by decide)
   simp only [if_pos c]
   exact (((((Sub.order _).trans (Sub.place kw g _ _)).trans (Sub.nameS kw _)).trans (Sub.nameS kw _)).trans (Sub.want _ _)).few this
 simp only [if_neg c]; clear c
 by_cases c : s.isW [115, 116, 111, 114, 101, 50] = true
 · have := fa _ c (by decide)
   simp only [if_pos c]
   exact ((((((Sub.order _).trans (Sub.place kw g _ _)).trans (Sub.value h _ _)).trans (Sub.want _ _)).trans (h _ _)).trans (Sub.want _ _)).few this
 simp only [if_neg c]; clear c
 by_cases c : s.isW [102, 101, 110, 99, 101] = true
 · have := fa _ c (by decide)
   simp only [if_pos c]
   exact ((Sub.order _).trans (Sub.want _ _)).few this
 simp only [if_neg c]; clear c
 by_cases c : s.isW [112, 114, 105, 110, 116] = true
 · have := fa _ c (by decide)
   simp only [if_pos c]
   exact ((h _ _).trans (Sub.want _ _)).few this
 simp only [if_neg c]
 exact ctl _
theorem agg10_slice (H : AH) (e : GStmt) : abslice H false 10 1 [.int .i64 0, .int .i64 0, .str [], .str [], .int .i64 0, .str [], .lst .nil 0 [], .lst .nil 0 [], .lst .nil 0 [], .lst .nil 0 []] [(0, 10, .agg e.cells)] = some (.lst .full 1 e.cells, H) := by
 have hfl := GStmt.len e
 simp only [abslice, fillA, AV.known, AV.cells, hfl]
 rw [if_pos (by simp)]
 rw [setCells_all (by rw [hfl]; rfl)]
 rfl
section
variable {Φ : Calls'} {kw : List UInt8 → Bool} {val : List UInt8 → Int}
theorem stmts_loop (hT : Cl Φ S.tab_Lex) {H0 : AH} {Q : Post} {id : Nat} {d : Int} (hid : id < H0.n) :
  ∀ (n : Nat), (∀ m, m < n → StmtOK Φ kw val m) → ∀ (H : AH) (s : PSt) (L : AV) (done : List GStmt), KeepP id H0 H → PS H id s → Wf s → Few n s → (s.fk ≠ 0 ∨ done.length + s.toks.length ≤ 2000001) →
  OwnT H0.n H 10 L done.length (done.flatMap GStmt.cells) →
  (∀ H', KeepP id H0 H' → PS H' id (stmtsM kw val n d s).2 → Q (lstA GStmt.cells (done ++ (stmtsM kw val n d s).1)) H') →
  LoopP (S.f23_l3 Φ (.ptr id 0) (.int .i64 d) fun v H' => Q v.weak H') ([L], H) := by
 have wk : ∀ {H : AH} {L : AV} {done : List GStmt}, OwnT H0.n H 10 L done.length (done.flatMap GStmt.cells) → L.weak = lstA GStmt.cells done := by
  intro H L done ow
  have hs : AV.weaks (done.flatMap GStmt.cells) = done.flatMap GStmt.cells := by rw [← GStmt.all_eq]; exact GStmt.weaksA _
  rw [ow.weak hs]; rfl
 intro n
 induction n with
 | zero =>
  intro _ H s L done kk p w f _ ow hQ
  have hb := f.zero w
  refine LoopP.step ?_
  simp only [S.f23_l3]
  refine p_bad hT p ?_
  simp only [aun_not, Do_of, Gd3_true]
  rw [if_neg (by simpa using hb)]
  simp only [JoinP_def, S.f23_k2, sl_zero, Gd_true]
  rw [if_neg (by decide)]
  have := hQ H kk (by unfold stmtsM; exact p)
  unfold stmtsM at this
  rw [List.append_nil] at this
  rw [wk ow]; exact this
 | succ n ih =>
  intro hst H s L done kk p w f hl ow hQ
  refine LoopP.step ?_
  simp only [S.f23_l3]
  refine p_bad hT p ?_
  simp only [aun_not, Do_of, Gd3_true]
  refine ite_both (fun hx => ?_) (fun hx => ?_)
  · have h0 : s.fk = 0 := by simpa using hx
    refine p_is hT p fun H1 k1 p1 => ?_
    have ow1 := ow.keep hid k1
    simp only [aun_not, Do_of, JoinP_def, S.f23_k2, sl_zero, Gd_true]
    refine ite_both (fun hy => ?_) (fun hy => ?_)
    · have hf : s.isW [125] = false := by simpa using hy
      have e1 : s.isA [125] = s := by unfold PSt.isA; rw [hf, if_neg (by decide)]
      rw [e1] at p1
      have em : stmtsM kw val (n + 1) d s = ((stmtF kw (exprM kw val n) (partsM kw val n) (fun d s => stmtsM kw val n d s) d s).1 :: (stmtsM kw val n d (stmtF kw (exprM kw val n) (partsM kw val n) (fun d s => stmtsM kw val n d s) d s).2).1, (stmtsM kw val n d (stmtF kw (exprM kw val n) (partsM kw val n) (fun d s => stmtsM kw val n d s) d s).2).2) := by
       conv => lhs; unfold stmtsM
       rw [if_neg (by simpa using h0), hf, if_neg (by decide)]
      rw [em] at hQ
      simp only [S.f23_k1]
      have hsub := Sub.stmt kw (Sub.expr kw val n) (Sub.parts kw val n) (Sub.stmts kw val n) d s
      have hfew : ∀ m, Few (m + 1) s → Few m (stmtF kw (exprM kw val n) (partsM kw val n) (stmtsM kw val n) d s).2 := fun m hm => Few.stmt (Sub.expr kw val n) (Sub.parts kw val n) (Sub.stmts kw val n) hm w
      refine hst n (Nat.lt_succ_self n) _ _ _ _ _ p1 w f fun H2 k2 p2 => ?_
      have ow2 := ow1.keep hid k2
      have em2 : stmtF kw (exprM kw val n) (partsM kw val n) (fun d s => stmtsM kw val n d s) d s = stmtF kw (exprM kw val n) (partsM kw val n) (stmtsM kw val n) d s := rfl
      rw [em2] at hQ
      generalize stmtF kw (exprM kw val n) (partsM kw val n) (stmtsM kw val n) d s = fd at hQ p2 hsub hfew
      have hlen : done.length + s.toks.length ≤ 2000001 := by
       rcases hl with hl | hl
       · exact absurd h0 hl
       · exact hl
      have epos : 0 < s.toks.length := List.length_pos_iff.2 w.ne
      rw [agg10_slice]
      simp only [DoH_some]
      refine ow2.app (Nat.le_trans kk.1 (Nat.le_trans k1.1 k2.1)) (m := 1) (news := fd.1.cells) (by simp [acells, GStmt.len]) (by rw [GStmt.len]) (GStmt.scalar _) (by decide) (by omega) (by omega) fun x' H3 ow3 l3 => ?_
      refine ih (fun m hm => hst m (Nat.lt_succ_of_lt hm)) _ fd.2 x' (done ++ [fd.1]) (((kk.trans k1).trans k2).left l3) (p2.left l3) (hsub.1 w) (hfew n f) ?_ ?_ fun H' k' p' => ?_
      · have := hfew (s.toks.length - 1) (.inr (by omega))
        rcases this with h | h
        · exact .inl h
        · exact .inr (by rw [List.length_append, List.length_singleton]; omega)
      · rw [List.length_append, List.length_singleton, List.flatMap_append]
        simpa using ow3
      · have := hQ H' k' p'
        rw [List.append_assoc]
        exact this
    · have hf : s.isW [125] = true := by simpa using hy
      have e1 : s.isA [125] = s.adv := by unfold PSt.isA; rw [hf, if_pos rfl]
      rw [e1] at p1
      have em : stmtsM kw val (n + 1) d s = ([], s.adv) := by
       unfold stmtsM
       rw [if_neg (by simpa using h0), hf, if_pos rfl]
      rw [em] at hQ
      have := hQ H1 (kk.trans k1) p1
      rw [List.append_nil] at this
      rw [wk ow1]; exact this
  · have h0 : s.fk ≠ 0 := by simpa using hx
    have em : stmtsM kw val (n + 1) d s = ([], s) := by
     unfold stmtsM
     rw [if_pos h0]
    rw [em] at hQ
    simp only [JoinP_def, S.f23_k2, sl_zero, Gd_true]
    rw [if_neg (by decide)]
    have := hQ H kk p
    rw [List.append_nil] at this
    rw [wk ow]; exact this
theorem p_block (hT : Cl Φ S.tab_Lex) (hW : Wk Φ) (hkw : ∀ x, Val Φ K.f47 [.str x] (.bool (kw x))) (hv : NumV Φ val) : ∀ n, BlockOK Φ kw val n := by
 intro n
 induction n using Nat.strongRecOn with
 | ind n ih =>
 intro H Q id s d p w f hQ
 refine hW _ _ _ _ (S.cl_f23 hT ?_)
 unfold S.f23
 have hid := lt_of_ps p
 have sd := Sub.deep s d
 conv at hQ => intro H' _; unfold blockF
 dsimp only at hQ
 refine p_deep hT p fun H4 k4 p4 => ?_
 simp only [aun_not, Do_of, Gd_true]
 refine ite_both (fun hx => ?_) (fun hx => ?_)
 · have hb : (s.deep d).fk ≠ 0 := by simpa using hx
   rw [if_pos hb] at hQ
   exact hQ H4 k4 p4
 · have hb : ¬ (s.deep d).fk ≠ 0 := by simpa using hx
   rw [if_neg hb] at hQ
   refine p_want hT p4 fun H5 k5 p5 => ?_
   have sw := sd.trans (Sub.want (s.deep d) [123])
   refine stmts_loop hT hid n (fun m hm => ?_) H5 _ (.lst .nil 0 []) [] (k4.trans k5) p5 (sw.1 w) (sw.few f) (.inr (by have := p5.2.1; simp only [List.length_nil]; omega)) (OwnT.nil _ _ _) hQ
   exact p_stmt hT hW hkw (p_expr hT hW hkw hv m) (p_place hT hW hkw fun j hj => p_expr hT hW hkw hv j) (ih m hm)
end
end Rb

namespace Rb
open Go
theorem toks_word {num : List UInt8 → Bool} : ∀ (n : Nat) (s : List UInt8) (line : Int) (ws : List (List UInt8 × Int)), toks num n s line = .ok ws → ∀ w ∈ ws, w.1.length ≤ s.length := by
 intro n
 induction n with
 | zero => intro s line ws h w hw; rw [toks] at h; cases h; cases hw
 | succ n ih =>
  intro s line ws h w hw
  cases s with
  | nil => rw [toks] at h; cases h; cases hw
  | cons x r =>
   rw [toks] at h
   split at h
   · have := ih _ _ _ h w hw
     simp only [List.length_cons]; omega
   · split at h
     · have := ih _ _ _ h w hw
       simp only [List.length_cons]; omega
     · cases hk : wordM num (x :: r) with
       | none => rw [hk] at h; cases h
       | some k =>
        rw [hk] at h
        simp only at h
        cases ht : toks num n ((x :: r).drop k) line with
        | error l => rw [ht] at h; cases h
        | ok a =>
         rw [ht] at h
         cases h
         rcases List.mem_cons.1 hw with rfl | hw
         · show ((x :: r).take k).length ≤ _
           rw [List.length_take]; omega
         · have h1 := ih _ _ _ ht w hw
           have h2 : ((x :: r).drop k).length ≤ (x :: r).length := by rw [List.length_drop]; omega
           omega
def lastL (ws : List (List UInt8 × Int)) : Int := match ws.getLast? with
 | none => 0
 | some w => w.2
def beginM (ws : List (List UInt8 × Int)) : PSt := ⟨ws ++ [([], lastL ws)], 0, 0⟩
theorem begin_wf {num : List UInt8 → Bool} {s : List UInt8} {ws : List (List UInt8 × Int)} (h : lexM num s = .ok ws) : Wf (beginM ws) ∧ ws.length ≤ 1048576 := by
 have ht := lexM_ok h
 have hs : s.length ≤ 1048576 := by
  unfold lexM at h
  split at h
  · cases h
  · omega
 exact ⟨⟨ws, lastL ws, rfl, fun w hw => Nat.le_trans (toks_word _ _ _ _ ht w hw) hs⟩, Nat.le_trans (toks_count ht) hs⟩
section
variable {Φ : Calls'} {num : List UInt8 → Bool}
theorem p_begin (hT : Cl Φ S.tab_Lex) (htok : ∀ s, Val Φ K.f42 [.str s] (lexV2 (lexM num s))) {H : AH} {Q : Post} (s : List UInt8)
  (hQ : ∀ H', AH.Ext H H' → (match lexM num s with | .error e => Q (.tup [.nilp, .agg [.int .i64 e.1, .int .i64 e.2]]) H' | .ok ws => ∀ id, H.n ≤ id → PS H' id (beginM ws) → Q (.tup [.ptr id 0, .agg [.int .i64 0, .int .i64 0]]) H')) : Φ K.f18 [.str s] H Q := by
 refine S.cl_f18 hT ?_
 unfold S.f18
 simp only [abox, if_true, DoH_some]
 refine htok s _ _ ?_
 have hw : ∀ ws, lexM num s = .ok ws → lexV2 (lexM num s) = .tup [tokV (if ws = [] then .nil else .dead) ws, .agg [.int .i64 0, .int .i64 0]] := by
  intro ws h
  rw [h]
  cases ws with
  | nil => rfl
  | cons w r => rw [if_neg (by simp)]; rfl
 have a1 : At (H.push (.row [.int .i64 0, .int .i64 0])) H.n (.row [.int .i64 0, .int .i64 0]) := At.new H _
 have x1 : AH.Ext H (H.push (.row [.int .i64 0, .int .i64 0])) := AH.Ext.push H _
 have hn1 : (H.push (.row [.int .i64 0, .int .i64 0])).n = H.n + 1 := rfl
 generalize H.push (.row [.int .i64 0, .int .i64 0]) = H2 at a1 x1 hn1
 cases hM : lexM num s with
 | error e =>
  rw [hM] at hQ
  have hne : e.2 ≠ 0 := lexM_err hM
  simp only [lexV2, lexV, aextract, List.getElem?_cons_zero, List.getElem?_cons_succ, Do_of]
  rw [store_new H2 _ _ 2 rfl rfl rfl]
  have l1 : aload (H2.push (.row [.int .i64 e.1, .int .i64 e.2])) 1 false (.ptr H2.n 1) = some (.int .i64 e.2) := by rw [load_push]; rfl
  have l2 : aload (H2.push (.row [.int .i64 e.1, .int .i64 e.2])) 2 true (.ptr H2.n 0) = some (.agg [.int .i64 e.1, .int .i64 e.2]) := by rw [load_push]; rfl
  simp only [Do_of, afaddr, Nat.zero_add, l1, l2, abin_neq, Gd_true]
  rw [if_pos (by simpa using hne)]
  have b1 := a1.push (.row [.int .i64 e.1, .int .i64 e.2])
  rw [b1.store, if_pos ⟨rfl, rfl, rfl, by simp⟩]
  simp only [Do_of]
  rw [(b1.set _).load]
  refine (Do_of _ _).2 ?_
  exact hQ _ ((x1.trans (AH.Ext.push _ _)).set (Nat.le_refl _) _)
 | ok ws =>
  rw [hM] at hQ
  rw [← hM, hw ws hM]
  obtain ⟨hwf, hlen⟩ := begin_wf hM
  generalize htk : (if ws = [] then Tok.nil else Tok.dead) = tk
  simp only [aextract, List.getElem?_cons_zero, List.getElem?_cons_succ, Do_of]
  rw [store_new H2 _ _ 2 rfl rfl rfl]
  have l1 : aload (H2.push (.row [.int .i64 0, .int .i64 0])) 1 false (.ptr H2.n 1) = some (.int .i64 0) := by rw [load_push]; rfl
  simp only [Do_of, afaddr, Nat.zero_add, l1, abin_neq, Gd_true]
  rw [if_neg (by decide)]
  have b1 := a1.push (.row [.int .i64 0, .int .i64 0])
  have x2 := x1.trans (AH.Ext.push H2 (.row [.int .i64 0, .int .i64 0]))
  generalize H2.push (.row [.int .i64 0, .int .i64 0]) = H9 at b1 x2
  have k1 : JoinP (S.f18_k1 Φ (.ptr H.n 0) (tokV tk ws) Q) [.int .i64 (lastL ws)] H9 := by
   simp only [JoinP_def, S.f18_k1, tokV_len, Do_of, sl_zero]
   have hsl : ∃ x, aslice 2 (tokV tk ws) none (some (.int .i64 ws.length)) (some (.int .i64 ws.length)) = some x ∧ OwnT H9.n H9 2 x ws.length (ws.flatMap tokC) := by
    cases ws with
    | nil =>
     rw [if_pos rfl] at htk
     subst htk
     exact ⟨.lst .nil 0 [], rfl, OwnT.nil _ _ _⟩
    | cons w r =>
     rw [if_neg (by simp)] at htk
     subst htk
     refine ⟨.lst .full (w :: r).length ((w :: r).flatMap tokC), ?_, .full, rfl, flatMap_len tokC_len _, .inr (.inl rfl)⟩
     have hb : ∀ z, abound (some (.int .i64 ((w :: r).length : Nat))) z = some (w :: r).length := by
      intro z
      simp only [abound]
      rw [if_pos (by omega)]
      simp
     have hb0 : abound none 0 = some 0 := rfl
     unfold tokV aslice
     simp only [hb, hb0, Option.map_some]
     rw [if_neg (by rintro ⟨h, _⟩; simp at h), if_pos ⟨Nat.zero_le _, Nat.le_refl _, Nat.le_refl _, flatMap_len tokC_len _, by decide, by simp⟩]
     rw [if_pos (by simp), Nat.sub_zero, Nat.zero_mul, List.drop_zero, List.take_of_length_le (by rw [flatMap_len tokC_len]; exact Nat.le_refl _)]
   obtain ⟨x, hx, own⟩ := hsl
   rw [hx]
   simp only [Do_of]
   rw [show abuild [.str [], .int .i64 0] [(1, 1, .int .i64 (lastL ws))] = some (.agg (tokC ([], lastL ws))) from rfl]
   simp only [Do_of]
   rw [show abslice H9 false 2 1 [.str [], .int .i64 0] [(0, 2, .agg (tokC ([], lastL ws)))] = some (.lst .full 1 (tokC ([], lastL ws)), H9) from rfl]
   simp only [DoH_some]
   refine own.app (Nat.le_refl _) (m := 1) (news := tokC ([], lastL ws)) rfl rfl rfl (by decide) (by omega) (by omega) fun x' H3 ow3 l3 => ?_
   have c1 := l3.row b1
   obtain ⟨tk', rfl, hcl, _⟩ := ow3
   rw [show abuild [.lst .nil 0 [], .int .i64 0, .int .i64 0] [(0, 1, .lst tk' (ws.length + 1) (ws.flatMap tokC ++ tokC ([], lastL ws)))] = some (.agg [.lst tk' (ws.length + 1) (ws.flatMap tokC ++ tokC ([], lastL ws)), .int .i64 0, .int .i64 0]) from rfl]
   simp only [Do_of]
   rw [show aboxv H3 true 3 (.agg [.lst tk' (ws.length + 1) (ws.flatMap tokC ++ tokC ([], lastL ws)), .int .i64 0, .int .i64 0]) = some (.ptr H3.n 0, H3.push (.row [.lst tk' (ws.length + 1) (ws.flatMap tokC ++ tokC ([], lastL ws)), .int .i64 0, .int .i64 0])) from rfl]
   simp only [DoH_some]
   rw [show abuild [.int .i64 0, .int .i64 0] [] = some (.agg [.int .i64 0, .int .i64 0]) from rfl]
   have c2 := c1.push (.row [.lst tk' (ws.length + 1) (ws.flatMap tokC ++ tokC ([], lastL ws)), .int .i64 0, .int .i64 0])
   have c3 := At.new H3 (.row [.lst tk' (ws.length + 1) (ws.flatMap tokC ++ tokC ([], lastL ws)), .int .i64 0, .int .i64 0])
   simp only [Do_of]
   rw [c2.store, if_pos ⟨rfl, rfl, rfl, by simp⟩]
   simp only [Do_of]
   rw [(c2.set _).load]
   refine (Do_of _ _).2 ?_
   have hlt : H.n < H3.n := Nat.lt_of_lt_of_le b1.1 l3.1
   refine hQ _ ?_ H3.n (by omega) ⟨hwf.ne, by show (ws ++ _).length ≤ _; rw [List.length_append, List.length_singleton]; omega, tk', ?_⟩
   · have e3 : AH.Ext H H3 := ⟨Nat.le_trans x2.1 l3.1, fun i hi => ((l3.2 i _ ⟨Nat.lt_of_lt_of_le hi x2.1, x2.2 i hi⟩ (.inl (Nat.lt_of_lt_of_le hi x2.1))).2)⟩
     exact (e3.trans (AH.Ext.push _ _)).set (Nat.le_refl _) _
   · have := c3.set_ne (i := H.n) (by omega) (.row (setCells [AV.int .i64 0, .int .i64 0] 0 (AV.agg [.int .i64 0, .int .i64 0]).cells))
     have e : tokV tk' (beginM ws).toks = .lst tk' (ws.length + 1) (ws.flatMap tokC ++ tokC ([], lastL ws)) := by
      unfold tokV beginM
      simp only [List.length_append, List.length_singleton, List.flatMap_append, List.flatMap_cons, List.flatMap_nil, List.append_nil]
     rw [e]; exact this
  simp only [tokV_len, Do_of, abin_gtr, Gd_true]
  refine ite_both (fun hx => ?_) (fun hx => ?_)
  · have hp : 0 < ws.length := by simp only [decide_eq_true_eq] at hx; omega
    have e0 : IntKind.wrap .i64 ((ws.length : Int) - 1) = ((ws.length - 1 : Nat) : Int) := by rw [wrap_i64 (by omega) (by omega)]; omega
    simp only [abin_sub, Do_of, e0]
    rw [tokV_addr (by omega)]
    have hg : ws[ws.length - 1]? = some (ws[ws.length - 1]'(by omega)) := List.getElem?_eq_getElem _
    have hl : lastL ws = (ws[ws.length - 1]'(by omega)).2 := by
     unfold lastL
     rw [List.getLast?_eq_getElem?, hg]
    simp only [Do_of, elA, afaddr, tok_line _ hg]
    rw [← hl]; exact k1
  · have hz : ws = [] := List.length_eq_zero_iff.1 (by simp only [decide_eq_true_eq] at hx; omega)
    subst hz
    exact k1
end
end Rb

namespace Rb
open Go
section
variable {Φ : Calls'} {kw : List UInt8 → Bool} {val : List UInt8 → Int}
theorem p_end (hT : Cl Φ S.tab_Lex) {H : AH} {Q : Post} {id : Nat} {s : PSt} (p : PS H id s) (hQ : ∀ H', KeepP id H H' → PS H' id s.endM → Q (.agg [.int .i64 s.endM.fl, .int .i64 s.endM.fk]) H') : Φ K.f24 [.ptr id 0] H Q := by
 refine S.cl_f24 hT ?_
 unfold S.f24
 have hid := lt_of_ps p
 simp only [abox, if_true, DoH_some]
 have p2 := p.pushL (.row [.int .i64 0, .int .i64 0])
 have a1 : At (H.push (.row [.int .i64 0, .int .i64 0])) H.n (.row [.int .i64 0, .int .i64 0]) := At.new H _
 have kk : KeepP id H (H.push (.row [.int .i64 0, .int .i64 0])) := KeepP.push id H _
 generalize H.push (.row [.int .i64 0, .int .i64 0]) = H2 at p2 a1 kk
 have k1 : ∀ H4, KeepP id H H4 → PS H4 id s.endM → At H4 H.n (.row [.int .i64 0, .int .i64 0]) → JoinP (S.f24_k1 Φ (.ptr id 0) (.ptr H.n 0) Q) [] H4 := by
  intro H4 k4 p4 c1
  obtain ⟨tk, hat, _⟩ := p4.l0
  simp only [JoinP_def, S.f24_k1, anilck, afaddr, Do_of, Nat.zero_add, hat.load]
  rw [show takeCells [tokV tk s.endM.toks, AV.int .i64 s.endM.fl, .int .i64 s.endM.fk] 1 2 true = some (.agg [.int .i64 s.endM.fl, .int .i64 s.endM.fk]) from rfl]
  simp only [Do_of]
  rw [c1.store, if_pos ⟨rfl, rfl, rfl, by simp⟩]
  simp only [Do_of]
  rw [(c1.set _).load]
  refine (Do_of _ _).2 ?_
  exact hQ _ (k4.setL (Nat.le_refl _) _) (p4.setL (by omega) _)
 have k2 : ∀ b : Bool, (b = true ↔ (s.fk = 0 ∧ 1 < s.toks.length)) → JoinP (S.f24_k2 Φ (.ptr id 0) (.ptr H.n 0) Q) [.bool b] H2 := by
  intro b hb
  simp only [JoinP_def, S.f24_k2, sl_zero, Gd_true]
  refine ite_both (fun hx => ?_) (fun hx => ?_)
  · have e : s.endM = s.fail 4 := by unfold PSt.endM; rw [if_pos (hb.1 hx)]
    refine p_fail hT p2 fun H16 k16 p16 => ?_
    exact k1 H16 (kk.trans k16) (by rw [e]; exact p16) (k16.2 _ _ (by omega) a1)
  · have e : s.endM = s := by unfold PSt.endM; rw [if_neg (fun h => hx (hb.2 h))]
    exact k1 H2 kk (by rw [e]; exact p2) a1
 refine p_bad hT p2 ?_
 simp only [aun_not, Do_of, Gd3_true]
 refine ite_both (fun hx => ?_) (fun hx => ?_)
 · have h0 : s.fk = 0 := by simpa using hx
   obtain ⟨tk, hat, hl0⟩ := p2.l0
   simp only [anilck, afaddr, Do_of, Nat.zero_add, hl0, tokV_len, abin_gtr]
   exact k2 _ (by simp only [decide_eq_true_eq, h0, true_and]; omega)
 · have h0 : s.fk ≠ 0 := by simpa using hx
   exact k2 _ (by simp [h0])
def parseP (num : List UInt8 → Bool) (kw : List UInt8 → Bool) (val : List UInt8 → Int) (s : List UInt8) : GProg × Int × Int := match lexM num s with
 | .error e => (⟨[], []⟩, e.1, e.2)
 | .ok ws => parseM kw val (beginM ws)
def progV (r : GProg × Int × Int) : AV := .tup [.agg r.1.cells, .agg [.int .i64 r.2.1, .int .i64 r.2.2]]
theorem progW (vs ts : AV) (fl fk : Int) {x : GProg} (h1 : vs.weak = lstA GVar.cells x.vars) (h2 : ts.weak = lstA thrCells x.threads) : (AV.tup [.agg [vs, ts], .agg [.int .i64 fl, .int .i64 fk]]).weak = progV (x, fl, fk) := by
 simp only [AV.weak, AV.weaks, h1, h2, progV, GProg.cells]
theorem agg7_slice (H : AH) (v : GVar) : abslice H false 7 1 [.str [], .int .i64 0, .int .i64 0, .bool false, .lst .nil 0 [], .int .i64 0, .lst .nil 0 []] [(0, 7, .agg v.cells)] = some (.lst .full 1 v.cells, H) := by
 have hfl := GVar.len v
 simp only [abslice, fillA, AV.known, AV.cells, hfl]
 rw [if_pos (by simp)]
 rw [setCells_all (by rw [hfl]; rfl)]
 rfl
section
variable {H0 : AH} {Q : Post} {i1 i3 i21 id : Nat}
structure PF (H0 : AH) (id i1 i3 i21 : Nat) (H : AH) (s : PSt) (L1 L2 : AV) : Prop where
 hid : id < H0.n
 h1 : i1 < H0.n
 h3 : i3 < H0.n
 d1 : i1 ≠ id
 d3 : i3 ≠ id
 d13 : i1 ≠ i3
 h21 : H0.n ≤ i21
 kk : KeepP id H0 H
 ps : PS H id s
 a1 : At H i1 (.row [.lst .nil 0 [], .lst .nil 0 []])
 a3 : At H i3 (.row [.int .i64 0, .int .i64 0])
 a21 : At H i21 (.row [L1, L2])
theorem PF.call {H : AH} {s : PSt} {L1 L2 : AV} (h : PF H0 id i1 i3 i21 H s L1 L2) {H' : AH} {s' : PSt} (k : KeepP id H H') (p : PS H' id s') : PF H0 id i1 i3 i21 H' s' L1 L2 :=
 ⟨h.hid, h.h1, h.h3, h.d1, h.d3, h.d13, h.h21, h.kk.trans k, p, k.2 _ _ h.d1 h.a1, k.2 _ _ h.d3 h.a3, k.2 _ _ (by have := h.hid; have := h.h21; omega) h.a21⟩
theorem PF.put {H : AH} {s : PSt} {L1 L2 : AV} (h : PF H0 id i1 i3 i21 H s L1 L2) (M1 M2 : AV) : PF H0 id i1 i3 i21 (H.set i21 (.row [M1, M2])) s M1 M2 :=
 ⟨h.hid, h.h1, h.h3, h.d1, h.d3, h.d13, h.h21, h.kk.setL h.h21 _, h.ps.setL (by have := h.hid; have := h.h21; omega) _, h.a1.set_ne (by have := h.h1; have := h.h21; omega) _, h.a3.set_ne (by have := h.h3; have := h.h21; omega) _, h.a21.set _⟩
theorem PF.left {H H' : AH} {s : PSt} {L1 L2 : AV} (h : PF H0 id i1 i3 i21 H s L1 L2) (k : Left H0.n H H') : PF H0 id i1 i3 i21 H' s L1 L2 :=
 ⟨h.hid, h.h1, h.h3, h.d1, h.d3, h.d13, h.h21, h.kk.left k, h.ps.left k, k.row h.a1, k.row h.a3, k.row h.a21⟩
theorem prog_fin (hT : Cl Φ S.tab_Lex) {H : AH} {s : PSt} {L1 L2 : AV} {vs : List GVar} {ts : List (List GStmt)} (h : PF H0 id i1 i3 i21 H s L1 L2) (w1 : L1.weak = lstA GVar.cells vs) (w2 : L2.weak = lstA thrCells ts) (s1 : L1.scalar = true) (s2 : L2.scalar = true)
  (hQ : ∀ H', Q (progV (if s.endM.fk ≠ 0 then (⟨[], []⟩, s.endM.fl, s.endM.fk) else (⟨vs, ts⟩, 0, 0))) H') : JoinP (S.f6_k1 Φ (.ptr i1 0) (.ptr i3 0) (.ptr id 0) (.ptr i21 0) fun v H' => Q v.weak H') [] H := by
 simp only [JoinP_def, S.f6_k1]
 refine p_end hT h.ps fun H61 k61 p61 => ?_
 have h2 := h.call k61 p61
 simp only [abox, if_true, DoH_some]
 rw [store_new H61 _ _ 2 rfl rfl rfl]
 have l1 : aload (H61.push (.row [.int .i64 s.endM.fl, .int .i64 s.endM.fk])) 1 false (.ptr H61.n 1) = some (.int .i64 s.endM.fk) := by rw [load_push]; rfl
 have l2 : aload (H61.push (.row [.int .i64 s.endM.fl, .int .i64 s.endM.fk])) 2 true (.ptr H61.n 0) = some (.agg [.int .i64 s.endM.fl, .int .i64 s.endM.fk]) := by rw [load_push]; rfl
 simp only [Do_of, afaddr, Nat.zero_add, l1, abin_neq, Gd_true]
 have b1 := h2.a1.push (.row [.int .i64 s.endM.fl, .int .i64 s.endM.fk])
 have b3 := h2.a3.push (.row [.int .i64 s.endM.fl, .int .i64 s.endM.fk])
 have b21 := h2.a21.push (.row [.int .i64 s.endM.fl, .int .i64 s.endM.fk])
 have b62 := At.new H61 (.row [.int .i64 s.endM.fl, .int .i64 s.endM.fk])
 have n1 : i1 < H61.n := h2.a1.1
 have n3 : i3 < H61.n := h2.a3.1
 have d13 := h.d13
 generalize H61.push (.row [.int .i64 s.endM.fl, .int .i64 s.endM.fk]) = H64 at l1 l2 b1 b3 b21 b62
 refine ite_both (fun hx => ?_) (fun hx => ?_)
 · have hb : s.endM.fk ≠ 0 := by simpa using hx
   rw [show abuild [.lst .nil 0 [], .lst .nil 0 []] [] = some (.agg [.lst .nil 0 [], .lst .nil 0 []]) from rfl]
   simp only [Do_of, l2]
   rw [b1.store, if_pos ⟨rfl, rfl, rfl, by simp⟩]
   simp only [Do_of]
   refine ⟨?_, ?_⟩
   · rw [(b62.set_ne (by omega) _).load]; rfl
   have e3 := b3.set_ne (i := i1) (by omega) (.row (setCells [AV.lst .nil 0 [], .lst .nil 0 []] 0 (AV.agg [.lst .nil 0 [], .lst .nil 0 []]).cells))
   have e1 := b1.set (.row (setCells [AV.lst .nil 0 [], .lst .nil 0 []] 0 (AV.agg [.lst .nil 0 [], .lst .nil 0 []]).cells))
   rw [e3.store, if_pos ⟨rfl, rfl, rfl, by simp⟩]
   simp only [Do_of]
   rw [(e1.set_ne d13 _).load, (e3.set _).load]
   refine (Do_of _ _).2 ((Do_of _ _).2 ?_)
   have := hQ ((H64.set i1 (.row (setCells [AV.lst .nil 0 [], .lst .nil 0 []] 0 (AV.agg [.lst .nil 0 [], .lst .nil 0 []]).cells))).set i3 (.row (setCells [AV.int .i64 0, .int .i64 0] 0 (AV.agg [.int .i64 s.endM.fl, .int .i64 s.endM.fk]).cells)))
   rw [if_pos hb] at this
   show Q (AV.tup [AV.agg [.lst .nil 0 [], .lst .nil 0 []], AV.agg [.int .i64 s.endM.fl, .int .i64 s.endM.fk]]).weak _
   rw [progW (x := ⟨[], []⟩) _ _ _ _ rfl rfl]
   exact this
 · have hb : ¬ s.endM.fk ≠ 0 := by simpa using hx
   have l21 : aload H64 2 true (.ptr i21 0) = some (.agg [L1, L2]) := by rw [b21.load]; rfl
   rw [l21]
   rw [show abuild [.int .i64 0, .int .i64 0] [] = some (.agg [.int .i64 0, .int .i64 0]) from rfl]
   simp only [Do_of]
   rw [b1.store, if_pos ⟨rfl, rfl, by simp [AV.cells, s1, s2], by simp⟩]
   simp only [Do_of]
   have e3 := b3.set_ne (i := i1) (by omega) (.row (setCells [AV.lst .nil 0 [], .lst .nil 0 []] 0 (AV.agg [L1, L2]).cells))
   have e1 := b1.set (.row (setCells [AV.lst .nil 0 [], .lst .nil 0 []] 0 (AV.agg [L1, L2]).cells))
   rw [e3.store, if_pos ⟨rfl, rfl, rfl, by simp⟩]
   simp only [Do_of]
   rw [(e1.set_ne d13 _).load, (e3.set _).load]
   refine (Do_of _ _).2 ((Do_of _ _).2 ?_)
   have := hQ ((H64.set i1 (.row (setCells [AV.lst .nil 0 [], .lst .nil 0 []] 0 (AV.agg [L1, L2]).cells))).set i3 (.row (setCells [AV.int .i64 0, .int .i64 0] 0 (AV.agg [.int .i64 0, .int .i64 0]).cells)))
   rw [if_neg hb] at this
   show Q (AV.tup [AV.agg [L1, L2], AV.agg [.int .i64 0, .int .i64 0]]).weak _
   rw [progW (x := ⟨vs, ts⟩) _ _ _ _ w1 w2]
   exact this
theorem own_scalar {n0 : Nat} {H : AH} {sz len : Nat} {x : AV} {cells : List AV} (h : OwnT n0 H sz x len cells) : x.scalar = true ∧ x.cells = [x] ∧ x.known = true := by
 obtain ⟨tk, rfl, _, _⟩ := h; exact ⟨rfl, rfl, rfl⟩
theorem thrs_loop (hT : Cl Φ S.tab_Lex) (hbl : ∀ n, BlockOK Φ kw val n) {L1 : AV} {vs : List GVar} (w1 : L1.weak = lstA GVar.cells vs) (s1 : L1.scalar = true) :
  ∀ (n : Nat) (H : AH) (s : PSt) (L2 : AV) (done : List (List GStmt)) (cs : List AV), PF H0 id i1 i3 i21 H s L1 L2 → Wf s → Few n s → (s.fk ≠ 0 ∨ done.length + s.toks.length ≤ 2000001) → OwnT H0.n H 1 L2 done.length cs → AV.weaks cs = done.flatMap thrCells →
  (∀ H', Q (progV (if (thrsM kw val n s).2.endM.fk ≠ 0 then (⟨[], []⟩, (thrsM kw val n s).2.endM.fl, (thrsM kw val n s).2.endM.fk) else (⟨vs, done ++ (thrsM kw val n s).1⟩, 0, 0))) H') →
  LoopP (S.f6_l2 Φ (.ptr i1 0) (.ptr i3 0) (.ptr id 0) (.ptr i21 0) fun v H' => Q v.weak H') ([], H) := by
 have out : ∀ (n : Nat) (H : AH) (s : PSt) (L2 : AV) (done : List (List GStmt)) (cs : List AV), PF H0 id i1 i3 i21 H s L1 L2 → OwnT H0.n H 1 L2 done.length cs → AV.weaks cs = done.flatMap thrCells → thrsM kw val n s = ([], s) →
   (∀ H', Q (progV (if (thrsM kw val n s).2.endM.fk ≠ 0 then (⟨[], []⟩, (thrsM kw val n s).2.endM.fl, (thrsM kw val n s).2.endM.fk) else (⟨vs, done ++ (thrsM kw val n s).1⟩, 0, 0))) H') →
   JoinP (S.f6_k1 Φ (.ptr i1 0) (.ptr i3 0) (.ptr id 0) (.ptr i21 0) fun v H' => Q v.weak H') [] H := by
  intro n H s L2 done cs h ow hcs em hQ
  rw [em] at hQ
  simp only [List.append_nil] at hQ
  obtain ⟨hs, _, _⟩ := own_scalar ow
  refine prog_fin hT h w1 ?_ s1 hs hQ
  obtain ⟨tk, rfl, _, _⟩ := ow
  simp only [AV.weak, hcs, lstA]
 intro n
 induction n with
 | zero =>
  intro H s L2 done cs h w f _ ow hcs hQ
  have hb := f.zero w
  refine LoopP.step ?_
  simp only [S.f6_l2]
  refine p_is hT h.ps fun H1 k1 p1 => ?_
  have hn : ¬ s.isW [116, 104, 114, 101, 97, 100] = true := fun e => hb (isW_hd e).1
  simp only [Gd_true]
  rw [if_neg hn]
  rw [isA_no hn] at p1
  exact out 0 H1 s L2 done cs (h.call k1 p1) (ow.keep h.hid k1) hcs (by unfold thrsM; rfl) hQ
 | succ n ih =>
  intro H s L2 done cs h w f hl ow hcs hQ
  refine LoopP.step ?_
  simp only [S.f6_l2]
  refine p_is hT h.ps fun H1 k1 p1 => ?_
  have h1 := h.call k1 p1
  have ow1 := ow.keep h.hid k1
  simp only [Gd_true]
  refine ite_both (fun hy => ?_) (fun hy => ?_)
  · rw [isA_yes hy] at h1
    have fa := f.isW w hy (by decide)
    have em : thrsM kw val (n + 1) s = ((blockF (stmtsM kw val n) 1 s.adv).1 :: (thrsM kw val n (blockF (stmtsM kw val n) 1 s.adv).2).1, (thrsM kw val n (blockF (stmtsM kw val n) 1 s.adv).2).2) := by
     conv => lhs; unfold thrsM
     rw [if_pos hy]
    rw [em] at hQ
    have hld : ∀ {H' : AH} {s'}, PF H0 id i1 i3 i21 H' s' L1 L2 → aload H' 1 false (.ptr i21 1) = some L2 := fun h => by rw [h.a21.load]; rfl
    simp only [afaddr, Do_of, Nat.zero_add, hld h1]
    have sb := Sub.block (Sub.stmts kw val n) 1 s.adv
    have ss := w.short (by rw [(isW_hd hy).2]; decide)
    refine hbl n _ _ _ _ _ h1.ps w.adv fa fun H2 k2 p2 => ?_
    have h2 := h1.call k2 p2
    have ow2 := ow1.keep h.hid k2
    generalize blockF (stmtsM kw val n) 1 s.adv = b at hQ sb h2
    refine ⟨hld h2, ?_⟩
    rw [show abslice H2 false 1 1 [.lst .nil 0 []] [(0, 1, lstA GStmt.cells b.1)] = some (.lst .full 1 [lstA GStmt.cells b.1], H2) from rfl]
    simp only [DoH_some]
    have hlen : done.length + s.toks.length ≤ 2000001 := by
     rcases hl with hl | hl
     · exact absurd (isW_hd hy).1 hl
     · exact hl
    refine ow2.app h2.kk.1 (m := 1) (news := [lstA GStmt.cells b.1]) rfl rfl rfl (by decide) (by omega) (by omega) fun x' H3 ow3 l3 => ?_
    have h3 := h2.left l3
    obtain ⟨hsx, hcx, hkx⟩ := own_scalar ow3
    rw [h3.a21.st (n := 1) (o := 1) (v := x') hkx (by rw [hcx]; rfl) (by rw [hcx]; simp [hsx]) (by simp), hcx]
    simp only [Do_of]
    rw [show setCells [L1, L2] 1 [x'] = [L1, x'] from rfl]
    have sb2 := sb.2.1
    refine ih _ b.2 x' (done ++ [b.1]) (cs ++ [lstA GStmt.cells b.1]) (h3.put L1 x') (sb.1 w.adv) (sb.few fa) ?_ ?_ ?_ ?_
    · by_cases hfk : b.2.fk = 0
      · exact .inr (by rw [List.length_append, List.length_singleton]; omega)
      · exact .inl hfk
    · rw [List.length_append, List.length_singleton]
      exact ow3.frame fun t a b ht => ht.set_ne (fun e => by subst e; have := ht.2.symm.trans h3.a21.2; cases this) _
    · rw [weaks_app, hcs, List.flatMap_append]
      simp only [AV.weaks, lstA_weak GStmt.weaks, List.flatMap_cons, List.flatMap_nil, thrCells, List.append_nil]
    · intro H'
      have := hQ H'
      rw [List.append_assoc]
      exact this
  · rw [isA_no hy] at h1
    exact out (n + 1) H1 s L2 done cs h1 ow1 hcs (by unfold thrsM; rw [if_neg hy]) hQ
theorem vars_loop (hT : Cl Φ S.tab_Lex) (hW : Wk Φ) (hkw : ∀ x, Val Φ K.f47 [.str x] (.bool (kw x))) (hv : NumV Φ val) (m : Nat) :
  ∀ (n : Nat) (H : AH) (s : PSt) (L1 : AV) (done : List GVar), PF H0 id i1 i3 i21 H s L1 (.lst .nil 0 []) → Wf s → Few n s → (s.fk ≠ 0 ∨ done.length + s.toks.length ≤ 2000001) → Few m s → OwnT H0.n H 7 L1 done.length (done.flatMap GVar.cells) →
  (∀ H', Q (progV (if (thrsM kw val m (varsM kw val n s).2).2.endM.fk ≠ 0 then (⟨[], []⟩, (thrsM kw val m (varsM kw val n s).2).2.endM.fl, (thrsM kw val m (varsM kw val n s).2).2.endM.fk) else (⟨done ++ (varsM kw val n s).1, (thrsM kw val m (varsM kw val n s).2).1⟩, 0, 0))) H') →
  LoopP (S.f6_l4 Φ (.ptr i1 0) (.ptr i3 0) (.ptr id 0) (.ptr i21 0) fun v H' => Q v.weak H') ([], H) := by
 have out : ∀ (n : Nat) (H : AH) (s : PSt) (L1 : AV) (done : List GVar), PF H0 id i1 i3 i21 H s L1 (.lst .nil 0 []) → Wf s → Few m s → OwnT H0.n H 7 L1 done.length (done.flatMap GVar.cells) → varsM kw val n s = ([], s) →
   (∀ H', Q (progV (if (thrsM kw val m (varsM kw val n s).2).2.endM.fk ≠ 0 then (⟨[], []⟩, (thrsM kw val m (varsM kw val n s).2).2.endM.fl, (thrsM kw val m (varsM kw val n s).2).2.endM.fk) else (⟨done ++ (varsM kw val n s).1, (thrsM kw val m (varsM kw val n s).2).1⟩, 0, 0))) H') →
   JoinP (S.f6_k3 Φ (.ptr i1 0) (.ptr i3 0) (.ptr id 0) (.ptr i21 0) fun v H' => Q v.weak H') [] H := by
  intro n H s L1 done h w f ow em hQ
  rw [em] at hQ
  simp only [List.append_nil] at hQ
  obtain ⟨hs, _, _⟩ := own_scalar ow
  have hw1 : L1.weak = lstA GVar.cells done := by
   have hs : AV.weaks (done.flatMap GVar.cells) = done.flatMap GVar.cells := by
    clear ow hQ h
    induction done with
    | nil => rfl
    | cons v r ih => rw [List.flatMap_cons, weaks_app, GVar.weaks, ih]
   rw [ow.weak hs]; rfl
  simp only [JoinP_def, S.f6_k3]
  exact thrs_loop hT (p_block hT hW hkw hv) hw1 hs m H s (.lst .nil 0 []) [] [] h w f (.inr (by have := h.ps.2.1; simp only [List.length_nil]; omega)) (OwnT.nil _ _ _) rfl hQ
 intro n
 induction n with
 | zero =>
  intro H s L1 done h w f _ fm ow hQ
  have hb := f.zero w
  refine LoopP.step ?_
  simp only [S.f6_l4]
  refine p_is hT h.ps fun H1 k1 p1 => ?_
  have hn : ¬ s.isW [118, 97, 114] = true := fun e => hb (isW_hd e).1
  simp only [Gd_true]
  rw [if_neg hn]
  rw [isA_no hn] at p1
  exact out 0 H1 s L1 done (h.call k1 p1) w fm (ow.keep h.hid k1) (by unfold varsM; rfl) hQ
 | succ n ih =>
  intro H s L1 done h w f hl fm ow hQ
  refine LoopP.step ?_
  simp only [S.f6_l4]
  refine p_is hT h.ps fun H1 k1 p1 => ?_
  have h1 := h.call k1 p1
  have ow1 := ow.keep h.hid k1
  simp only [Gd_true]
  refine ite_both (fun hy => ?_) (fun hy => ?_)
  · rw [isA_yes hy] at h1
    have fa := f.isW w hy (by decide)
    have em : varsM kw val (n + 1) s = (⟨s.adv.nameT kw, (typM kw val n 1 (s.adv.nameS kw)).1⟩ :: (varsM kw val n ((typM kw val n 1 (s.adv.nameS kw)).2.want [59])).1, (varsM kw val n ((typM kw val n 1 (s.adv.nameS kw)).2.want [59])).2) := by
     conv => lhs; unfold varsM
     rw [if_pos hy]
    rw [em] at hQ
    have hld : ∀ {H' : AH} {s'}, PF H0 id i1 i3 i21 H' s' L1 (.lst .nil 0 []) → aload H' 1 false (.ptr i21 0) = some L1 := fun h => by rw [h.a21.load]; rfl
    simp only [afaddr, Do_of, Nat.zero_add, hld h1]
    have ss := w.short (by rw [(isW_hd hy).2]; decide)
    refine p_name hT hkw h1.ps fun H2 k2 p2 => ?_
    have h2 := h1.call k2 p2
    have ow2 := ow1.keep h.hid k2
    refine ⟨hld h2, ?_⟩
    have sn := Sub.nameS kw s.adv
    have st := Sub.typ kw val n 1 (s.adv.nameS kw)
    refine p_typ hT hW hkw hv n _ _ _ _ _ h2.ps (sn.1 w.adv) (sn.few fa) fun H4 k4 p4 => ?_
    have h4 := h2.call k4 p4
    have ow4 := ow2.keep h.hid k4
    generalize typM kw val n 1 (s.adv.nameS kw) = t at hQ st h4
    refine ⟨hld h4, ?_⟩
    have hb : abuild [.str [], .int .i64 0, .int .i64 0, .bool false, .lst .nil 0 [], .int .i64 0, .lst .nil 0 []] [(0, 1, .str (s.adv.nameT kw)), (1, 6, .agg t.1.cells)] = some (.agg (GVar.cells ⟨s.adv.nameT kw, t.1⟩)) := by
     show abuild _ _ = some (.agg (.str (s.adv.nameT kw) :: t.1.cells))
     rw [GType.cells_eq]; rfl
    rw [hb]
    simp only [Do_of]
    rw [agg7_slice]
    simp only [DoH_some]
    have hlen : done.length + s.toks.length ≤ 2000001 := by
     rcases hl with hl | hl
     · exact absurd (isW_hd hy).1 hl
     · exact hl
    refine ow4.app h4.kk.1 (m := 1) (news := GVar.cells ⟨s.adv.nameT kw, t.1⟩) (by simp [acells, GVar.len]) (by rw [GVar.len]) (GVar.scalar _) (by decide) (by omega) (by omega) fun x' H3 ow3 l3 => ?_
    have h3 := h4.left l3
    obtain ⟨hsx, hcx, hkx⟩ := own_scalar ow3
    rw [h3.a21.st (n := 1) (o := 0) (v := x') hkx (by rw [hcx]; rfl) (by rw [hcx]; simp [hsx]) (by simp), hcx]
    simp only [Do_of]
    rw [show setCells [L1, AV.lst .nil 0 []] 0 [x'] = [x', .lst .nil 0 []] from rfl]
    have h5 := h3.put x' (.lst .nil 0 [])
    have ow5 : OwnT H0.n (H3.set i21 (.row [x', .lst .nil 0 []])) 7 x' (done.length + 1) (done.flatMap GVar.cells ++ GVar.cells ⟨s.adv.nameT kw, t.1⟩) := ow3.frame fun t a b ht => ht.set_ne (fun e => by subst e; have := ht.2.symm.trans h3.a21.2; cases this) _
    have sw := Sub.want t.2 [59]
    have sall := (sn.trans st).trans sw
    refine p_want hT h5.ps fun H6 k6 p6 => ?_
    refine ih _ (t.2.want [59]) x' (done ++ [⟨s.adv.nameT kw, t.1⟩]) (h5.call k6 p6) (sall.1 w.adv) (sall.few fa) ?_ (sall.few fm.adv) ?_ ?_
    · by_cases hfk : (t.2.want [59]).fk = 0
      · exact .inr (by have := sall.2.1; rw [List.length_append, List.length_singleton]; omega)
      · exact .inl hfk
    · rw [List.length_append, List.length_singleton, List.flatMap_append, List.flatMap_cons, List.flatMap_nil, List.append_nil]
      exact ow5.keep h.hid k6
    · intro H'
      have := hQ H'
      rw [List.append_assoc]
      exact this
  · rw [isA_no hy] at h1
    exact out (n + 1) H1 s L1 done h1 w fm ow1 (by unfold varsM; rw [if_neg hy]) hQ
end
theorem p_Prog (hT : Cl Φ S.tab_Lex) (hW : Wk Φ) (hkw : ∀ x, Val Φ K.f47 [.str x] (.bool (kw x))) (hv : NumV Φ val) {num : List UInt8 → Bool} (htok : ∀ s, Val Φ K.f42 [.str s] (lexV2 (lexM num s))) (s : List UInt8) {H : AH} {Q : Post} (hQ : ∀ H', Q (progV (parseP num kw val s)) H') : Φ K.f6 [.str s] H Q := by
 refine hW _ _ _ _ (S.cl_f6 hT ?_)
 unfold S.f6
 simp only [abox, if_true, DoH_some]
 have a1 : At ((H.push (.row [.lst .nil 0 [], .lst .nil 0 []])).push (.row [.int .i64 0, .int .i64 0])) H.n (.row [.lst .nil 0 [], .lst .nil 0 []]) := (At.new H _).push _
 have a3 : At ((H.push (.row [.lst .nil 0 [], .lst .nil 0 []])).push (.row [.int .i64 0, .int .i64 0])) (H.n + 1) (.row [.int .i64 0, .int .i64 0]) := At.new (H.push _) _
 have hn2 : (H.push (.row [.lst .nil 0 [], .lst .nil 0 []])).n = H.n + 1 := rfl
 have hn4 : ((H.push (.row [.lst .nil 0 [], .lst .nil 0 []])).push (.row [.int .i64 0, .int .i64 0])).n = H.n + 2 := rfl
 rw [hn2]
 generalize (H.push (.row [.lst .nil 0 [], .lst .nil 0 []])).push (.row [.int .i64 0, .int .i64 0]) = H4 at a1 a3 hn4
 refine p_begin hT htok s fun H6 x6 => ?_
 have b1 := a1.ext x6
 have b3 := a3.ext x6
 unfold parseP at hQ
 cases hM : lexM num s with
 | error e =>
  rw [hM] at hQ
  have hne : e.2 ≠ 0 := lexM_err hM
  simp only [aextract, List.getElem?_cons_zero, List.getElem?_cons_succ, Do_of]
  rw [store_new H6 _ _ 2 rfl rfl rfl]
  have l1 : aload (H6.push (.row [.int .i64 e.1, .int .i64 e.2])) 1 false (.ptr H6.n 1) = some (.int .i64 e.2) := by rw [load_push]; rfl
  have l2 : aload (H6.push (.row [.int .i64 e.1, .int .i64 e.2])) 2 true (.ptr H6.n 0) = some (.agg [.int .i64 e.1, .int .i64 e.2]) := by rw [load_push]; rfl
  have c1 := b1.push (.row [.int .i64 e.1, .int .i64 e.2])
  have c3 := b3.push (.row [.int .i64 e.1, .int .i64 e.2])
  have c9 := At.new H6 (.row [.int .i64 e.1, .int .i64 e.2])
  have hn6 : H.n + 1 < H6.n := b3.1
  simp only [Do_of, afaddr, Nat.zero_add, l1, abin_neq, Gd_true]
  rw [if_pos (by simpa using hne)]
  rw [show abuild [.lst .nil 0 [], .lst .nil 0 []] [] = some (.agg [.lst .nil 0 [], .lst .nil 0 []]) from rfl]
  simp only [Do_of, l2]
  generalize H6.push (.row [.int .i64 e.1, .int .i64 e.2]) = H7 at c1 c3 c9
  rw [c1.store, if_pos ⟨rfl, rfl, rfl, by simp⟩]
  simp only [Do_of]
  refine ⟨?_, ?_⟩
  · rw [(c9.set_ne (by omega) _).load]; rfl
  have e3 := c3.set_ne (i := H.n) (by omega) (.row (setCells [AV.lst .nil 0 [], .lst .nil 0 []] 0 (AV.agg [.lst .nil 0 [], .lst .nil 0 []]).cells))
  have e1 := c1.set (.row (setCells [AV.lst .nil 0 [], .lst .nil 0 []] 0 (AV.agg [.lst .nil 0 [], .lst .nil 0 []]).cells))
  rw [e3.store, if_pos ⟨rfl, rfl, rfl, by simp⟩]
  simp only [Do_of]
  rw [(e1.set_ne (by omega) _).load, (e3.set _).load]
  refine (Do_of _ _).2 ((Do_of _ _).2 ?_)
  show Q (AV.tup [AV.agg [.lst .nil 0 [], .lst .nil 0 []], AV.agg [.int .i64 e.1, .int .i64 e.2]]).weak _
  rw [progW (x := ⟨[], []⟩) _ _ _ _ rfl rfl]
  exact hQ _
 | ok ws =>
  rw [hM] at hQ
  intro id hid p6
  obtain ⟨hwf, hlen⟩ := begin_wf hM
  simp only [aextract, List.getElem?_cons_zero, List.getElem?_cons_succ, Do_of]
  rw [store_new H6 _ _ 2 rfl rfl rfl]
  have l1 : aload (H6.push (.row [.int .i64 0, .int .i64 0])) 1 false (.ptr H6.n 1) = some (.int .i64 0) := by rw [load_push]; rfl
  have c1 := b1.push (.row [.int .i64 0, .int .i64 0])
  have c3 := b3.push (.row [.int .i64 0, .int .i64 0])
  have p7 := p6.pushL (.row [.int .i64 0, .int .i64 0])
  simp only [Do_of, afaddr, Nat.zero_add, l1, abin_neq, Gd_true]
  rw [if_neg (by decide)]
  have hid6 := lt_of_ps p7
  generalize H6.push (.row [.int .i64 0, .int .i64 0]) = H7 at c1 c3 p7 hid6
  have pf : PF H7 id H.n (H.n + 1) H7.n (H7.push (.row [.lst .nil 0 [], .lst .nil 0 []])) (beginM ws) (.lst .nil 0 []) (.lst .nil 0 []) :=
   ⟨hid6, c1.1, c3.1, by omega, by omega, by omega, Nat.le_refl _, KeepP.push _ _ _, p7.pushL _, c1.push _, c3.push _, At.new _ _⟩
  have hlen' : (beginM ws).toks.length = ws.length + 1 := by show (ws ++ _).length = _; simp
  exact vars_loop hT hW hkw hv (beginM ws).toks.length (beginM ws).toks.length _ _ _ [] pf hwf (.inr (Nat.le_refl _)) (.inr (by rw [List.length_nil, hlen']; omega)) (.inr (Nat.le_refl _)) (OwnT.nil _ _ _) hQ
end
end Rb

namespace Rb
open Go
theorem two_rows {H : AH} {P F z1 z2 : List AV} (hP : P.length = 2) (hF : F.length = 2) (sP : P.all AV.scalar = true) (sF : F.all AV.scalar = true) (l1 : z1.length = 2) (l2 : z2.length = 2) {K : AV → AV → AH → Prop}
  (hK : ∀ H' i j, AH.Ext H H' → i ≠ j → At H' i (.row P) → At H' j (.row F) → K (.ptr i 0) (.ptr j 0) H') :
  DoH (some (abox H true z1)) fun x18 H19 => DoH (some (abox H19 true z2)) fun x20 H21 => Do (astore H21 2 x18 (.agg P)) fun H22 => Do (astore H22 2 x20 (.agg F)) fun H23 => K x18 x20 H23 := by
 simp only [abox, if_true, DoH_some]
 have a1 : At ((H.push (.row z1)).push (.row z2)) H.n (.row z1) := (At.new H _).push _
 have a2 : At ((H.push (.row z1)).push (.row z2)) (H.n + 1) (.row z2) := At.new (H.push _) _
 have hn : (H.push (.row z1)).n = H.n + 1 := rfl
 rw [hn]
 rw [a1.st (n := 2) (o := 0) (v := .agg P) rfl hP sP (by omega)]
 simp only [Do_of, AV.cells]
 rw [setCells_all (by omega)]
 have b1 := a1.set (.row (List.take 0 z1 ++ P))
 have b2 := a2.set_ne (i := H.n) (by omega) (.row (List.take 0 z1 ++ P))
 rw [b2.st (n := 2) (o := 0) (v := .agg F) rfl hF sF (by omega)]
 simp only [Do_of, AV.cells]
 rw [setCells_all (by omega)]
 refine hK _ H.n (H.n + 1) ?_ (by omega) (b1.set_ne (by omega) _) (b2.set _)
 exact ((((AH.Ext.push H _).trans (AH.Ext.push _ _)).set (Nat.le_refl _) _).set (Nat.le_succ _) _)
section
variable {Φ : Calls'} {U : TypeId} {H : AH} {Q : Post}
theorem runW_flat {α : Type} (f : α → List Wd) (x : α) (r : List α) (st : List UInt8) : runW ((x :: r).flatMap f) st = runW (r.flatMap f) (runW (f x) st) := by rw [List.flatMap_cons, runW_app]
def printV (r : List UInt8 × Int) : AV := .tup [.str r.1, .int .i64 r.2]
theorem bnew_ok (H : AH) {T : TypeId} : ∃ H', aext H (.bnew T) [.agg [.nilp, .lst .nil 0 []]] = some (.ptr H.n 0, H') ∧ BldAt T U H' H.n [] ∧ H'.n = H.n + 1 :=
 ⟨H.push (.bld T false none), rfl, ⟨Nat.lt_succ_self _, .inl ⟨false, AH.push_self _ _, rfl⟩⟩, rfl⟩
theorem prog_says (hT : Cl Φ S.tab_Lex) (hB : BKit Φ 79 U) {pa : List UInt8 → GProg × Int × Int} (hpa : ∀ s, Val Φ K.f6 [.str s] (progV (pa s))) {p : GProg} (hp : p.pok) (hf : p.fin)
  (hQ : ∀ H', Q (.tup [.str (printM pa p).1, .int .i64 (printM pa p).2]) H') : Φ K.f8 [.agg p.cells] H Q := by
 refine S.cl_f8 hT ?_
 unfold S.f8
 obtain ⟨⟨hv1, hv2⟩, ht1, ht2⟩ := hp
 unfold maxLen at hv1 ht1
 simp only [Ac.gbox, DoH_some]
 rw [show abuild [.nilp, .lst .nil 0 []] [] = some (.agg [.nilp, .lst .nil 0 []]) from rfl]
 simp only [Do_of]
 obtain ⟨H0, hn, hb, hn0⟩ := bnew_ok (U := U) H (T := 79)
 rw [hn]
 simp only [DoH_some, Ac.addr, Ac.g0, Do_of, lstA_len']
 have k3 : ∀ H1, BldAt 79 U H1 H.n p.text → JoinP (S.f8_k3 Φ (.fptr p.cells) (.ptr H.n 0) Q) [] H1 := by
  intro H1 hb1
  simp only [JoinP_def, S.f8_k3, Ac.nilckp, Ac.addrp, Do_of]
  refine hB.text hb1 fun H2 hb2 hk2 => ?_
  refine hpa p.text H2 _ ?_
  obtain ⟨⟨q, fl, fk⟩, hpq⟩ : ∃ r, pa p.text = r := ⟨_, rfl⟩
  rw [hpq]
  have hp1 : (fk ≠ 0 ∨ p.er ≠ q.er) → printM pa p = ([], 4) := fun h => by unfold printM; rw [hpq, if_pos h]
  have hp2 : ¬ (fk ≠ 0 ∨ p.er ≠ q.er) → printM pa p = (p.text, 0) := fun h => by unfold printM; rw [hpq, if_neg h]
  simp only [progV]
  rw [show aextract 0 (.tup [.agg q.cells, .agg [.int .i64 fl, .int .i64 fk]]) = some (.agg q.cells) from rfl, show aextract 1 (.tup [.agg q.cells, .agg [.int .i64 fl, .int .i64 fk]]) = some (.agg [.int .i64 fl, .int .i64 fk]) from rfl]
  simp only [Do_of]
  have k2 : ∀ (b : Bool) (H' : AH), (b = true ↔ (fk ≠ 0 ∨ p.er ≠ q.er)) → JoinP (S.f8_k2 Φ (.str p.text) Q) [.bool b] H' := by
   intro b H' hbb
   simp only [JoinP_def, S.f8_k2, S.f8_k1, sl_zero, Gd_true]
   refine bool_ite8 (fun h => ?_) (fun h => ?_)
   · have := hQ H'
     rw [hp1 (hbb.1 h)] at this
     exact this
   · have hn : ¬ (fk ≠ 0 ∨ p.er ≠ q.er) := fun e => by rw [hbb.2 e] at h; cases h
     have := hQ H'
     rw [hp2 hn] at this
     exact this
  refine two_rows (P := q.cells) (F := [.int .i64 fl, .int .i64 fk]) (z1 := [.lst .nil 0 [], .lst .nil 0 []]) (z2 := [.int .i64 0, .int .i64 0]) rfl rfl (by simp [GProg.cells, lstA, AV.scalar]) rfl rfl rfl (K := fun x59 x61 H64 => _) fun H3 i j _ _ hi hj => ?_
  simp only [Ac.addrp, Do_of, Nat.zero_add]
  rw [Ac.rowl hj.2, show takeCells [.int .i64 fl, .int .i64 fk] 1 1 false = some (.int .i64 fk) from rfl]
  simp only [Do_of, abin_neq, Gd3_false]
  refine bool_itef8 (fun h => ?_) (fun h => ?_)
  · have hk0 : fk = 0 := by simpa using h
    rw [Ac.gall, Ac.rowl hi.2, show takeCells q.cells 0 2 true = some (.agg q.cells) from rfl]
    simp only [Do_of]
    refine Same_says hT hf q _ _ fun b H4 hb4 => ?_
    simp only [aun_not, Do_of]
    refine k2 _ H4 ?_
    rw [hk0]
    cases b
    · simp only [Bool.not_false, true_iff]
      exact .inr fun e => by have := hb4.2 e; cases this
    · simp only [Bool.not_true, Bool.false_eq_true, false_iff]
      exact fun e => e.elim (fun e => e rfl) fun e => e (hb4.1 rfl)
  · have hk0 : fk ≠ 0 := by simpa using h
    exact k2 _ H3 (by simp [hk0])
 have k5 : ∀ H1, BldAt 79 U H1 H.n (runW (p.vars.flatMap GVar.W) []) → JoinP (S.f8_k5 Φ (.fptr p.cells) (.ptr H.n 0) Q) [] H1 := by
  intro H1 hb1
  simp only [JoinP_def, S.f8_k5, Ac.addr, Ac.g1, Do_of, lstA_len']
  have main : ∀ (ys : List (List GStmt)) (i : Nat) (H2 : AH) (s1 : List UInt8), p.threads.drop i = ys → BldAt 79 U H2 H.n s1 → runW (ys.flatMap thrW) s1 = p.text →
    LoopP (S.f8_l4 Φ (.fptr p.cells) (.ptr H.n 0) (lstA thrCells p.threads) (.int .i64 p.threads.length) Q) ([.int .i64 i], H2) := by
   intro ys
   induction ys with
   | nil =>
    intro i H2 s1 hi hb2 hr
    have hle := drop_nil_le hi
    refine LoopP.step ?_
    simp only [S.f8_l4, sl_zero, abin_lss, Do_of, Gd_true]
    rw [if_neg (by simp only [decide_eq_true_eq]; omega)]
    refine k3 H2 ?_
    rw [← hr]; exact hb2
   | cons y ys ih =>
    intro i H2 s1 hi hb2 hr
    obtain ⟨hlt, hy, hd⟩ := drop_cons_lt hi
    have hty := ht2 y (List.mem_of_getElem? hy)
    refine LoopP.step ?_
    simp only [S.f8_l4, sl_zero, abin_lss, Do_of, Gd_true]
    rw [if_pos (by simp only [decide_eq_true_eq]; omega), lstA_addr hlt]
    simp only [Do_of]
    rw [Ac.thr H2 hy]
    simp only [Do_of]
    refine put1 hT hB hb2 (by decide) fun H3 hb3 hk3 => ?_
    refine block_puts hT hB hty.1 (stmts_all hT hB y (GStmt.poks_iff.2 hty.2)) hb3 fun H4 hb4 hk4 => ?_
    simp only [abin_add, Do_of]
    rw [wrap_i64 (by omega) (by omega), show ((i : Int) + 1) = ((i + 1 : Nat) : Int) by simp]
    refine ih (i + 1) H4 _ hd hb4 ?_
    rw [← hr, runW_flat]
    rfl
  refine main p.threads 0 H1 _ rfl hb1 ?_
  unfold GProg.text GProg.W
  rw [runW_app]
 have main : ∀ (ys : List GVar) (i : Nat) (H2 : AH) (s1 : List UInt8), p.vars.drop i = ys → BldAt 79 U H2 H.n s1 → runW (ys.flatMap GVar.W) s1 = runW (p.vars.flatMap GVar.W) [] →
   LoopP (S.f8_l6 Φ (.fptr p.cells) (.ptr H.n 0) (lstA GVar.cells p.vars) (.int .i64 p.vars.length) Q) ([.int .i64 i], H2) := by
  intro ys
  induction ys with
  | nil =>
   intro i H2 s1 hi hb2 hr
   have hle := drop_nil_le hi
   refine LoopP.step ?_
   simp only [S.f8_l6, sl_zero, abin_lss, Do_of, Gd_true]
   rw [if_neg (by simp only [decide_eq_true_eq]; omega)]
   refine k5 H2 ?_
   rw [← hr]; exact hb2
  | cons y ys ih =>
   intro i H2 s1 hi hb2 hr
   obtain ⟨hlt, hy, hd⟩ := drop_cons_lt hi
   have hty := hv2 y (List.mem_of_getElem? hy)
   have hidn := hb2.1
   refine LoopP.step ?_
   simp only [S.f8_l6, sl_zero, abin_lss, Do_of, Gd_true]
   rw [if_pos (by simp only [decide_eq_true_eq]; omega), lstA_addr hlt]
   simp only [Do_of]
   rw [elA_load GVar.len (by decide) H2 hy]
   simp only [Do_of, DoH_some, abox, if_true]
   rw [store_new H2 _ y.cells 7 y.len y.scalar rfl]
   have hrow : (H2.push (.row y.cells)).o H2.n = .row y.cells := AH.push_self _ _
   have l7 : y.cells.length = 7 := y.len
   simp only [Do_of, Ac.addrp, Nat.zero_add]
   rw [Ac.rowf hrow (by omega), Ac.v0]
   simp only [Do_of]
   refine put2 hT hB (hb2.push _) (by decide) hty.1 fun H3 hb3 hk3 => ?_
   have hrow3 : H3.o H2.n = .row y.cells := hk3.row (Nat.lt_succ_self _) (by omega) hrow
   rw [Ac.rowf hrow3 (by omega), Ac.v1]
   simp only [Do_of]
   refine typ_all hT hB y.type hty.2 hb3 fun H4 hb4 hk4 => ?_
   refine put1 hT hB hb4 (by decide) fun H5 hb5 hk5 => ?_
   simp only [abin_add, Do_of]
   rw [wrap_i64 (by omega) (by omega), show ((i : Int) + 1) = ((i + 1 : Nat) : Int) by simp]
   refine ih (i + 1) H5 _ hd hb5 ?_
   rw [← hr, runW_flat]
   simp only [GVar.W, runW_cons, runW_app, runW_nil]
 exact main p.vars 0 H0 [] rfl hb rfl
end
end Rb

namespace Rb
open Go
def kwTextX : List UInt8 := [118, 97, 114, 32, 116, 104, 114, 101, 97, 100, 32, 115, 116, 114, 117, 99, 116, 32, 117, 110, 105, 111, 110, 32, 112, 97, 99, 107, 101, 100, 32, 117, 56, 32, 117, 49, 54, 32, 117, 51, 50, 32, 117, 54, 52, 32, 97, 56, 32, 97, 49, 54, 32, 97, 51, 50, 32, 97, 54, 52, 32, 97, 49, 50, 56, 32, 108, 101, 116, 32, 115, 101, 116, 32, 119, 114, 105, 116, 101, 32, 115, 116, 111, 114, 101, 32, 108, 111, 97, 100, 50, 32, 115, 116, 111, 114, 101, 50, 32, 102, 101, 110, 99, 101, 32, 105, 102, 32, 101, 108, 115, 101, 32, 119, 104, 105, 108, 101, 32, 112, 114, 105, 110, 116, 32, 114, 101, 97, 100, 32, 108, 111, 97, 100, 32, 97, 100, 100, 32, 115, 119, 97, 112, 32, 99, 97, 115, 32, 114, 108, 120, 32, 97, 99, 113, 32, 114, 101, 108, 32, 115, 99]
def kwsX : List (List UInt8) := [[118, 97, 114], [116, 104, 114, 101, 97, 100], [115, 116, 114, 117, 99, 116], [117, 110, 105, 111, 110], [112, 97, 99, 107, 101, 100], [117, 56], [117, 49, 54], [117, 51, 50], [117, 54, 52], [97, 56], [97, 49, 54], [97, 51, 50], [97, 54, 52], [97, 49, 50, 56], [108, 101, 116], [115, 101, 116], [119, 114, 105, 116, 101], [115, 116, 111, 114, 101], [108, 111, 97, 100, 50], [115, 116, 111, 114, 101, 50], [102, 101, 110, 99, 101], [105, 102], [101, 108, 115, 101], [119, 104, 105, 108, 101], [112, 114, 105, 110, 116], [114, 101, 97, 100], [108, 111, 97, 100], [97, 100, 100], [115, 119, 97, 112], [99, 97, 115], [114, 108, 120], [97, 99, 113], [114, 101, 108], [115, 99]]
def kwX (s : List UInt8) : Bool := kwsX.any fun x => s == x
theorem abin_streqK (s t : List UInt8) : abin .eql (.str s) (.str t) = some (.bool (s == t)) := rfl
theorem idxI_any {α : Type} (p : α → Bool) (xs : List α) : decide (idxI (xs.findIdx? p) ≥ 0) = xs.any p := by
 cases hf : xs.findIdx? p with
 | none =>
  rw [List.findIdx?_eq_none_iff] at hf
  have : xs.any p = false := by simpa using hf
  rw [this]; rfl
 | some i =>
  obtain ⟨hi, h1, _⟩ := List.findIdx?_eq_some_iff_getElem.1 hf
  have : xs.any p = true := by rw [List.any_eq_true]; exact ⟨xs[i], List.getElem_mem hi, h1⟩
  rw [this]; simp [idxI]
section
variable {Φ : Calls'} {H : AH} {Q : Post}
theorem Index_gen {a : AV} {xs : List (List UInt8)} {t : List UInt8} (hlen : alen false a = some (.int .i64 xs.length)) (hr : ∀ (i : Nat) x, xs[i]? = some x → ∃ p, aiaddr none 1 a (.int .i64 i) = some p ∧ aload H 1 false p = some (.str x)) (hb : xs.length ≤ 9223372036854775807)
  (hQ : Q (.int .i64 (idxI (xs.findIdx? fun x => t == x))) H) : S.f107 Φ a (.str t) H Q := by
 unfold S.f107
 rw [hlen]
 simp only [Do_of]
 have main : ∀ (ys : List (List UInt8)) (i : Nat), xs.drop i = ys → Q (.int .i64 (idxI ((ys.findIdx? fun x => t == x).map (· + i)))) H → LoopP (S.f107_l1 Φ a (.str t) (.int .i64 xs.length) Q) ([.int .i64 i], H) := by
  intro ys
  induction ys with
  | nil =>
   intro i hi hq
   have hle := drop_nil_le hi
   refine LoopP.step ?_
   simp only [S.f107_l1, sl_zero, abin_lss, Do_of, Gd_true]
   rw [if_neg (by simp only [decide_eq_true_eq]; omega)]
   simpa [idxI] using hq
  | cons y ys ih =>
   intro i hi hq
   obtain ⟨hlt, hy, hd⟩ := drop_cons_lt hi
   obtain ⟨p, h1, h2⟩ := hr i y hy
   refine LoopP.step ?_
   simp only [S.f107_l1, sl_zero, abin_lss, Do_of, Gd_true]
   rw [if_pos (by simp only [decide_eq_true_eq]; omega), h1]
   simp only [Do_of]
   rw [h2]
   simp only [Do_of, abin_streqK, Gd_true]
   rw [List.findIdx?_cons] at hq
   by_cases he : (t == y) = true
   · rw [if_pos he]
     rw [if_pos he] at hq
     simpa [idxI] using hq
   · rw [if_neg he]
     rw [if_neg he] at hq
     simp only [abin_add, Do_of]
     rw [wrap_i64 (by omega) (by omega), show ((i : Int) + 1) = ((i + 1 : Nat) : Int) by simp]
     refine ih (i + 1) hd ?_
     have : (List.findIdx? (fun x => t == x) ys).map (· + (i + 1)) = ((List.findIdx? (fun x => t == x) ys).map (· + 1)).map (· + i) := by
      rw [Option.map_map]; congr 1; funext k; simp only [Function.comp]; omega
     rw [this]; exact hq
 refine main xs 0 rfl ?_
 simpa using hQ
theorem Contains_gen (hT : Cl Φ S.tab_Lex) {a : AV} {xs : List (List UInt8)} {t : List UInt8} (hlen : alen false a = some (.int .i64 xs.length)) (hr : ∀ (i : Nat) x, xs[i]? = some x → ∃ p, aiaddr none 1 a (.int .i64 i) = some p ∧ aload H 1 false p = some (.str x)) (hb : xs.length ≤ 9223372036854775807)
  (hQ : Q (.bool (xs.any fun x => t == x)) H) : Φ K.f81 [a, .str t] H Q := by
 refine S.cl_f81 hT ?_
 unfold S.f81
 refine S.cl_f107 hT (Index_gen hlen hr hb ?_)
 simp only [abin_geq, Do_of, idxI_any]
 exact hQ
end
section
variable {C : Ctx} (hGT : GTok C) (hT : Cl (ACall C) S.tab_Lex)
include hGT hT
theorem Keyword_val (hF : ∀ (H : AH) (Q : Post), Q (.lst .dead 34 (kwsX.map .str)) H → ACall C K.f82 [.str kwTextX] H Q) (s : List UInt8) : Val (ACall C) K.f47 [.str s] (.bool (kwX s)) := by
 intro H Q hQ
 refine S.cl_f47 hT ?_
 unfold S.f47
 refine hF _ _ ?_
 refine Contains_gen hT (xs := kwsX) rfl (fun i x hx => ?_) (by decide) hQ
 have hlt := (List.getElem?_eq_some_iff.1 hx).1
 refine ⟨.fptr ((kwsX.map AV.str).drop (i * 1)), ?_, ?_⟩
 · simp only [aiaddr]
   have hl : kwsX.length = 34 := rfl
   rw [if_pos ⟨by omega, by omega⟩]
   simp
 · show takeCells _ 0 1 false = _
   unfold takeCells
   rw [if_pos (by rw [List.length_drop, List.length_map]; omega)]
   simp [hx]
theorem Prog_val {num kw : List UInt8 → Bool} {val : List UInt8 → Int} (hkw : ∀ x, Val (ACall C) K.f47 [.str x] (.bool (kw x))) (hv : NumV (ACall C) val) (hnum : NumS (ACall C) num) (hidx : IdxS (ACall C)) (s : List UInt8) : Val (ACall C) K.f6 [.str s] (progV (parseP num kw val s)) :=
 Val.of hGT rfl (by
   have h1 : ∀ vs : List GVar, (lstA GVar.cells vs).froz = true := fun vs => lstA_froz GVar.froz vs
   have h2 : ∀ ts : List (List GStmt), (lstA thrCells ts).froz = true := fun ts => lstA_froz (fun t => by simp only [thrCells, AV.frozs, lstA_froz GStmt.froz, Bool.and_self]) ts
   simp only [progV, GProg.cells, AV.froz, AV.frozs, h1, h2, Bool.and_self]) fun Q hQ => p_Prog hT (ACall.wk C) hkw hv (Tokens_val2 hGT hT hnum hidx) s hQ
end
end Rb

namespace Go.Proofs.YtbkkoplgicffgaaGreatDoor.rb
open Rb
theorem awake10 : Val (ACall C) K.f7 [] (.bool true) := fun H Q hQ => RbM10_rootok0 K.f7 [] (.bool true) rfl H Q hQ
theorem fieldsOK (H : AH) (Q : Post) (hQ : Q (.lst .dead 34 (kwsX.map .str)) H) : ACall C K.f82 [.str kwTextX] H Q := RbM100_ok K.f82 [.str kwTextX] _ (by kernel_rfl) H Q hQ
theorem kwOK (s : List UInt8) : Val (ACall C) K.f47 [.str s] (.bool (kwX s)) := Keyword_val gtC cl_Lex fieldsOK s
theorem progOK (s : List UInt8) : Val (ACall C) K.f6 [.str s] (progV (parseP numX kwX valX s)) := Prog_val gtC cl_Lex kwOK valOK numOK idxOK s
theorem kitOK : BKit (ACall C) 79 5 where
 write := fun hb s h1 h2 hQ => writeOK hb s h1 h2 hQ
 len := fun hb hQ => lenOK hb hQ
 text := fun hb hQ => textOK hb hQ
 itoa := fun n H Q h0 h1 hQ => itoaOK n h0 h1 H Q hQ
 fmt := fun n H Q h hQ => fmtOK n (by omega) H Q hQ
theorem printOK (p : GProg) (hp : p.pok) (hf : p.fin) : Val (ACall C) K.f8 [.agg p.cells] (printV (printM (parseP numX kwX valX) p)) :=
 Val.of gtC (by simp only [AV.frozs, AV.froz, GProg.froz, Bool.and_self]) rfl fun Q hQ => prog_says cl_Lex kitOK progOK hp hf hQ
end Go.Proofs.YtbkkoplgicffgaaGreatDoor.rb

namespace Rb
open Go
def PSt.at (r : PSt) (R : List (Wd × Int)) : PSt := ⟨R, r.fl, 0⟩
def hdW (R : List (Wd × Int)) : Wd := (R.headD ([], 0)).1
def Ahead (r : PSt) (ws : List Wd) (R : List (Wd × Int)) : Prop := r.fk = 0 ∧ R ≠ [] ∧ ∃ T : List (Wd × Int), r.toks = T ++ R ∧ T.map (·.1) = ws
section
variable {r : PSt} {R : List (Wd × Int)} {ws a b : List Wd} {w : Wd}
theorem Ahead.nil (h : Ahead r [] R) : r = r.at R := by
 obtain ⟨h1, _, T, h2, h3⟩ := h
 obtain rfl : T = [] := by simpa using h3
 cases r
 simp only [PSt.at] at *
 subst h1 h2
 rfl
theorem at_nil (hk : r.fk = 0) (hR : R ≠ []) : Ahead (r.at R) [] R := ⟨rfl, hR, [], rfl, rfl⟩
theorem Ahead.hd (h : Ahead r (w :: ws) R) : r.fk = 0 ∧ r.hd.1 = w ∧ Ahead r.adv ws R ∧ r.adv.at R = r.at R := by
 obtain ⟨h1, hR, T, h2, h3⟩ := h
 cases T with
 | nil => cases h3
 | cons t T =>
  simp only [List.map_cons, List.cons.injEq] at h3
  have ha : r.adv = ⟨T ++ R, r.fl, r.fk⟩ := by
   unfold PSt.adv
   have : 0 < R.length := List.length_pos_iff.2 hR
   rw [h2, if_pos (by simp; omega)]
   rfl
  refine ⟨h1, ?_, ?_, by rw [ha]; rfl⟩
  · unfold PSt.hd; rw [h2]; exact h3.1
  · rw [ha]; exact ⟨h1, hR, T, rfl, h3.2⟩
theorem Ahead.split (h : Ahead r (a ++ b) R) : ∃ R', Ahead r a R' ∧ Ahead (r.at R') b R ∧ hdW R' = (b ++ [hdW R]).headD [] := by
 obtain ⟨h1, hR, T, h2, h3⟩ := h
 obtain ⟨T1, T2, rfl, e1, e2⟩ := List.map_eq_append_iff.1 h3
 refine ⟨T2 ++ R, ⟨h1, by simp [hR], T1, by rw [h2, List.append_assoc], e1⟩, ⟨rfl, hR, T2, rfl, e2⟩, ?_⟩
 subst e2
 cases T2 with
 | nil => rfl
 | cons t T2 => rfl
theorem Ahead.head0 (h : Ahead r ws R) : r.hd.1 = (ws ++ [hdW R]).headD [] := by
 obtain ⟨h1, hR, T, h2, h3⟩ := h
 subst h3
 unfold PSt.hd
 rw [h2]
 cases T with
 | nil => rfl
 | cons t T => rfl
theorem at_at (r : PSt) (R R' : List (Wd × Int)) : (r.at R').at R = r.at R := rfl
theorem Ahead.want (h : Ahead r (w :: ws) R) : r.want w = r.adv := by
 obtain ⟨h1, h2, _⟩ := h.hd
 unfold PSt.want
 rw [if_neg (by rw [h1]; simp), if_pos h2]
theorem Ahead.isW (h : Ahead r (w :: ws) R) (v : Wd) : r.isW v = (w == v) := by
 obtain ⟨h1, h2, _⟩ := h.hd
 unfold PSt.isW
 rw [h1, h2]; rfl
theorem Ahead.isW0 (h : Ahead r ws R) (v : Wd) : r.isW v = ((ws ++ [hdW R]).headD [] == v) := by
 unfold PSt.isW
 rw [h.1, h.head0]; rfl
theorem Ahead.deep (h : Ahead r ws R) {d : Int} (hd : ¬ d > 64) : r.deep d = r := by unfold PSt.deep; rw [if_neg hd]
theorem Ahead.one (h : Ahead r [w] R) : r.adv = r.at R := by
 obtain ⟨_, _, h1, h2⟩ := h.hd
 rw [← h2]; exact h1.nil
end
section
variable (kw : Wd → Bool) (val : Wd → Int)
def Fine (s : PSt) : Prop := s.fk = 0 ∧ Wf s ∧ ∀ w ∈ s.toks, digitsM w.1 = true → 0 ≤ val w.1 ∧ Go.Lib.decDigits (val w.1).toNat = w.1
def Took (s : PSt) (ws : List Wd) (s' : PSt) : Prop := Fine val s' ∧ ∃ used : List (Wd × Int), s.toks = used ++ s'.toks ∧ ws.Sublist (used.map (·.1))
variable {kw val} {s s1 s' : PSt} {ws a b : List Wd} {w : Wd}
theorem Took.refl (h : Fine val s) : Took val s [] s := ⟨h, [], rfl, List.Sublist.refl _⟩
theorem Took.trans (h : Took val s a s1) (k : Took val s1 b s') : Took val s (a ++ b) s' := by
 obtain ⟨_, u, h1, h2⟩ := h
 obtain ⟨g, v, k1, k2⟩ := k
 exact ⟨g, u ++ v, by rw [h1, k1, List.append_assoc], by rw [List.map_append]; exact h2.append k2⟩
theorem Took.len (h : Took val s ws s') : ws.length + s'.toks.length ≤ s.toks.length := by
 obtain ⟨_, u, h1, h2⟩ := h
 have := h2.length_le
 rw [h1, List.length_append]
 simp at this
 omega
theorem Took.less (h : Took val s a s') (k : b.Sublist a) : Took val s b s' := by
 obtain ⟨g, u, h1, h2⟩ := h
 exact ⟨g, u, h1, k.trans h2⟩
theorem Fine.adv (h : Fine val s) (hd : s.hd.1 ≠ []) : Took val s [s.hd.1] s.adv := by
 obtain ⟨h1, h2, h3⟩ := h
 have hw := h2.adv
 obtain ⟨l, n, e, k⟩ := h2
 cases l with
 | nil => exact absurd (by unfold PSt.hd; rw [e]; rfl) hd
 | cons x l =>
  have ha : s.adv = ⟨l ++ [([], n)], s.fl, s.fk⟩ := by
   unfold PSt.adv
   rw [e, if_pos (by simp)]
   rfl
  have hx : s.hd.1 = x.1 := by unfold PSt.hd; rw [e]; rfl
  refine ⟨⟨by rw [PSt.adv_fk]; exact h1, hw, fun v hv => h3 v ?_⟩, [x], by rw [ha]; exact e, by rw [hx]; exact List.Sublist.refl _⟩
  rw [ha] at hv
  rw [e]
  exact List.mem_cons_of_mem _ hv
theorem Fine.num (h : Fine val s) (hd : digitsM s.hd.1 = true) : 0 ≤ val s.hd.1 ∧ Go.Lib.decDigits (val s.hd.1).toNat = s.hd.1 := by
 obtain ⟨h1, h2, h3⟩ := h
 obtain ⟨l, n, e, k⟩ := h2
 refine h3 s.hd ?_ hd
 unfold PSt.hd
 rw [e]
 cases l with
 | nil => simp
 | cons x l => simp
theorem want_ok (h : Fine val s) (hk : (s.want w).fk = 0) (hw : w ≠ []) : s.hd.1 = w ∧ Took val s [w] (s.want w) := by
 unfold PSt.want at hk ⊢
 rw [if_neg (by rw [h.1]; simp)] at hk ⊢
 by_cases he : s.hd.1 = w
 · rw [if_pos he]
   have := h.adv (by rw [he]; exact hw)
   rw [he] at this
   exact ⟨he, this⟩
 · rw [if_neg he] at hk
   exact absurd hk (PSt.fail_fk s (by decide))
theorem isW_ok (h : Fine val s) (hk : s.isW w = true) (hw : w ≠ []) : s.hd.1 = w ∧ Took val s [w] s.adv := by
 have he := (isW_hd hk).2
 have := h.adv (by rw [he]; exact hw)
 rw [he] at this
 exact ⟨he, this⟩
theorem deep_ok {d : Int} (hk : (s.deep d).fk = 0) : ¬ d > 64 ∧ s.deep d = s := by
 unfold PSt.deep at hk ⊢
 by_cases hd : d > 64
 · rw [if_pos hd] at hk; exact absurd hk (PSt.fail_fk s (by decide))
 · exact ⟨hd, if_neg hd⟩
theorem name_ok (h : Fine val s) (hk : (s.nameS kw).fk = 0) : s.nameT kw = s.hd.1 ∧ lettersM s.hd.1 = true ∧ kw s.hd.1 = false ∧ Took val s [s.nameT kw] (s.nameS kw) := by
 unfold PSt.nameS at hk ⊢
 unfold PSt.nameT
 by_cases hn : s.nameW kw = true
 · rw [if_pos hn, if_pos hn]
   have hn' := hn
   unfold PSt.nameW at hn'
   simp only [Bool.and_eq_true, beq_iff_eq, Bool.not_eq_true'] at hn'
   exact ⟨rfl, hn'.1.2, hn'.2, h.adv (by intro e; have := hn'.1.2; rw [e] at this; cases this)⟩
 · rw [if_neg hn] at hk
   exact absurd hk (PSt.fail_fk s (by decide))
theorem num_ok {most : Int} (h : Fine val s) (hk : (s.num val most).2.fk = 0) : digitsM s.hd.1 = true ∧ (s.num val most).1 = val s.hd.1 ∧ val s.hd.1 ≤ most ∧ 0 ≤ val s.hd.1 ∧ Go.Lib.decDigits (val s.hd.1).toNat = s.hd.1 ∧ Took val s [s.hd.1] (s.num val most).2 := by
 unfold PSt.num at hk ⊢
 by_cases hc : s.fk ≠ 0 ∨ digitsM s.hd.1 = false
 · rw [if_pos hc] at hk
   exact absurd hk (PSt.fail_fk s (by decide))
 · rw [if_neg hc] at hk ⊢
   by_cases hv : val s.hd.1 > most
   · rw [if_pos hv] at hk
     exact absurd hk (PSt.fail_fk s (by decide))
   · rw [if_neg hv]
     have hd : digitsM s.hd.1 = true := by
      cases hx : digitsM s.hd.1 with
      | true => rfl
      | false => exact absurd (.inr hx) hc
     obtain ⟨n1, n2⟩ := h.num hd
     exact ⟨hd, rfl, by omega, n1, n2, h.adv (by intro e; rw [e] at hd; cases hd)⟩
variable {r : PSt} {R : List (Wd × Int)}
theorem Ahead.name (h : Ahead r (w :: ws) R) (h1 : lettersM w = true) (h2 : kw w = false) : r.nameT kw = w ∧ r.nameS kw = r.adv := by
 obtain ⟨k1, k2, _⟩ := h.hd
 have hn : r.nameW kw = true := by unfold PSt.nameW; rw [k1, k2, h1, h2]; rfl
 exact ⟨by unfold PSt.nameT; rw [if_pos hn, k2], by unfold PSt.nameS; rw [if_pos hn]⟩
theorem Ahead.num {most : Int} (h : Ahead r (w :: ws) R) (h1 : digitsM w = true) (h2 : val w ≤ most) : r.num val most = (val w, r.adv) := by
 obtain ⟨k1, k2, _⟩ := h.hd
 unfold PSt.num
 rw [if_neg (by rw [k1, k2, h1]; simp), if_neg (by rw [k2]; omega), k2]
end
theorem itoa_dec {z : Int} (h : 0 ≤ z) : Go.Lib.itoa z = Go.Lib.decDigits z.toNat := by
 obtain ⟨n, rfl⟩ := Int.eq_ofNat_of_zero_le h
 unfold Go.Lib.itoa; rw [if_neg (by omega)]; all_goals simp
theorem x64_id {z : Int} (h0 : -9223372036854775808 ≤ z) (h1 : z ≤ 9223372036854775807) : x64 z = z := by
 unfold x64; exact wrap_i64 h0 h1
end Rb

namespace Rb
open Go
section
variable (kw : Wd → Bool) (val : Wd → Int)
variable {s r : PSt} {R : List (Wd × Int)}
theorem scalar_W {w : Wd} {p : Int × Int} (h : scalarM w = some p) : (⟨p.1, p.2, false, [], 0, []⟩ : GType).W = [w] ∧ w ≠ [] := by
 unfold scalarM at h
 split at h
 · rename_i m hm
   cases h
   obtain ⟨hi, h1, h2⟩ := List.findIdx?_eq_some_iff_getElem.1 hm
   have e : scL0[m]? = some w := by rw [List.getElem?_eq_getElem hi]; simpa using h1
   have hlt : m < 4 := hi
   clear h1 h2 hi hm
   match m, hlt, e with
   | 0, _, e => obtain rfl : [117, 56] = w := Option.some.inj e; exact ⟨by decide +kernel, by decide⟩
   | 1, _, e => obtain rfl : [117, 49, 54] = w := Option.some.inj e; exact ⟨by decide +kernel, by decide⟩
   | 2, _, e => obtain rfl : [117, 51, 50] = w := Option.some.inj e; exact ⟨by decide +kernel, by decide⟩
   | 3, _, e => obtain rfl : [117, 54, 52] = w := Option.some.inj e; exact ⟨by decide +kernel, by decide⟩
 · split at h
   · rename_i m hm
     cases h
     obtain ⟨hi, h1, h2⟩ := List.findIdx?_eq_some_iff_getElem.1 hm
     have e : scL1[m]? = some w := by rw [List.getElem?_eq_getElem hi]; simpa using h1
     have hlt : m < 5 := hi
     clear h1 h2 hi hm
     match m, hlt, e with
     | 0, _, e => obtain rfl : [97, 56] = w := Option.some.inj e; exact ⟨by decide +kernel, by decide⟩
     | 1, _, e => obtain rfl : [97, 49, 54] = w := Option.some.inj e; exact ⟨by decide +kernel, by decide⟩
     | 2, _, e => obtain rfl : [97, 51, 50] = w := Option.some.inj e; exact ⟨by decide +kernel, by decide⟩
     | 3, _, e => obtain rfl : [97, 54, 52] = w := Option.some.inj e; exact ⟨by decide +kernel, by decide⟩
     | 4, _, e => obtain rfl : [97, 49, 50, 56] = w := Option.some.inj e; exact ⟨by decide +kernel, by decide⟩
   · cases h
def TypRP (n : Nat) : Prop := ∀ d s, Fine val s → s.toks.length ≤ n → (typM kw val n d s).2.fk = 0 →
 Took val s (typM kw val n d s).1.W (typM kw val n d s).2 ∧ ∀ m, (typM kw val n d s).1.W.length ≤ m → ∀ r R, Ahead r (typM kw val n d s).1.W R → typM kw val m d r = ((typM kw val n d s).1, r.at R)
def FldRP (n : Nat) : Prop := ∀ d s, Fine val s → s.toks.length ≤ n → (fldsM kw val n d s).2.fk = 0 →
 Took val s (GField.Ws (fldsM kw val n d s).1 ++ [[125]]) (fldsM kw val n d s).2 ∧
  ∀ m, (GField.Ws (fldsM kw val n d s).1 ++ [[125]]).length ≤ m → ∀ r R, Ahead r (GField.Ws (fldsM kw val n d s).1 ++ [[125]]) R → fldsM kw val m d r = ((fldsM kw val n d s).1, r.at R)
theorem isA_noP {w : Wd} (h : s.isW w = false) : s.isA w = s := by unfold PSt.isA; rw [h]; rfl
theorem isA_yesP {w : Wd} (h : s.isW w = true) : s.isA w = s.adv := by unfold PSt.isA; rw [if_pos h]
def fieldT (n : Nat) (d : Int) (o : Bool) (nm : Wd) (s1 : PSt) : GField × PSt :=
 if o = true ∨ (typM kw val n (x64 (d + 1)) s1).2.hd.1 = [58] then
  (⟨nm, (typM kw val n (x64 (d + 1)) s1).1, true, x64 (((typM kw val n (x64 (d + 1)) s1).2.want [58]).num val 1073741824).1⟩, (((typM kw val n (x64 (d + 1)) s1).2.want [58]).num val 1073741824).2.want [59])
 else (⟨nm, (typM kw val n (x64 (d + 1)) s1).1, false, 0⟩, (typM kw val n (x64 (d + 1)) s1).2.want [59])
theorem field_eq (n : Nat) (d : Int) (s : PSt) : fieldM kw val (fun d s => typM kw val n d s) d s = if s.isW [95] = true then fieldT kw val n d true [] (s.isA [95]) else fieldT kw val n d false ((s.isA [95]).nameT kw) ((s.isA [95]).nameS kw) := by
 unfold fieldM
 dsimp only
 cases s.isW [95] <;> rfl
theorem Sub.fieldT (n : Nat) (d : Int) (o : Bool) (nm : Wd) (s : PSt) : Sub s (fieldT kw val n d o nm s).2 := by
 unfold Rb.fieldT
 split
 · exact (Sub.typ kw val n _ s).trans ((Sub.want _ _).trans ((Sub.num val _ _).trans (Sub.want _ _)))
 · exact (Sub.typ kw val n _ s).trans (Sub.want _ _)
def tailW (t : GType) (bits : Bool) (width : Int) : List Wd := t.W ++ ((if bits = true then [[58], Go.Lib.itoa width] else []) ++ [[59]])
theorem field_W (nm : Wd) (t : GType) (bits : Bool) (width : Int) : (⟨nm, t, bits, width⟩ : GField).W = (if nm = [] then [95] else nm) :: tailW t bits width := by
 simp only [GField.W, tailW]
theorem fieldT_rp {n : Nat} (hT : TypRP kw val n) (d : Int) (o : Bool) (nm : Wd) (s1 : PSt) (g1 : Fine val s1) (l1 : s1.toks.length ≤ n) (k : (fieldT kw val n d o nm s1).2.fk = 0) :
  ∃ (t : GType) (bits : Bool) (width : Int) (s' : PSt), fieldT kw val n d o nm s1 = (⟨nm, t, bits, width⟩, s') ∧ Took val s1 (tailW t bits width) s' ∧ (o = true → bits = true) ∧
   ∀ m, (tailW t bits width).length ≤ m → ∀ r1 R, Ahead r1 (tailW t bits width) R → fieldT kw val m d o nm r1 = (⟨nm, t, bits, width⟩, r1.at R) := by
 unfold fieldT at k ⊢
 by_cases hc : o = true ∨ (typM kw val n (x64 (d + 1)) s1).2.hd.1 = [58]
 · rw [if_pos hc] at k ⊢
   have k3 := k
   have k2 : (((typM kw val n (x64 (d + 1)) s1).2.want [58]).num val 1073741824).2.fk = 0 := by
    rcases Int.decEq (((typM kw val n (x64 (d + 1)) s1).2.want [58]).num val 1073741824).2.fk 0 with h | h
    · exact absurd k3 ((Sub.want _ _).2.2 h)
    · exact h
   have k1 : ((typM kw val n (x64 (d + 1)) s1).2.want [58]).fk = 0 := by
    rcases Int.decEq ((typM kw val n (x64 (d + 1)) s1).2.want [58]).fk 0 with h | h
    · exact absurd k2 ((Sub.num _ _ _).2.2 h)
    · exact h
   have k0 : (typM kw val n (x64 (d + 1)) s1).2.fk = 0 := by
    rcases Int.decEq (typM kw val n (x64 (d + 1)) s1).2.fk 0 with h | h
    · exact absurd k1 ((Sub.want _ _).2.2 h)
    · exact h
   obtain ⟨t1, t2⟩ := hT _ s1 g1 l1 k0
   generalize typM kw val n (x64 (d + 1)) s1 = T at *
   obtain ⟨e1, u1⟩ := want_ok t1.1 k1 (by decide)
   obtain ⟨f1, f2, f3, f4, f5, u2⟩ := num_ok u1.1 k2
   obtain ⟨e3, u3⟩ := want_ok u2.1 k3 (by decide)
   have hw : Go.Lib.itoa (x64 ((T.2.want [58]).num val 1073741824).1) = (T.2.want [58]).hd.1 := by rw [f2, x64_id (by omega) (by omega), itoa_dec f4, f5]
   have hW : tailW T.1 true (x64 ((T.2.want [58]).num val 1073741824).1) = T.1.W ++ ([58] :: (T.2.want [58]).hd.1 :: [[59]]) := by
    unfold tailW; rw [if_pos rfl, hw]; rfl
   refine ⟨T.1, true, _, _, rfl, ?_, fun _ => rfl, fun m hm r1 R ha => ?_⟩
   · rw [hW]
     have := (t1.trans u1).trans (u2.trans u3)
     simpa using this
   · rw [hW] at ha hm
     obtain ⟨R1, a1, a2, a3⟩ := ha.split
     have hr := t2 m (by simp at hm; omega) r1 R1 a1
     rw [hr]
     dsimp only
     have hd58 : (r1.at R1).hd.1 = [58] := by rw [a2.head0]; rfl
     rw [if_pos (.inr hd58)]
     obtain ⟨_, _, b1, c1⟩ := a2.hd
     rw [a2.want]
     obtain ⟨_, _, b2, c2⟩ := b1.hd
     rw [b1.num f1 f3]
     dsimp only
     rw [b2.want, b2.one, f2, c2, c1]
     rfl
 · rw [if_neg hc] at k ⊢
   have k0 : (typM kw val n (x64 (d + 1)) s1).2.fk = 0 := by
    rcases Int.decEq (typM kw val n (x64 (d + 1)) s1).2.fk 0 with h | h
    · exact absurd k ((Sub.want _ _).2.2 h)
    · exact h
   obtain ⟨t1, t2⟩ := hT _ s1 g1 l1 k0
   generalize typM kw val n (x64 (d + 1)) s1 = T at *
   obtain ⟨e3, u3⟩ := want_ok t1.1 k (by decide)
   have hW : tailW T.1 false 0 = T.1.W ++ [[59]] := by unfold tailW; rw [if_neg (by decide)]; rfl
   refine ⟨T.1, false, _, _, rfl, ?_, fun h => absurd (.inl h) hc, fun m hm r1 R ha => ?_⟩
   · rw [hW]
     exact t1.trans u3
   · rw [hW] at ha hm
     obtain ⟨R1, a1, a2, a3⟩ := ha.split
     have hr := t2 m (by simp at hm; omega) r1 R1 a1
     rw [hr]
     dsimp only
     have hd59 : (r1.at R1).hd.1 = [59] := by rw [a2.head0]; rfl
     rw [if_neg (by rw [hd59]; rintro (h | h); exact hc (.inl h); cases h), a2.want, a2.one]
     rfl
theorem field_rp {n : Nat} (hT : TypRP kw val n) (d : Int) (s : PSt) (hg : Fine val s) (hl : s.toks.length ≤ n + 1) (hk : (fieldM kw val (fun d s => typM kw val n d s) d s).2.fk = 0) :
  Took val s (fieldM kw val (fun d s => typM kw val n d s) d s).1.W (fieldM kw val (fun d s => typM kw val n d s) d s).2 ∧
  (∃ w l, (fieldM kw val (fun d s => typM kw val n d s) d s).1.W = w :: l ∧ w ≠ [125]) ∧
  ∀ m, (fieldM kw val (fun d s => typM kw val n d s) d s).1.W.length ≤ m + 1 → ∀ r R, Ahead r (fieldM kw val (fun d s => typM kw val n d s) d s).1.W R → fieldM kw val (fun d s => typM kw val m d s) d r = ((fieldM kw val (fun d s => typM kw val n d s) d s).1, r.at R) := by
 rw [field_eq] at hk ⊢
 by_cases ho : s.isW [95] = true
 · rw [if_pos ho, isA_yesP ho] at hk ⊢
   obtain ⟨e0, u0⟩ := isW_ok hg ho (by decide)
   have hl1 : s.adv.toks.length ≤ n := by have := u0.len; simp at this; omega
   obtain ⟨t, bits, width, s', e, u, hb, again⟩ := fieldT_rp kw val hT d true [] s.adv u0.1 hl1 hk
   rw [e]
   dsimp only
   rw [field_W, if_pos rfl]
   refine ⟨u0.trans u, ⟨_, _, rfl, by decide⟩, fun m hm r R ha => ?_⟩
   have hrw : r.isW [95] = true := by rw [ha.isW]; rfl
   obtain ⟨_, _, b1, c1⟩ := ha.hd
   rw [field_eq, if_pos hrw, isA_yesP hrw, again m (by simp at hm; omega) r.adv R b1, c1]
 · have ho' : s.isW [95] = false := by cases h : s.isW [95] with | true => exact absurd h ho | false => rfl
   rw [if_neg ho, isA_noP ho'] at hk ⊢
   have kn : (s.nameS kw).fk = 0 := by
    rcases Int.decEq (s.nameS kw).fk 0 with h | h
    · exact absurd hk ((Sub.fieldT kw val n d _ _ _).2.2 h)
    · exact h
   obtain ⟨f1, f2, f3, u0⟩ := name_ok (kw := kw) hg kn
   have hl1 : (s.nameS kw).toks.length ≤ n := by have := u0.len; simp at this; omega
   obtain ⟨t, bits, width, s', e, u, hb, again⟩ := fieldT_rp kw val hT d false (s.nameT kw) (s.nameS kw) u0.1 hl1 hk
   rw [e]
   dsimp only
   have hne : s.nameT kw ≠ [] := by rw [f1]; intro e; rw [e] at f2; cases f2
   have h125 : s.nameT kw ≠ [125] := by rw [f1]; intro e; rw [e] at f2; exact absurd f2 (by decide)
   have h95 : s.nameT kw ≠ [95] := by rw [f1]; intro e; rw [e] at f2; exact absurd f2 (by decide)
   rw [field_W, if_neg hne]
   refine ⟨u0.trans u, ⟨_, _, rfl, h125⟩, fun m hm r R ha => ?_⟩
   have hrw : r.isW [95] = false := by rw [ha.isW]; simpa using h95
   obtain ⟨_, _, b1, c1⟩ := ha.hd
   obtain ⟨n1, n2⟩ := Ahead.name (kw := kw) ha (by rw [f1]; exact f2) (by rw [f1]; exact f3)
   rw [field_eq, if_neg (by rw [hrw]; decide), isA_noP hrw, n1, n2, again m (by simp at hm; omega) r.adv R b1, c1]
theorem kindM_cases {w : Wd} (h0 : kindM w ≠ 0) (h5 : kindM w ≠ 5) : (w = [115, 116, 114, 117, 99, 116] ∧ kindM w = 3) ∨ (w = [117, 110, 105, 111, 110] ∧ kindM w = 4) := by
 unfold kindM at *
 split at h0
 · rename_i h; exact .inl ⟨h, by rw [if_pos h]⟩
 · split at h0
   · rename_i h1 h2; right; exact ⟨h2, by rw [if_neg h1, if_pos h2]⟩
   · split at h0
     · rename_i h1 h2 h3; exact absurd (by rw [if_neg h1, if_neg h2, if_pos h3]) h5
     · exact absurd rfl h0
theorem kindM_five {w : Wd} (h : kindM w = 5) : w = [91] := by
 unfold kindM at h
 split at h
 · cases h
 · split at h
   · cases h
   · split at h
     · assumption
     · cases h
theorem typs_rp : ∀ n, TypRP kw val n ∧ FldRP kw val n := by
 intro n
 induction n with
 | zero =>
  refine ⟨fun d s hg hl _ => ?_, fun d s hg hl _ => ?_⟩ <;> exact absurd (List.length_eq_zero_iff.1 (by omega)) hg.2.1.ne
 | succ n ih =>
  refine ⟨fun d s hg hl hk => ?_, fun d s hg hl hk => ?_⟩
  · rw [typM] at hk ⊢
    dsimp only at hk ⊢
    by_cases hb : (s.deep d).fk ≠ 0
    · rw [if_pos hb] at hk; exact absurd hk hb
    rw [if_neg hb] at hk ⊢
    simp only [ne_eq, Decidable.not_not] at hb
    obtain ⟨hd, es⟩ := deep_ok hb
    rw [es] at hk ⊢
    have start : ∀ m r ws R, Ahead r ws R → typM kw val (m + 1) d r = (match scalarM r.hd.1 with
        | some p => (⟨p.1, p.2, false, [], 0, []⟩, r.adv)
        | none =>
         if kindM r.hd.1 = 0 then (tyZ, r.fail 4)
         else if kindM r.hd.1 = 5 then
          (⟨5, 0, false, [], x64 (r.adv.num val 1073741824).1, [(typM kw val m (x64 (d + 1)) ((r.adv.num val 1073741824).2.want [93])).1]⟩, (typM kw val m (x64 (d + 1)) ((r.adv.num val 1073741824).2.want [93])).2)
         else
          (⟨kindM r.hd.1, 0, r.adv.isW [112, 97, 99, 107, 101, 100], (fldsM kw val m d ((r.adv.isA [112, 97, 99, 107, 101, 100]).want [123])).1, 0, []⟩, (fldsM kw val m d ((r.adv.isA [112, 97, 99, 107, 101, 100]).want [123])).2)) := by
      intro m r ws R ha
      rw [typM]
      dsimp only
      rw [ha.deep hd, if_neg (by rw [ha.1]; simp)]
      cases scalarM r.hd.1 <;> rfl
    cases hsc : scalarM s.hd.1 with
    | some p =>
     rw [hsc] at hk
     dsimp only at hk ⊢
     obtain ⟨w1, w2⟩ := scalar_W hsc
     rw [w1]
     refine ⟨hg.adv w2, fun m hm r R ha => ?_⟩
     obtain ⟨m, rfl⟩ : ∃ k, m = k + 1 := ⟨m - 1, by simp at hm; omega⟩
     obtain ⟨_, h1, _⟩ := ha.hd
     rw [start m r _ R ha, h1, hsc]
     dsimp only
     rw [ha.one]
    | none =>
     rw [hsc] at hk
     dsimp only at hk ⊢
     by_cases h0 : kindM s.hd.1 = 0
     · rw [if_pos h0] at hk; exact absurd hk (PSt.fail_fk s (by decide))
     rw [if_neg h0] at hk ⊢
     by_cases h5 : kindM s.hd.1 = 5
     · rw [if_pos h5] at hk ⊢
       have hw := kindM_five h5
       have u0 := hg.adv (by rw [hw]; decide)
       have k1 : ((s.adv.num val 1073741824).2.want [93]).fk = 0 := by
        rcases Int.decEq ((s.adv.num val 1073741824).2.want [93]).fk 0 with h | h
        · exact absurd hk ((Sub.typ kw val n _ _).2.2 h)
        · exact h
       have k0 : (s.adv.num val 1073741824).2.fk = 0 := by
        rcases Int.decEq (s.adv.num val 1073741824).2.fk 0 with h | h
        · exact absurd k1 ((Sub.want _ _).2.2 h)
        · exact h
       obtain ⟨f1, f2, f3, f4, f5, u1⟩ := num_ok u0.1 k0
       obtain ⟨e2, u2⟩ := want_ok u1.1 k1 (by decide)
       have hl1 : ((s.adv.num val 1073741824).2.want [93]).toks.length ≤ n := by
        have a := u0.len; have b := u1.len; have c := u2.len
        simp at a b c; omega
       obtain ⟨t1, t2⟩ := ih.1 (x64 (d + 1)) _ u2.1 hl1 hk
       generalize typM kw val n (x64 (d + 1)) ((s.adv.num val 1073741824).2.want [93]) = T at *
       have hit : Go.Lib.itoa (x64 (s.adv.num val 1073741824).1) = s.adv.hd.1 := by rw [f2, x64_id (by omega) (by omega), itoa_dec f4, f5]
       have hW : (⟨5, 0, false, [], x64 (s.adv.num val 1073741824).1, [T.1]⟩ : GType).W = [91] :: s.adv.hd.1 :: [93] :: T.1.W := by
        simp only [GType.W, GType.Ws, hit, List.append_nil]
        rfl
       rw [hW]
       refine ⟨?_, fun m hm r R ha => ?_⟩
       · have := (u0.trans u1).trans (u2.trans t1)
         rw [hw] at this
         simpa using this
       · obtain ⟨m, rfl⟩ : ∃ k, m = k + 1 := ⟨m - 1, by simp at hm; omega⟩
         obtain ⟨_, h1, b1, c1⟩ := ha.hd
         obtain ⟨_, h2, b2, c2⟩ := b1.hd
         obtain ⟨_, h3, b3, c3⟩ := b2.hd
         rw [start m r _ R ha, h1]
         rw [show scalarM [91] = none from by decide, show kindM [91] = 5 from by decide]
         dsimp only
         rw [if_neg (by decide), if_pos rfl, b1.num f1 f3]
         dsimp only
         rw [b2.want, t2 m (by simp at hm; omega) _ R b3, f2, c3, c2, c1]
     · rw [if_neg h5] at hk ⊢
       have hw := kindM_cases h0 h5
       have hne : s.hd.1 ≠ [] := by rcases hw with h | h <;> (rw [h.1]; decide)
       have u0 := hg.adv hne
       have k1 : ((s.adv.isA [112, 97, 99, 107, 101, 100]).want [123]).fk = 0 := by
        rcases Int.decEq ((s.adv.isA [112, 97, 99, 107, 101, 100]).want [123]).fk 0 with h | h
        · exact absurd hk ((Sub.flds kw val n _ _).2.2 h)
        · exact h
       obtain ⟨pw, hpw, up⟩ : ∃ pw : List Wd, pw = (if s.adv.isW [112, 97, 99, 107, 101, 100] = true then [[112, 97, 99, 107, 101, 100]] else []) ∧ Took val s.adv pw (s.adv.isA [112, 97, 99, 107, 101, 100]) := by
        refine ⟨_, rfl, ?_⟩
        by_cases hp : s.adv.isW [112, 97, 99, 107, 101, 100] = true
        · rw [if_pos hp, isA_yesP hp]
          exact (isW_ok u0.1 hp (by decide)).2
        · rw [if_neg hp, isA_noP (by simpa using hp)]
          exact Took.refl u0.1
       obtain ⟨e2, u2⟩ := want_ok up.1 k1 (by decide)
       have hl1 : ((s.adv.isA [112, 97, 99, 107, 101, 100]).want [123]).toks.length ≤ n := by
        have a := u0.len; have b := up.len; have c := u2.len
        simp at a b c; omega
       obtain ⟨t1, t2⟩ := ih.2 d _ u2.1 hl1 hk
       generalize fldsM kw val n d ((s.adv.isA [112, 97, 99, 107, 101, 100]).want [123]) = T at *
       have hW : (⟨kindM s.hd.1, 0, s.adv.isW [112, 97, 99, 107, 101, 100], T.1, 0, []⟩ : GType).W = s.hd.1 :: (pw ++ [123] :: (GField.Ws T.1 ++ [[125]])) := by
        rcases hw with ⟨h1, h2⟩ | ⟨h1, h2⟩
        · rw [h2, h1, hpw]
          simp only [GType.W]
          rfl
        · rw [h2, h1, hpw]
          simp only [GType.W]
          rfl
       rw [hW]
       refine ⟨?_, fun m hm r R ha => ?_⟩
       · have := (u0.trans up).trans (u2.trans t1)
         simpa using this
       · obtain ⟨m, rfl⟩ : ∃ k, m = k + 1 := ⟨m - 1, by simp at hm; omega⟩
         obtain ⟨_, h1, b1, c1⟩ := ha.hd
         have hpk : r.adv.isW [112, 97, 99, 107, 101, 100] = s.adv.isW [112, 97, 99, 107, 101, 100] ∧ ∃ r2, (r.adv.isA [112, 97, 99, 107, 101, 100]) = r2 ∧ Ahead r2 ([123] :: (GField.Ws T.1 ++ [[125]])) R ∧ r2.at R = r.at R := by
          by_cases hp : s.adv.isW [112, 97, 99, 107, 101, 100] = true
          · rw [if_pos hp] at hpw
            rw [hpw] at b1
            have e : r.adv.isW [112, 97, 99, 107, 101, 100] = true := by rw [Ahead.isW (w := [112, 97, 99, 107, 101, 100]) b1]; rfl
            obtain ⟨_, _, b2, c2⟩ := Ahead.hd (w := [112, 97, 99, 107, 101, 100]) b1
            exact ⟨by rw [e, hp], _, isA_yesP e, b2, by rw [c2, c1]⟩
          · rw [if_neg hp] at hpw
            rw [hpw] at b1
            have e : r.adv.isW [112, 97, 99, 107, 101, 100] = false := by rw [Ahead.isW (w := [123]) b1]; rfl
            exact ⟨by rw [e]; simpa using hp, _, isA_noP e, b1, c1⟩
         obtain ⟨p1, r2, p2, b2, c2⟩ := hpk
         obtain ⟨_, _, b3, c3⟩ := b2.hd
         rw [start m r _ R ha, h1, hsc]
         dsimp only
         rw [if_neg h0, if_neg h5, p1, p2, b2.want, t2 m (by simp at hm ⊢; omega) _ R b3, c3, c2]
  · rw [fldsM] at hk ⊢
    dsimp only at hk ⊢
    rw [if_neg (by rw [hg.1]; simp)] at hk ⊢
    by_cases hc : s.isW [125] = true
    · rw [if_pos hc] at hk ⊢
      obtain ⟨e, u⟩ := isW_ok hg hc (by decide)
      refine ⟨u, fun m hm r R ha => ?_⟩
      obtain ⟨m, rfl⟩ : ∃ k, m = k + 1 := ⟨m - 1, by simp [GField.Ws] at hm; omega⟩
      have ha' : Ahead r ([125] :: []) R := ha
      rw [fldsM, if_neg (by rw [ha.1]; simp), if_pos (by rw [ha'.isW]; rfl), ha'.one]
    · rw [if_neg hc] at hk ⊢
      have k1 : (fieldM kw val (fun d s => typM kw val n d s) d s).2.fk = 0 := by
       rcases Int.decEq (fieldM kw val (fun d s => typM kw val n d s) d s).2.fk 0 with h | h
       · exact absurd hk ((Sub.flds kw val n _ _).2.2 h)
       · exact h
      obtain ⟨u1, ⟨w, l, hw, hw125⟩, again⟩ := field_rp kw val ih.1 d s hg hl k1
      generalize fieldM kw val (fun d s => typM kw val n d s) d s = f at *
      have hl1 : f.2.toks.length ≤ n := by have := u1.len; rw [hw] at this; simp at this; omega
      obtain ⟨t1, t2⟩ := ih.2 d _ u1.1 hl1 hk
      generalize fldsM kw val n d f.2 = T at *
      dsimp only
      refine ⟨by simpa [GField.Ws] using u1.trans t1, fun m hm r R ha => ?_⟩
      have hlw : f.1.W.length = l.length + 1 := by rw [hw]; rfl
      obtain ⟨m, rfl⟩ : ∃ k, m = k + 1 := ⟨m - 1, by simp [GField.Ws, hlw] at hm; omega⟩
      have ha' : Ahead r (f.1.W ++ (GField.Ws T.1 ++ [[125]])) R := by simpa [GField.Ws] using ha
      obtain ⟨R1, a1, a2, a3⟩ := ha'.split
      have hnc : r.isW [125] = false := by
       have := a1
       rw [hw] at this
       rw [this.isW]
       simpa using hw125
      rw [fldsM, if_neg (by rw [ha.1]; simp), if_neg (by rw [hnc]; decide)]
      dsimp only
      rw [again m (by simp [GField.Ws] at hm; omega) r R1 a1]
      dsimp only
      rw [t2 m (by simp [GField.Ws, hlw] at hm ⊢; omega) _ R a2]
      rfl
end
end Rb

namespace Rb
open Go
def NP (w : Wd) : Prop := w ≠ [46] ∧ w ≠ [91]
section
variable (kw : Wd → Bool) (val : Wd → Int)
variable {s r : PSt} {R : List (Wd × Int)}
theorem oper_W {w : Wd} (h : operM w ≠ 0) : ofW (i64w (operM w - 1)) opWL = w ∧ w ≠ [] ∧ NP w := by
 unfold operM at h ⊢
 split
 · rename_i i hm
   clear h
   obtain ⟨hi, h1, h2⟩ := List.findIdx?_eq_some_iff_getElem.1 hm
   have e : operL[i]? = some w := by rw [List.getElem?_eq_getElem hi]; simpa using h1
   have hlt : i < 11 := hi
   clear h1 h2 hi hm
   match i, hlt, e with
   | 0, _, e => obtain rfl : [43] = w := Option.some.inj e; exact ⟨by decide +kernel, by decide, by decide, by decide⟩
   | 1, _, e => obtain rfl : [45] = w := Option.some.inj e; exact ⟨by decide +kernel, by decide, by decide, by decide⟩
   | 2, _, e => obtain rfl : [42] = w := Option.some.inj e; exact ⟨by decide +kernel, by decide, by decide, by decide⟩
   | 3, _, e => obtain rfl : [38] = w := Option.some.inj e; exact ⟨by decide +kernel, by decide, by decide, by decide⟩
   | 4, _, e => obtain rfl : [124] = w := Option.some.inj e; exact ⟨by decide +kernel, by decide, by decide, by decide⟩
   | 5, _, e => obtain rfl : [94] = w := Option.some.inj e; exact ⟨by decide +kernel, by decide, by decide, by decide⟩
   | 6, _, e => obtain rfl : [60, 60] = w := Option.some.inj e; exact ⟨by decide +kernel, by decide, by decide, by decide⟩
   | 7, _, e => obtain rfl : [62, 62] = w := Option.some.inj e; exact ⟨by decide +kernel, by decide, by decide, by decide⟩
   | 8, _, e => obtain rfl : [61, 61] = w := Option.some.inj e; exact ⟨by decide +kernel, by decide, by decide, by decide⟩
   | 9, _, e => obtain rfl : [33, 61] = w := Option.some.inj e; exact ⟨by decide +kernel, by decide, by decide, by decide⟩
   | 10, _, e => obtain rfl : [60] = w := Option.some.inj e; exact ⟨by decide +kernel, by decide, by decide, by decide⟩
 · rename_i hi
   rw [hi] at h
   exact absurd rfl h
theorem isW_eq (hk : s.fk = 0) (v : Wd) : (s.isW v = true) = (s.hd.1 = v) := by
 unfold PSt.isW
 rw [hk]
 simp
theorem order_ok (hg : Fine val s) (hk : (orderM s).2.fk = 0) : Took val s [orderW (orderM s).1] (orderM s).2 ∧ ∀ r ws R, Ahead r (orderW (orderM s).1 :: ws) R → orderM r = ((orderM s).1, r.adv) := by
 unfold orderM at hk ⊢
 simp only [isW_eq hg.1] at hk ⊢
 have key : ∀ (n : Int) (w : Wd), s.hd.1 = w → w ≠ [] → orderW n = w → Took val s [orderW n] s.adv := by
  intro n w h1 h2 h3
  have := hg.adv (by rw [h1]; exact h2)
  rw [h1] at this
  rw [h3]; exact this
 by_cases h1 : s.hd.1 = [114, 108, 120]
 · rw [if_pos h1]
   refine ⟨key 1 _ h1 (by decide) (by decide +kernel), fun r ws R ha => ?_⟩
   have e : r.hd.1 = [114, 108, 120] := ha.hd.2.1.trans (show orderW 1 = [114, 108, 120] from by decide +kernel)
   simp only [isW_eq ha.1]
   rw [if_pos e]
 rw [if_neg h1] at hk ⊢
 by_cases h2 : s.hd.1 = [97, 99, 113]
 · rw [if_pos h2]
   refine ⟨key 2 _ h2 (by decide) (by decide +kernel), fun r ws R ha => ?_⟩
   have e : r.hd.1 = [97, 99, 113] := ha.hd.2.1.trans (show orderW 2 = [97, 99, 113] from by decide +kernel)
   simp only [isW_eq ha.1]
   rw [if_neg (by rw [e]; decide), if_pos e]
 rw [if_neg h2] at hk ⊢
 by_cases h3 : s.hd.1 = [114, 101, 108]
 · rw [if_pos h3]
   refine ⟨key 3 _ h3 (by decide) (by decide +kernel), fun r ws R ha => ?_⟩
   have e : r.hd.1 = [114, 101, 108] := ha.hd.2.1.trans (show orderW 3 = [114, 101, 108] from by decide +kernel)
   simp only [isW_eq ha.1]
   rw [if_neg (by rw [e]; decide), if_neg (by rw [e]; decide), if_pos e]
 rw [if_neg h3] at hk ⊢
 by_cases h4 : s.hd.1 = [115, 99]
 · rw [if_pos h4]
   refine ⟨key 4 _ h4 (by decide) (by decide +kernel), fun r ws R ha => ?_⟩
   have e : r.hd.1 = [115, 99] := ha.hd.2.1.trans (show orderW 4 = [115, 99] from by decide +kernel)
   simp only [isW_eq ha.1]
   rw [if_neg (by rw [e]; decide), if_neg (by rw [e]; decide), if_neg (by rw [e]; decide), if_pos e]
 rw [if_neg h4] at hk
 exact absurd hk (PSt.fail_fk s (by decide))
def ExpRP (n : Nat) : Prop := ∀ d s, Fine val s → s.toks.length ≤ n → (exprM kw val n d s).2.fk = 0 →
 Took val s (exprM kw val n d s).1.W (exprM kw val n d s).2 ∧ (∃ w l, (exprM kw val n d s).1.W = w :: l ∧ NP w) ∧
  ∀ m, (exprM kw val n d s).1.W.length ≤ m → ∀ r R, Ahead r (exprM kw val n d s).1.W R → NP (hdW R) → exprM kw val m d r = ((exprM kw val n d s).1, r.at R)
def ParRP (n : Nat) : Prop := ∀ d s, Fine val s → s.toks.length ≤ n → (partsM kw val n d s).2.fk = 0 →
 Took val s (GPart.Ws (partsM kw val n d s).1) (partsM kw val n d s).2 ∧
  ∀ m, (GPart.Ws (partsM kw val n d s).1).length ≤ m → ∀ r R, Ahead r (GPart.Ws (partsM kw val n d s).1) R → NP (hdW R) → partsM kw val m d r = ((partsM kw val n d s).1, r.at R)
theorem place_rp {n : Nat} (hP : ParRP kw val n) (d : Int) (s : PSt) (hg : Fine val s) (hl : s.toks.length ≤ n + 1) (hk : (placeM' kw (fun d s => partsM kw val n d s) d s).2.fk = 0) :
  Took val s (placeM' kw (fun d s => partsM kw val n d s) d s).1.W (placeM' kw (fun d s => partsM kw val n d s) d s).2 ∧ (∃ w l, (placeM' kw (fun d s => partsM kw val n d s) d s).1.W = w :: l ∧ lettersM w = true) ∧
  ∀ m, (placeM' kw (fun d s => partsM kw val n d s) d s).1.W.length ≤ m + 1 → ∀ r R, Ahead r (placeM' kw (fun d s => partsM kw val n d s) d s).1.W R → NP (hdW R) →
   placeM' kw (fun d s => partsM kw val m d s) d r = ((placeM' kw (fun d s => partsM kw val n d s) d s).1, r.at R) := by
 unfold placeM' at hk ⊢
 dsimp only at hk ⊢
 have k0 : (s.nameS kw).fk = 0 := by
  rcases Int.decEq (s.nameS kw).fk 0 with h | h
  · exact absurd hk ((Sub.parts kw val n _ _).2.2 h)
  · exact h
 obtain ⟨f1, f2, f3, u0⟩ := name_ok (kw := kw) hg k0
 have hl1 : (s.nameS kw).toks.length ≤ n := by have := u0.len; simp at this; omega
 obtain ⟨t1, t2⟩ := hP d _ u0.1 hl1 hk
 generalize partsM kw val n d (s.nameS kw) = T at *
 refine ⟨by simpa [GPlace.W] using u0.trans t1, ⟨_, _, rfl, by rw [f1]; exact f2⟩, fun m hm r R ha hr => ?_⟩
 have ha' : Ahead r (s.nameT kw :: GPart.Ws T.1) R := by simpa [GPlace.W] using ha
 obtain ⟨_, _, b1, c1⟩ := ha'.hd
 obtain ⟨n1, n2⟩ := Ahead.name (kw := kw) ha' (by rw [f1]; exact f2) (by rw [f1]; exact f3)
 rw [n1, n2, t2 m (by simp [GPlace.W] at hm; omega) r.adv R b1 hr, c1]
theorem kids_rp {n : Nat} (hE : ExpRP kw val n) (d : Int) : ∀ (k : Nat) (s : PSt), Fine val s → s.toks.length ≤ n → (kidsM (fun d s => exprM kw val n d s) d k s).2.fk = 0 →
  Took val s (GExpr.Ws (kidsM (fun d s => exprM kw val n d s) d k s).1) (kidsM (fun d s => exprM kw val n d s) d k s).2 ∧
  ((k = 0 → GExpr.Ws (kidsM (fun d s => exprM kw val n d s) d k s).1 = []) ∧ (GExpr.Ws (kidsM (fun d s => exprM kw val n d s) d k s).1 = [] ∨ ∃ w l, GExpr.Ws (kidsM (fun d s => exprM kw val n d s) d k s).1 = w :: l ∧ NP w)) ∧
  ∀ m, (GExpr.Ws (kidsM (fun d s => exprM kw val n d s) d k s).1).length ≤ m → ∀ r R, Ahead r (GExpr.Ws (kidsM (fun d s => exprM kw val n d s) d k s).1) R → NP (hdW R) →
   kidsM (fun d s => exprM kw val m d s) d k r = ((kidsM (fun d s => exprM kw val n d s) d k s).1, r.at R)
 | 0, s, hg, hl, hk => ⟨Took.refl hg, ⟨fun _ => rfl, .inl rfl⟩, fun m hm r R ha hr => by
     have ha' : Ahead r [] R := ha
     show (([] : List GExpr), r) = _
     rw [← ha'.nil]; rfl⟩
 | k + 1, s, hg, hl, hk => by
  unfold kidsM at hk ⊢
  dsimp only at hk ⊢
  have k0 : (exprM kw val n (x64 (d + 1)) s).2.fk = 0 := by
   rcases Int.decEq (exprM kw val n (x64 (d + 1)) s).2.fk 0 with h | h
   · exact absurd hk ((Sub.kids (fun d s => Sub.expr kw val n d s) d k _).2.2 h)
   · exact h
  obtain ⟨e1, ⟨w, l, hw, hnp⟩, e2⟩ := hE (x64 (d + 1)) s hg hl k0
  generalize exprM kw val n (x64 (d + 1)) s = E at *
  have hl1 : E.2.toks.length ≤ n := by have := e1.len; omega
  obtain ⟨t1, t0, t2⟩ := kids_rp hE d k E.2 e1.1 hl1 hk
  generalize kidsM (fun d s => exprM kw val n d s) d k E.2 = T at *
  refine ⟨by simpa [GExpr.Ws] using e1.trans t1, ⟨fun h => absurd h (by omega), .inr ⟨w, l ++ GExpr.Ws T.1, by simp [GExpr.Ws, hw], hnp⟩⟩, fun m hm r R ha hr => ?_⟩
  have ha' : Ahead r (E.1.W ++ GExpr.Ws T.1) R := by simpa [GExpr.Ws] using ha
  obtain ⟨R1, a1, a2, a3⟩ := ha'.split
  have hnp1 : NP (hdW R1) := by
   rw [a3]
   rcases t0.2 with t0 | ⟨w', l', t0, t0'⟩
   · rw [t0]; exact hr
   · rw [t0]; exact t0'
  rw [e2 m (by simp [GExpr.Ws] at hm; omega) r R1 a1 hnp1]
  dsimp only
  rw [t2 m (by simp [GExpr.Ws] at hm; omega) _ R a2 hr]
  rfl
theorem bin_rp {n : Nat} (hE : ExpRP kw val n) (d : Int) (s : PSt) (hg : Fine val s) (hl : s.toks.length ≤ n) (hk : (binM (fun d s => exprM kw val n d s) d s).2.fk = 0) :
  ∃ ws, (binM (fun d s => exprM kw val n d s) d s).1.W = [40] :: ws ∧ Took val s ws (binM (fun d s => exprM kw val n d s) d s).2 ∧
   ∀ m, ws.length ≤ m → ∀ r R, Ahead r ws R → binM (fun d s => exprM kw val m d s) d r = ((binM (fun d s => exprM kw val n d s) d s).1, r.at R) := by
 unfold binM at hk ⊢
 dsimp only at hk ⊢
 generalize hA : exprM kw val n (x64 (d + 1)) s = A at *
 obtain ⟨s3, h3⟩ : ∃ s3 : PSt, (if A.2.fk = 0 ∧ operM A.2.hd.1 = 0 then A.2.fail 4 else A.2) = s3 := ⟨_, rfl⟩
 rw [h3] at hk ⊢
 obtain ⟨s4, h4⟩ : ∃ s4 : PSt, (if s3.fk = 0 then s3.adv else s3) = s4 := ⟨_, rfl⟩
 rw [h4] at hk ⊢
 have k1 : (exprM kw val n (x64 (d + 1)) s4).2.fk = 0 := by
  rcases Int.decEq (exprM kw val n (x64 (d + 1)) s4).2.fk 0 with h | h
  · exact absurd hk ((Sub.want _ _).2.2 h)
  · exact h
 have k4 : s4.fk = 0 := by
  rcases Int.decEq s4.fk 0 with h | h
  · exact absurd k1 ((Sub.expr kw val n _ _).2.2 h)
  · exact h
 have k3 : s3.fk = 0 := by
  rcases Int.decEq s3.fk 0 with h | h
  · rw [if_neg h] at h4; rw [h4]; exact k4
  · exact h
 have k0 : A.2.fk = 0 := by
  rcases Int.decEq A.2.fk 0 with h | h
  · rw [if_neg (fun e => h e.1)] at h3; rw [h3]; exact k3
  · exact h
 have hop : operM A.2.hd.1 ≠ 0 := by
  intro e
  rw [if_pos ⟨k0, e⟩] at h3
  rw [← h3] at k3
  exact PSt.fail_fk A.2 (by decide) k3
 rw [if_neg (fun e => hop e.2)] at h3
 subst h3
 rw [if_pos k0] at h4
 subst h4
 have k0' := k0
 rw [← hA] at k0'
 obtain ⟨e1, ⟨w, l, hw, hnp⟩, e2⟩ := hE (x64 (d + 1)) s hg hl k0'
 rw [hA] at e1 hw e2
 obtain ⟨o1, o2, o3⟩ := oper_W hop
 have u1 := e1.1.adv o2
 have hl1 : A.2.adv.toks.length ≤ n := by have a := e1.len; have b := u1.len; simp at b; omega
 obtain ⟨t1, _, t2⟩ := hE (x64 (d + 1)) A.2.adv u1.1 hl1 k1
 generalize exprM kw val n (x64 (d + 1)) A.2.adv = B at *
 obtain ⟨_, u2⟩ := want_ok t1.1 hk (by decide)
 refine ⟨A.1.W ++ (A.2.hd.1 :: (B.1.W ++ [[41]])), ?_, by simpa using (e1.trans u1).trans (t1.trans u2), fun m hm r R ha => ?_⟩
 · simp [GExpr.W, GExpr.Wk, o1]
 · obtain ⟨R1, a1, a2, a3⟩ := ha.split
   have hnp1 : NP (hdW R1) := by rw [a3]; exact o3
   rw [e2 m (by simp at hm; omega) r R1 a1 hnp1]
   dsimp only
   obtain ⟨_, h2, b2, c2⟩ := a2.hd
   have hno : ¬ ((r.at R1).fk = 0 ∧ operM A.2.hd.1 = 0) := fun e => hop e.2
   rw [h2, if_neg hno, if_pos (show (r.at R1).fk = 0 from rfl)]
   obtain ⟨R2, d1, d2, d3⟩ := b2.split
   rw [t2 m (by simp at hm; omega) _ R2 d1 (by rw [d3]; exact (⟨by decide, by decide⟩ : NP [41]))]
   dsimp only
   rw [Ahead.want (w := [41]) d2, Ahead.one (w := [41]) d2]
   rw [at_at, c2, at_at]
theorem acc_rp {n : Nat} (hE : ExpRP kw val n) (hP : ParRP kw val n) (kind : Int) (k : Nat) (h0k : kind = 4 → k = 0) (hkd : kind = 4 ∨ 5 ≤ kind ∧ kind ≤ 8) (d : Int) (s : PSt) (hg : Fine val s) (hl : s.toks.length ≤ n) (hk : (accM kw (fun d s => exprM kw val n d s) (fun d s => partsM kw val n d s) kind k d s).2.fk = 0) :
  ∃ ws, (accM kw (fun d s => exprM kw val n d s) (fun d s => partsM kw val n d s) kind k d s).1.W = (if kind = 4 then [114, 101, 97, 100] else ofW (i64w (kind - 5)) accWL) :: ws ∧ Took val s ws (accM kw (fun d s => exprM kw val n d s) (fun d s => partsM kw val n d s) kind k d s).2 ∧
   ∀ m, ws.length ≤ m → ∀ r R, Ahead r ws R → NP (hdW R) → accM kw (fun d s => exprM kw val m d s) (fun d s => partsM kw val m d s) kind k d r = ((accM kw (fun d s => exprM kw val n d s) (fun d s => partsM kw val n d s) kind k d s).1, r.at R) := by
 have tail : ∀ (o : Int) (s1 : PSt), Fine val s1 → s1.toks.length ≤ n →
   (kidsM (fun d s => exprM kw val n d s) d k (placeM' kw (fun d s => partsM kw val n d s) d s1).2).2.fk = 0 →
   ∃ (p : GPlace) (l : List GExpr) (s' : PSt), (placeM' kw (fun d s => partsM kw val n d s) d s1).1 = p ∧ (kidsM (fun d s => exprM kw val n d s) d k (placeM' kw (fun d s => partsM kw val n d s) d s1).2) = (l, s') ∧
    Took val s1 (p.W ++ GExpr.Ws l) s' ∧ (k = 0 → GExpr.Ws l = []) ∧
    ∀ m, (p.W ++ GExpr.Ws l).length ≤ m → ∀ r R, Ahead r (p.W ++ GExpr.Ws l) R → NP (hdW R) →
     (placeM' kw (fun d s => partsM kw val m d s) d r).1 = p ∧ kidsM (fun d s => exprM kw val m d s) d k (placeM' kw (fun d s => partsM kw val m d s) d r).2 = (l, r.at R) := by
  intro o s1 g1 l1 hk
  have k0 : (placeM' kw (fun d s => partsM kw val n d s) d s1).2.fk = 0 := by
   rcases Int.decEq (placeM' kw (fun d s => partsM kw val n d s) d s1).2.fk 0 with h | h
   · exact absurd hk ((Sub.kids (fun d s => Sub.expr kw val n d s) d k _).2.2 h)
   · exact h
  obtain ⟨p1, _, p2⟩ := place_rp kw val hP d s1 g1 (by omega) k0
  generalize placeM' kw (fun d s => partsM kw val n d s) d s1 = T at *
  have hl2 : T.2.toks.length ≤ n := by have := p1.len; omega
  obtain ⟨t1, t0, t2⟩ := kids_rp kw val hE d k T.2 p1.1 hl2 hk
  generalize kidsM (fun d s => exprM kw val n d s) d k T.2 = K at *
  refine ⟨T.1, K.1, K.2, rfl, rfl, p1.trans t1, t0.1, fun m hm r R ha hr => ?_⟩
  · obtain ⟨R1, a1, a2, a3⟩ := ha.split
    have hnp1 : NP (hdW R1) := by
     rw [a3]
     rcases t0.2 with t0 | ⟨w', l', t0, t0'⟩
     · rw [t0]; exact hr
     · rw [t0]; exact t0'
    rw [p2 m (by simp at hm; omega) r R1 a1 hnp1]
    exact ⟨rfl, t2 m (by simp at hm; omega) _ R a2 hr⟩
 unfold accM at hk ⊢
 dsimp only at hk ⊢
 rcases hkd with h4 | ⟨h5, h8⟩
 · subst h4
   simp only [if_pos] at hk ⊢
   obtain ⟨p, l, s', e1, e2, u, u0, again⟩ := tail 0 s hg hl hk
   rw [e1, e2]
   have u0' := u0 (h0k rfl)
   rw [u0', List.append_nil] at u again
   refine ⟨p.W, by simp [GExpr.W], u, fun m hm r R ha hr => ?_⟩
   obtain ⟨q1, q2⟩ := again m hm r R ha hr
   rw [q1, q2]
 · have h4 : ¬ kind = 4 := by omega
   simp only [if_neg h4] at hk ⊢
   have k0 : (orderM s).2.fk = 0 := by
    rcases Int.decEq (orderM s).2.fk 0 with h | h
    · refine absurd hk ?_
      exact ((Sub.place kw (fun d s => Sub.parts kw val n d s) d _).trans (Sub.kids (fun d s => Sub.expr kw val n d s) d k _)).2.2 h
    · exact h
   obtain ⟨o1, o2⟩ := order_ok val hg k0
   have hl1 : (orderM s).2.toks.length ≤ n := by have := o1.len; simp at this; omega
   obtain ⟨p, l, s', e1, e2, u, u0, again⟩ := tail 0 (orderM s).2 o1.1 hl1 hk
   rw [e1, e2]
   refine ⟨orderW (orderM s).1 :: (p.W ++ GExpr.Ws l), ?_, by simpa using o1.trans u, fun m hm r R ha hr => ?_⟩
   · have a1 : ¬ kind = 1 := by omega
     have a2 : ¬ kind = 2 := by omega
     have a3 : ¬ kind = 3 := by omega
     simp only [GExpr.W, if_neg a1, if_neg a2, if_neg a3, if_neg h4]
   · obtain ⟨_, _, b1, c1⟩ := ha.hd
     rw [o2 r _ R ha]
     dsimp only
     obtain ⟨q1, q2⟩ := again m (by simp at hm ⊢; omega) r.adv R b1 hr
     rw [q1, q2, c1]
theorem expr_eq {n : Nat} {d : Int} (hk : s.fk = 0) (hd : ¬ d > 64) : exprM kw val (n + 1) d s =
  (if digitsM s.hd.1 = true then (⟨1, (s.num val 18446744073709551615).1, [], 0, 0, plZ, []⟩, (s.num val 18446744073709551615).2)
  else if lettersM s.hd.1 = true ∧ kw s.hd.1 = false then (⟨2, 0, s.hd.1, 0, 0, plZ, []⟩, s.adv)
  else if s.hd.1 = [40] then binM (fun d s => exprM kw val n d s) d s.adv
  else if s.hd.1 = [114, 101, 97, 100] then accM kw (fun d s => exprM kw val n d s) (fun d s => partsM kw val n d s) 4 0 d s.adv
  else if s.hd.1 = [108, 111, 97, 100] then accM kw (fun d s => exprM kw val n d s) (fun d s => partsM kw val n d s) 5 0 d s.adv
  else if s.hd.1 = [97, 100, 100] then accM kw (fun d s => exprM kw val n d s) (fun d s => partsM kw val n d s) 6 1 d s.adv
  else if s.hd.1 = [115, 119, 97, 112] then accM kw (fun d s => exprM kw val n d s) (fun d s => partsM kw val n d s) 7 1 d s.adv
  else if s.hd.1 = [99, 97, 115] then accM kw (fun d s => exprM kw val n d s) (fun d s => partsM kw val n d s) 8 2 d s.adv
  else (exZ, s.fail 4)) := by
 rw [exprM]
 dsimp only
 have e : s.deep d = s := by unfold PSt.deep; rw [if_neg hd]
 rw [e, if_neg (by rw [hk]; simp)]
 simp only [isW_eq hk]
theorem exprs_rp : ∀ n, ExpRP kw val n ∧ ParRP kw val n := by
 intro n
 induction n with
 | zero =>
  refine ⟨fun d s hg hl _ => ?_, fun d s hg hl _ => ?_⟩ <;> exact absurd (List.length_eq_zero_iff.1 (by omega)) hg.2.1.ne
 | succ n ih =>
  refine ⟨fun d s hg hl hk => ?_, fun d s hg hl hk => ?_⟩
  · have hd : ¬ d > 64 := by
      intro hd
      rw [exprM] at hk
      dsimp only at hk
      have hf : (s.deep d).fk ≠ 0 := by unfold PSt.deep; rw [if_pos hd]; exact PSt.fail_fk s (by decide)
      rw [if_pos hf] at hk
      exact hf hk
    rw [expr_eq kw val hg.1 hd] at hk ⊢
    by_cases hdig : digitsM s.hd.1 = true
    · rw [if_pos hdig] at hk ⊢
      obtain ⟨f1, f2, f3, f4, f5, u⟩ := num_ok hg hk
      have hW : (⟨1, (s.num val 18446744073709551615).1, [], 0, 0, plZ, []⟩ : GExpr).W = [s.hd.1] := by
       simp only [GExpr.W, numW, f2, f5, if_pos]
      rw [hW]
      refine ⟨u, ⟨_, _, rfl, ?_⟩, fun m hm r R ha hr => ?_⟩
      · constructor <;> (intro e; rw [e] at hdig; exact absurd hdig (by decide))
      · obtain ⟨m, rfl⟩ : ∃ k, m = k + 1 := ⟨m - 1, by simp at hm; omega⟩
        obtain ⟨h0, h1, _⟩ := ha.hd
        rw [expr_eq kw val h0 hd, h1, if_pos hdig, ha.num f1 f3, f2, ha.one]
    rw [if_neg hdig] at hk ⊢
    by_cases hnm : lettersM s.hd.1 = true ∧ kw s.hd.1 = false
    · rw [if_pos hnm] at hk ⊢
      have hne : s.hd.1 ≠ [] := by intro e; rw [e] at hnm; cases hnm.1
      have hW : (⟨2, 0, s.hd.1, 0, 0, plZ, []⟩ : GExpr).W = [s.hd.1] := by simp [GExpr.W]
      rw [hW]
      refine ⟨hg.adv hne, ⟨_, _, rfl, ?_⟩, fun m hm r R ha hr => ?_⟩
      · constructor <;> (intro e; rw [e] at hnm; exact absurd hnm.1 (by decide))
      · obtain ⟨m, rfl⟩ : ∃ k, m = k + 1 := ⟨m - 1, by simp at hm; omega⟩
        obtain ⟨h0, h1, _⟩ := ha.hd
        rw [expr_eq kw val h0 hd, h1, if_neg hdig, if_pos hnm, ha.one]
    rw [if_neg hnm] at hk ⊢
    by_cases h40 : s.hd.1 = [40]
    · rw [if_pos h40] at hk ⊢
      have u0 := hg.adv (by rw [h40]; decide)
      have hl1 : s.adv.toks.length ≤ n := by have := u0.len; simp at this; omega
      obtain ⟨ws, e, u, again⟩ := bin_rp kw val ih.1 d s.adv u0.1 hl1 hk
      rw [e]
      refine ⟨by rw [h40] at u0; simpa using u0.trans u, ⟨_, _, rfl, by decide, by decide⟩, fun m hm r R ha hr => ?_⟩
      obtain ⟨m, rfl⟩ : ∃ k, m = k + 1 := ⟨m - 1, by simp at hm; omega⟩
      obtain ⟨h0, h1, b1, c1⟩ := ha.hd
      rw [expr_eq kw val h0 hd, h1, if_neg (by decide), if_neg (fun e => absurd e.1 (by decide)), if_pos rfl, again m (by simpa using hm) r.adv R b1, c1]
    rw [if_neg h40] at hk ⊢
    have acc : ∀ (w : Wd) (kind : Int) (k : Nat), s.hd.1 = w → w ≠ [] → NP w → (if kind = 4 then [114, 101, 97, 100] else ofW (i64w (kind - 5)) accWL) = w → (kind = 4 → k = 0) → (kind = 4 ∨ 5 ≤ kind ∧ kind ≤ 8) →
      (accM kw (fun d s => exprM kw val n d s) (fun d s => partsM kw val n d s) kind k d s.adv).2.fk = 0 →
      (∀ m r, r.fk = 0 → r.hd.1 = w → exprM kw val (m + 1) d r = accM kw (fun d s => exprM kw val m d s) (fun d s => partsM kw val m d s) kind k d r.adv) →
      Took val s (accM kw (fun d s => exprM kw val n d s) (fun d s => partsM kw val n d s) kind k d s.adv).1.W (accM kw (fun d s => exprM kw val n d s) (fun d s => partsM kw val n d s) kind k d s.adv).2 ∧
      (∃ w l, (accM kw (fun d s => exprM kw val n d s) (fun d s => partsM kw val n d s) kind k d s.adv).1.W = w :: l ∧ NP w) ∧
      ∀ m, (accM kw (fun d s => exprM kw val n d s) (fun d s => partsM kw val n d s) kind k d s.adv).1.W.length ≤ m → ∀ r R, Ahead r (accM kw (fun d s => exprM kw val n d s) (fun d s => partsM kw val n d s) kind k d s.adv).1.W R → NP (hdW R) →
       exprM kw val m d r = ((accM kw (fun d s => exprM kw val n d s) (fun d s => partsM kw val n d s) kind k d s.adv).1, r.at R) := by
     intro w kind k hw hne hnp hww h0k hkd hk hex
     have u0 := hg.adv (by rw [hw]; exact hne)
     rw [hw] at u0
     have hl1 : s.adv.toks.length ≤ n := by have := u0.len; simp at this; omega
     obtain ⟨ws, e, u, again⟩ := acc_rp kw val ih.1 ih.2 kind k h0k hkd d s.adv u0.1 hl1 hk
     rw [hww] at e
     rw [e]
     refine ⟨by simpa using u0.trans u, ⟨_, _, rfl, hnp⟩, fun m hm r R ha hr => ?_⟩
     obtain ⟨m, rfl⟩ : ∃ k, m = k + 1 := ⟨m - 1, by simp at hm; omega⟩
     obtain ⟨h0, h1, b1, c1⟩ := ha.hd
     rw [hex m r h0 h1, again m (by simpa using hm) r.adv R b1 hr, c1]
    have kwt : ∀ w, s.hd.1 = w → lettersM w = true → ¬ kw w = false := fun w h1 h2 h3 => hnm ⟨by rw [h1]; exact h2, by rw [h1]; exact h3⟩
    by_cases h1 : s.hd.1 = [114, 101, 97, 100]
    · rw [if_pos h1] at hk ⊢
      refine acc [114, 101, 97, 100] 4 0 h1 (by decide) ⟨by decide, by decide⟩ (by decide +kernel) (fun _ => rfl) (.inl rfl) hk fun m r hr0 hr1 => ?_
      rw [expr_eq kw val hr0 hd, hr1, if_neg (by decide), if_neg (fun e => kwt _ h1 (by decide) e.2), if_neg (by decide), if_pos rfl]
    rw [if_neg h1] at hk ⊢
    by_cases h2 : s.hd.1 = [108, 111, 97, 100]
    · rw [if_pos h2] at hk ⊢
      refine acc [108, 111, 97, 100] 5 0 h2 (by decide) ⟨by decide, by decide⟩ (by decide +kernel) (fun h => absurd h (by decide)) (.inr ⟨by decide, by decide⟩) hk fun m r hr0 hr1 => ?_
      rw [expr_eq kw val hr0 hd, hr1, if_neg (by decide), if_neg (fun e => kwt _ h2 (by decide) e.2), if_neg (by decide), if_neg (by decide), if_pos rfl]
    rw [if_neg h2] at hk ⊢
    by_cases h3 : s.hd.1 = [97, 100, 100]
    · rw [if_pos h3] at hk ⊢
      refine acc [97, 100, 100] 6 1 h3 (by decide) ⟨by decide, by decide⟩ (by decide +kernel) (fun h => absurd h (by decide)) (.inr ⟨by decide, by decide⟩) hk fun m r hr0 hr1 => ?_
      rw [expr_eq kw val hr0 hd, hr1, if_neg (by decide), if_neg (fun e => kwt _ h3 (by decide) e.2), if_neg (by decide), if_neg (by decide), if_neg (by decide), if_pos rfl]
    rw [if_neg h3] at hk ⊢
    by_cases h4 : s.hd.1 = [115, 119, 97, 112]
    · rw [if_pos h4] at hk ⊢
      refine acc [115, 119, 97, 112] 7 1 h4 (by decide) ⟨by decide, by decide⟩ (by decide +kernel) (fun h => absurd h (by decide)) (.inr ⟨by decide, by decide⟩) hk fun m r hr0 hr1 => ?_
      rw [expr_eq kw val hr0 hd, hr1, if_neg (by decide), if_neg (fun e => kwt _ h4 (by decide) e.2), if_neg (by decide), if_neg (by decide), if_neg (by decide), if_neg (by decide), if_pos rfl]
    rw [if_neg h4] at hk ⊢
    by_cases h5 : s.hd.1 = [99, 97, 115]
    · rw [if_pos h5] at hk ⊢
      refine acc [99, 97, 115] 8 2 h5 (by decide) ⟨by decide, by decide⟩ (by decide +kernel) (fun h => absurd h (by decide)) (.inr ⟨by decide, by decide⟩) hk fun m r hr0 hr1 => ?_
      rw [expr_eq kw val hr0 hd, hr1, if_neg (by decide), if_neg (fun e => kwt _ h5 (by decide) e.2), if_neg (by decide), if_neg (by decide), if_neg (by decide), if_neg (by decide), if_neg (by decide), if_pos rfl]
    rw [if_neg h5] at hk
    exact absurd hk (PSt.fail_fk s (by decide))
  · rw [partsM] at hk ⊢
    dsimp only at hk ⊢
    rw [if_neg (by rw [hg.1]; simp)] at hk ⊢
    simp only [isW_eq hg.1] at hk ⊢
    have stop : ∀ m r R, Ahead r [] R → NP (hdW R) → partsM kw val m d r = ([], r.at R) := by
     intro m r R ha hr
     cases m with
     | zero => rw [partsM, ← ha.nil]
     | succ m =>
      have h0 : r.hd.1 = hdW R := ha.head0
      rw [partsM]
      dsimp only
      rw [if_neg (by rw [ha.1]; simp)]
      simp only [isW_eq ha.1]
      rw [if_neg (by rw [h0]; exact hr.1), if_neg (by rw [h0]; exact hr.2), ← ha.nil]
    by_cases h46 : s.hd.1 = [46]
    · rw [if_pos h46] at hk ⊢
      have u0 := hg.adv (by rw [h46]; decide)
      rw [h46] at u0
      have k0 : (s.adv.nameS kw).fk = 0 := by
       rcases Int.decEq (s.adv.nameS kw).fk 0 with h | h
       · exact absurd hk ((Sub.parts kw val n _ _).2.2 h)
       · exact h
      obtain ⟨f1, f2, f3, u1⟩ := name_ok (kw := kw) u0.1 k0
      have hl1 : (s.adv.nameS kw).toks.length ≤ n := by have a := u0.len; have b := u1.len; simp at a b; omega
      obtain ⟨t1, t2⟩ := ih.2 d _ u1.1 hl1 hk
      generalize partsM kw val n d (s.adv.nameS kw) = T at *
      have hW : GPart.Ws (⟨s.adv.nameT kw, []⟩ :: T.1) = [46] :: s.adv.nameT kw :: GPart.Ws T.1 := by simp [GPart.Ws, GPart.W]
      rw [hW]
      refine ⟨by simpa using (u0.trans u1).trans t1, fun m hm r R ha hr => ?_⟩
      obtain ⟨m, rfl⟩ : ∃ k, m = k + 1 := ⟨m - 1, by simp at hm; omega⟩
      obtain ⟨h0, h1, b1, c1⟩ := ha.hd
      obtain ⟨_, _, b2, c2⟩ := b1.hd
      obtain ⟨n1, n2⟩ := Ahead.name (kw := kw) b1 (by rw [f1]; exact f2) (by rw [f1]; exact f3)
      rw [partsM]
      dsimp only
      rw [if_neg (by rw [ha.1]; simp)]
      simp only [isW_eq ha.1]
      rw [if_pos h1, n1, n2, t2 m (by simp at hm; omega) _ R b2 hr, c2, c1]
    rw [if_neg h46] at hk ⊢
    by_cases h91 : s.hd.1 = [91]
    · rw [if_pos h91] at hk ⊢
      have u0 := hg.adv (by rw [h91]; decide)
      rw [h91] at u0
      have k1 : ((exprM kw val n (x64 (d + 1)) s.adv).2.want [93]).fk = 0 := by
       rcases Int.decEq ((exprM kw val n (x64 (d + 1)) s.adv).2.want [93]).fk 0 with h | h
       · exact absurd hk ((Sub.parts kw val n _ _).2.2 h)
       · exact h
      have k0 : (exprM kw val n (x64 (d + 1)) s.adv).2.fk = 0 := by
       rcases Int.decEq (exprM kw val n (x64 (d + 1)) s.adv).2.fk 0 with h | h
       · exact absurd k1 ((Sub.want _ _).2.2 h)
       · exact h
      have hl1 : s.adv.toks.length ≤ n := by have := u0.len; simp at this; omega
      obtain ⟨e1, _, e2⟩ := ih.1 (x64 (d + 1)) _ u0.1 hl1 k0
      generalize exprM kw val n (x64 (d + 1)) s.adv = E at *
      obtain ⟨_, u2⟩ := want_ok e1.1 k1 (by decide)
      have hl2 : (E.2.want [93]).toks.length ≤ n := by have a := e1.len; have b := u2.len; omega
      obtain ⟨t1, t2⟩ := ih.2 d _ u2.1 hl2 hk
      generalize partsM kw val n d (E.2.want [93]) = T at *
      have hW : GPart.Ws (⟨[], [E.1]⟩ :: T.1) = [91] :: (E.1.W ++ ([93] :: GPart.Ws T.1)) := by simp [GPart.Ws, GPart.W, GExpr.Ws]
      rw [hW]
      refine ⟨by simpa using (u0.trans e1).trans (u2.trans t1), fun m hm r R ha hr => ?_⟩
      obtain ⟨m, rfl⟩ : ∃ k, m = k + 1 := ⟨m - 1, by simp at hm; omega⟩
      obtain ⟨h0, h1, b1, c1⟩ := ha.hd
      obtain ⟨R1, a1, a2, a3⟩ := b1.split
      obtain ⟨_, _, b3, c3⟩ := a2.hd
      rw [partsM]
      dsimp only
      rw [if_neg (by rw [ha.1]; simp)]
      simp only [isW_eq ha.1]
      rw [if_neg (by rw [h1]; decide), if_pos h1, e2 m (by simp at hm; omega) _ R1 a1 (by rw [a3]; exact (⟨by decide, by decide⟩ : NP [93]))]
      dsimp only
      rw [a2.want, t2 m (by simp at hm; omega) _ R b3 hr, c3, at_at, c1]
    rw [if_neg h91] at hk ⊢
    exact ⟨Took.refl hg, fun m hm r R ha hr => stop m r R ha hr⟩
end
end Rb

namespace Rb
open Go
abbrev elseW : Wd := [101, 108, 115, 101]
section
variable (kw : Wd → Bool) (val : Wd → Int)
variable {s r : PSt} {R : List (Wd × Int)}
theorem fk_back {α : Type} {a b : PSt} (h : Sub a b) (hk : b.fk = 0) : a.fk = 0 := by
 rcases Int.decEq a.fk 0 with e | e
 · exact absurd hk (h.2.2 e)
 · exact e
theorem value_rp {n : Nat} (hE : ExpRP kw val n) (d : Int) (s : PSt) (hg : Fine val s) (hl : s.toks.length ≤ n) (z : Wd) (hz : z ≠ []) (hnp : NP z) (hk : ((valueF (exprM kw val n) d s).2.want z).fk = 0) :
  Took val s ([61] :: ((valueF (exprM kw val n) d s).1.W ++ [z])) ((valueF (exprM kw val n) d s).2.want z) ∧
  ∀ m, (valueF (exprM kw val n) d s).1.W.length ≤ m → ∀ r ws R, Ahead r ([61] :: ((valueF (exprM kw val n) d s).1.W ++ z :: ws)) R →
   (valueF (exprM kw val m) d r).1 = (valueF (exprM kw val n) d s).1 ∧ Ahead ((valueF (exprM kw val m) d r).2.want z) ws R ∧ ((valueF (exprM kw val m) d r).2.want z).at R = r.at R := by
 unfold valueF at hk ⊢
 have k1 := fk_back (α := Unit) (Sub.want _ z) hk
 have k0 := fk_back (α := Unit) (Sub.expr kw val n (x64 (d + 1)) (s.want [61])) k1
 obtain ⟨_, u0⟩ := want_ok hg k0 (by decide)
 have hl1 : (s.want [61]).toks.length ≤ n := by have := u0.len; omega
 obtain ⟨e1, _, e2⟩ := hE (x64 (d + 1)) _ u0.1 hl1 k1
 generalize exprM kw val n (x64 (d + 1)) (s.want [61]) = E at *
 obtain ⟨_, u1⟩ := want_ok e1.1 hk hz
 refine ⟨by simpa using u0.trans (e1.trans u1), fun m hm r ws R ha => ?_⟩
 obtain ⟨_, _, b1, c1⟩ := ha.hd
 obtain ⟨R1, a1, a2, a3⟩ := b1.split
 obtain ⟨_, _, b2, c2⟩ := a2.hd
 rw [ha.want, e2 m hm _ R1 a1 (by rw [a3]; exact hnp)]
 dsimp only
 rw [a2.want]
 exact ⟨rfl, b2, by rw [c2, at_at, c1]⟩
def StsRP (n : Nat) : Prop := ∀ d s, Fine val s → s.toks.length ≤ n → (stmtsM kw val n d s).2.fk = 0 →
 Took val s (GStmt.Ws (stmtsM kw val n d s).1 ++ [[125]]) (stmtsM kw val n d s).2 ∧ (∃ w l, GStmt.Ws (stmtsM kw val n d s).1 ++ [[125]] = w :: l ∧ w ≠ elseW) ∧
  ∀ m, (GStmt.Ws (stmtsM kw val n d s).1 ++ [[125]]).length ≤ m → ∀ r R, Ahead r (GStmt.Ws (stmtsM kw val n d s).1 ++ [[125]]) R →
   ∃ l', stmtsM kw val m d r = (l', r.at R) ∧ GStmt.ers l' = GStmt.ers (stmtsM kw val n d s).1
theorem block_rp {n : Nat} (hS : StsRP kw val n) (d : Int) (s : PSt) (hg : Fine val s) (hl : s.toks.length ≤ n + 1) (hk : (blockF (fun d s => stmtsM kw val n d s) d s).2.fk = 0) :
  Took val s (blockW (blockF (fun d s => stmtsM kw val n d s) d s).1) (blockF (fun d s => stmtsM kw val n d s) d s).2 ∧
  ∀ m, (blockW (blockF (fun d s => stmtsM kw val n d s) d s).1).length ≤ m + 1 → ∀ r R, Ahead r (blockW (blockF (fun d s => stmtsM kw val n d s) d s).1) R →
   ∃ l', blockF (fun d s => stmtsM kw val m d s) d r = (l', r.at R) ∧ GStmt.ers l' = GStmt.ers (blockF (fun d s => stmtsM kw val n d s) d s).1 := by
 unfold blockF at hk ⊢
 dsimp only at hk ⊢
 by_cases hb : (s.deep d).fk ≠ 0
 · rw [if_pos hb] at hk; exact absurd hk hb
 rw [if_neg hb] at hk ⊢
 simp only [ne_eq, Decidable.not_not] at hb
 obtain ⟨hd, es⟩ := deep_ok hb
 rw [es] at hk ⊢
 have k0 := fk_back (α := Unit) (Sub.stmts kw val n d (s.want [123])) hk
 obtain ⟨_, u0⟩ := want_ok hg k0 (by decide)
 have hl1 : (s.want [123]).toks.length ≤ n := by have := u0.len; simp at this; omega
 obtain ⟨t1, _, t2⟩ := hS d _ u0.1 hl1 hk
 generalize stmtsM kw val n d (s.want [123]) = T at *
 refine ⟨by simpa [blockW] using u0.trans t1, fun m hm r R ha => ?_⟩
 have ha' : Ahead r ([123] :: (GStmt.Ws T.1 ++ [[125]])) R := ha
 obtain ⟨_, _, b1, c1⟩ := ha'.hd
 rw [ha'.deep hd, if_neg (by rw [ha.1]; simp), ha'.want]
 obtain ⟨l', e1, e2⟩ := t2 m (by simp [blockW] at hm; simp; omega) r.adv R b1
 exact ⟨l', by rw [e1, c1], e2⟩
def letB (kind d : Int) (m : Nat) (l : Int) (s : PSt) : GStmt × PSt :=
 ({ stZ l with kind := kind, name := s.nameT kw, exprs := [(valueF (exprM kw val m) d (s.nameS kw)).1] }, (valueF (exprM kw val m) d (s.nameS kw)).2.want [59])
def placeB (d : Int) (m : Nat) (s : PSt) : GPlace × PSt := placeM' kw (fun d s => partsM kw val m d s) d s
def writeB (d : Int) (m : Nat) (l : Int) (s : PSt) : GStmt × PSt :=
 ({ stZ l with kind := 3, place := (placeB kw val d m s).1, exprs := [(valueF (exprM kw val m) d (placeB kw val d m s).2).1] }, (valueF (exprM kw val m) d (placeB kw val d m s).2).2.want [59])
def storeB (d : Int) (m : Nat) (l : Int) (s : PSt) : GStmt × PSt :=
 ({ stZ l with kind := 4, order := (orderM s).1, place := (placeB kw val d m (orderM s).2).1, exprs := [(valueF (exprM kw val m) d (placeB kw val d m (orderM s).2).2).1] }, (valueF (exprM kw val m) d (placeB kw val d m (orderM s).2).2).2.want [59])
def load2B (d : Int) (m : Nat) (l : Int) (s : PSt) : GStmt × PSt :=
 ({ stZ l with kind := 5, order := (orderM s).1, place := (placeB kw val d m (orderM s).2).1, name := (placeB kw val d m (orderM s).2).2.nameT kw, name2 := ((placeB kw val d m (orderM s).2).2.nameS kw).nameT kw }, (((placeB kw val d m (orderM s).2).2.nameS kw).nameS kw).want [59])
def store2B (d : Int) (m : Nat) (l : Int) (s : PSt) : GStmt × PSt :=
 ({ stZ l with kind := 6, order := (orderM s).1, place := (placeB kw val d m (orderM s).2).1, exprs := [(valueF (exprM kw val m) d (placeB kw val d m (orderM s).2).2).1, (exprM kw val m (x64 (d + 1)) ((valueF (exprM kw val m) d (placeB kw val d m (orderM s).2).2).2.want [44])).1] },
   (exprM kw val m (x64 (d + 1)) ((valueF (exprM kw val m) d (placeB kw val d m (orderM s).2).2).2.want [44])).2.want [59])
def fenceB (m : Nat) (l : Int) (s : PSt) : GStmt × PSt := ({ stZ l with kind := 7, order := (orderM s).1 }, (orderM s).2.want [59])
def printB (d : Int) (m : Nat) (l : Int) (s : PSt) : GStmt × PSt := ({ stZ l with kind := 10, exprs := [(exprM kw val m (x64 (d + 1)) s).1] }, (exprM kw val m (x64 (d + 1)) s).2.want [59])
def blkB (d : Int) (m : Nat) (s : PSt) : List GStmt × PSt := blockF (fun d s => stmtsM kw val m d s) (x64 (d + 1)) s
def ifB (d : Int) (m : Nat) (l : Int) (s : PSt) : GStmt × PSt :=
 if (blkB kw val d m (exprM kw val m (x64 (d + 1)) s).2).2.isW elseW = true then
  ({ stZ l with kind := 8, exprs := [(exprM kw val m (x64 (d + 1)) s).1], thn := (blkB kw val d m (exprM kw val m (x64 (d + 1)) s).2).1, els := (blkB kw val d m (blkB kw val d m (exprM kw val m (x64 (d + 1)) s).2).2.adv).1 }, (blkB kw val d m (blkB kw val d m (exprM kw val m (x64 (d + 1)) s).2).2.adv).2)
 else ({ stZ l with kind := 8, exprs := [(exprM kw val m (x64 (d + 1)) s).1], thn := (blkB kw val d m (exprM kw val m (x64 (d + 1)) s).2).1 }, (blkB kw val d m (exprM kw val m (x64 (d + 1)) s).2).2)
def whileB (d : Int) (m : Nat) (l : Int) (s : PSt) : GStmt × PSt :=
 ({ stZ l with kind := 9, exprs := [(exprM kw val m (x64 (d + 1)) s).1], thn := (blkB kw val d m (exprM kw val m (x64 (d + 1)) s).2).1 }, (blkB kw val d m (exprM kw val m (x64 (d + 1)) s).2).2)
theorem stmt_eq {m : Nat} {d : Int} (hk : s.fk = 0) : stmtF kw (exprM kw val m) (partsM kw val m) (fun d s => stmtsM kw val m d s) d s =
  (if s.hd.1 = [108, 101, 116] then letB kw val 1 d m s.hd.2 s.adv
  else if s.hd.1 = [115, 101, 116] then letB kw val 2 d m s.hd.2 s.adv
  else if s.hd.1 = [119, 114, 105, 116, 101] then writeB kw val d m s.hd.2 s.adv
  else if s.hd.1 = [115, 116, 111, 114, 101] then storeB kw val d m s.hd.2 s.adv
  else if s.hd.1 = [108, 111, 97, 100, 50] then load2B kw val d m s.hd.2 s.adv
  else if s.hd.1 = [115, 116, 111, 114, 101, 50] then store2B kw val d m s.hd.2 s.adv
  else if s.hd.1 = [102, 101, 110, 99, 101] then fenceB m s.hd.2 s.adv
  else if s.hd.1 = [112, 114, 105, 110, 116] then printB kw val d m s.hd.2 s.adv
  else if s.hd.1 = [105, 102] then ifB kw val d m s.hd.2 s.adv
  else if s.hd.1 = [119, 104, 105, 108, 101] then whileB kw val d m s.hd.2 s.adv
  else (stZ s.hd.2, s.fail 4)) := by
 unfold stmtF controlF
 dsimp only
 simp only [isW_eq hk]
 rfl
def SB (B : Nat → Int → PSt → GStmt × PSt) (w : Wd) (n : Nat) : Prop := ∀ l s, Fine val s → s.toks.length ≤ n → (B n l s).2.fk = 0 →
 ∃ ws, (B n l s).1.W = w :: ws ∧ Took val s ws (B n l s).2 ∧ ∀ m, ws.length ≤ m → ∀ l' r R, Ahead r ws R → hdW R ≠ elseW → ∃ x', B m l' r = (x', r.at R) ∧ x'.er = (B n l s).1.er
theorem NP59 : NP [59] := ⟨by decide, by decide⟩
theorem NP44 : NP [44] := ⟨by decide, by decide⟩
theorem NP61 : NP [61] := ⟨by decide, by decide⟩
theorem NP123 : NP [123] := ⟨by decide, by decide⟩
theorem letters_NP {w : Wd} (h : lettersM w = true) : NP w := by
 constructor <;> (intro e; rw [e] at h; exact absurd h (by decide))
section
variable {n : Nat} (hE : ExpRP kw val n) (hP : ParRP kw val n)
include hE in
theorem let_sb (kind d : Int) (w : Wd) (hkd : kind = 1 ∨ kind = 2) (hof : ofW (i64w (kind - 1)) stmWL = w) : SB val (letB kw val kind d) w n := by
 intro l s hg hl hk
 unfold letB at hk ⊢
 dsimp only at hk ⊢
 have k0 : (s.nameS kw).fk = 0 := fk_back (α := Unit) ((Sub.value (fun d s => Sub.expr kw val n d s) d _).trans (Sub.want _ _)) hk
 obtain ⟨f1, f2, f3, u1⟩ := name_ok (kw := kw) hg k0
 have hl1 : (s.nameS kw).toks.length ≤ n := by have := u1.len; omega
 obtain ⟨v1, v2⟩ := value_rp kw val hE d _ u1.1 hl1 [59] (by decide) NP59 hk
 generalize valueF (exprM kw val n) d (s.nameS kw) = V at *
 refine ⟨s.nameT kw :: [61] :: (V.1.W ++ [[59]]), ?_, by simpa using u1.trans v1, fun m hm l' r R ha hr => ?_⟩
 · have h8 : ¬ (kind = 8 ∨ kind = 9) := by omega
   simp only [stZ, GStmt.W, headW, if_pos hkd, if_neg h8, exprsW, hof]
   simp
 · obtain ⟨n1, n2⟩ := Ahead.name (kw := kw) ha (by rw [f1]; exact f2) (by rw [f1]; exact f3)
   obtain ⟨_, _, b2, c2⟩ := ha.hd
   obtain ⟨q1, q2, q3⟩ := v2 m (by simp at hm; omega) _ [] R b2
   rw [n1, n2, q1]
   exact ⟨_, by rw [q2.nil, q3, c2], by simp [GStmt.er, stZ]⟩
include hE hP in
theorem write_sb (d : Int) : SB val (writeB kw val d) [119, 114, 105, 116, 101] n := by
 intro l s hg hl hk
 unfold writeB placeB at hk ⊢
 dsimp only at hk ⊢
 have k0 : (placeM' kw (fun d s => partsM kw val n d s) d s).2.fk = 0 := fk_back (α := Unit) ((Sub.value (fun d s => Sub.expr kw val n d s) d _).trans (Sub.want _ _)) hk
 obtain ⟨p1, _, p2⟩ := place_rp kw val hP d s hg (by omega) k0
 generalize placeM' kw (fun d s => partsM kw val n d s) d s = P at *
 have hl1 : P.2.toks.length ≤ n := by have := p1.len; omega
 obtain ⟨v1, v2⟩ := value_rp kw val hE d _ p1.1 hl1 [59] (by decide) NP59 hk
 generalize valueF (exprM kw val n) d P.2 = V at *
 refine ⟨P.1.W ++ [61] :: (V.1.W ++ [[59]]), ?_, by simpa using p1.trans v1, fun m hm l' r R ha hr => ?_⟩
 · simp only [stZ, GStmt.W, headW, exprsW, show ofW (i64w (3 - 1)) stmWL = [119, 114, 105, 116, 101] from by decide +kernel]
   simp
 · obtain ⟨R1, a1, a2, a3⟩ := ha.split
   rw [p2 m (by simp at hm; omega) r R1 a1 (by rw [a3]; exact NP61)]
   dsimp only
   obtain ⟨q1, q2, q3⟩ := v2 m (by simp at hm; omega) _ [] R a2
   rw [q1]
   exact ⟨_, by rw [q2.nil, q3, at_at], by simp [GStmt.er, stZ]⟩
include hE hP in
theorem store_sb (d : Int) : SB val (storeB kw val d) [115, 116, 111, 114, 101] n := by
 intro l s hg hl hk
 unfold storeB placeB at hk ⊢
 dsimp only at hk ⊢
 have k0 : (placeM' kw (fun d s => partsM kw val n d s) d (orderM s).2).2.fk = 0 := fk_back (α := Unit) ((Sub.value (fun d s => Sub.expr kw val n d s) d _).trans (Sub.want _ _)) hk
 have k1 : (orderM s).2.fk = 0 := fk_back (α := Unit) (Sub.place kw (fun d s => Sub.parts kw val n d s) d _) k0
 obtain ⟨o1, o2⟩ := order_ok val hg k1
 generalize orderM s = O at *
 have hl0 : O.2.toks.length ≤ n := by have := o1.len; omega
 obtain ⟨p1, _, p2⟩ := place_rp kw val hP d O.2 o1.1 (by omega) k0
 generalize placeM' kw (fun d s => partsM kw val n d s) d O.2 = P at *
 have hl1 : P.2.toks.length ≤ n := by have := p1.len; omega
 obtain ⟨v1, v2⟩ := value_rp kw val hE d _ p1.1 hl1 [59] (by decide) NP59 hk
 generalize valueF (exprM kw val n) d P.2 = V at *
 refine ⟨orderW O.1 :: (P.1.W ++ [61] :: (V.1.W ++ [[59]])), ?_, by simpa using o1.trans (p1.trans v1), fun m hm l' r R ha hr => ?_⟩
 · simp only [stZ, GStmt.W, headW, exprsW, show ofW (i64w (4 - 1)) stmWL = [115, 116, 111, 114, 101] from by decide +kernel]
   simp
 · obtain ⟨_, _, b1, c1⟩ := ha.hd
   obtain ⟨R1, a1, a2, a3⟩ := b1.split
   rw [o2 r _ R ha]
   dsimp only
   rw [p2 m (by simp at hm; omega) r.adv R1 a1 (by rw [a3]; exact NP61)]
   dsimp only
   obtain ⟨q1, q2, q3⟩ := v2 m (by simp at hm; omega) _ [] R a2
   rw [q1]
   exact ⟨_, by rw [q2.nil, q3, at_at, c1], by simp [GStmt.er, stZ]⟩
include hP in
theorem load2_sb (d : Int) : SB val (load2B kw val d) [108, 111, 97, 100, 50] n := by
 intro l s hg hl hk
 unfold load2B placeB at hk ⊢
 dsimp only at hk ⊢
 have k3 : (((placeM' kw (fun d s => partsM kw val n d s) d (orderM s).2).2.nameS kw).nameS kw).fk = 0 := fk_back (α := Unit) (Sub.want _ _) hk
 have k2 : ((placeM' kw (fun d s => partsM kw val n d s) d (orderM s).2).2.nameS kw).fk = 0 := fk_back (α := Unit) (Sub.nameS kw _) k3
 have k0 : (placeM' kw (fun d s => partsM kw val n d s) d (orderM s).2).2.fk = 0 := fk_back (α := Unit) (Sub.nameS kw _) k2
 have k1 : (orderM s).2.fk = 0 := fk_back (α := Unit) (Sub.place kw (fun d s => Sub.parts kw val n d s) d _) k0
 obtain ⟨o1, o2⟩ := order_ok val hg k1
 generalize orderM s = O at *
 have hl0 : O.2.toks.length ≤ n := by have := o1.len; omega
 obtain ⟨p1, _, p2⟩ := place_rp kw val hP d O.2 o1.1 (by omega) k0
 generalize placeM' kw (fun d s => partsM kw val n d s) d O.2 = P at *
 obtain ⟨f1, f2, f3, u1⟩ := name_ok (kw := kw) p1.1 k2
 obtain ⟨g1, g2, g3, u2⟩ := name_ok (kw := kw) u1.1 k3
 obtain ⟨_, u3⟩ := want_ok u2.1 hk (by decide)
 refine ⟨orderW O.1 :: (P.1.W ++ P.2.nameT kw :: (P.2.nameS kw).nameT kw :: [[59]]), ?_, by simpa using o1.trans (p1.trans (u1.trans (u2.trans u3))), fun m hm l' r R ha hr => ?_⟩
 · simp only [stZ, GStmt.W, headW, exprsW, show ofW (i64w (5 - 1)) stmWL = [108, 111, 97, 100, 50] from by decide +kernel]
   simp
 · obtain ⟨_, _, b1, c1⟩ := ha.hd
   obtain ⟨R1, a1, a2, a3⟩ := b1.split
   rw [o2 r _ R ha]
   dsimp only
   rw [p2 m (by simp at hm; omega) r.adv R1 a1 (by rw [a3]; exact letters_NP (by show lettersM (P.2.nameT kw) = true; rw [f1]; exact f2))]
   dsimp only
   obtain ⟨n1, n2⟩ := Ahead.name (kw := kw) a2 (by rw [f1]; exact f2) (by rw [f1]; exact f3)
   obtain ⟨_, _, b2, c2⟩ := a2.hd
   obtain ⟨n3, n4⟩ := Ahead.name (kw := kw) b2 (by rw [g1]; exact g2) (by rw [g1]; exact g3)
   obtain ⟨_, _, b3, c3⟩ := b2.hd
   rw [n1, n2, n3, n4, Ahead.want (w := [59]) b3, Ahead.one (w := [59]) b3]
   exact ⟨_, by rw [c3, c2, at_at, c1], by simp [GStmt.er, stZ]⟩
include hE hP in
theorem store2_sb (d : Int) : SB val (store2B kw val d) [115, 116, 111, 114, 101, 50] n := by
 intro l s hg hl hk
 unfold store2B placeB at hk ⊢
 dsimp only at hk ⊢
 have k4 : (exprM kw val n (x64 (d + 1)) ((valueF (exprM kw val n) d (placeM' kw (fun d s => partsM kw val n d s) d (orderM s).2).2).2.want [44])).2.fk = 0 := fk_back (α := Unit) (Sub.want _ _) hk
 have k3 : ((valueF (exprM kw val n) d (placeM' kw (fun d s => partsM kw val n d s) d (orderM s).2).2).2.want [44]).fk = 0 := fk_back (α := Unit) (Sub.expr kw val n _ _) k4
 have k0 : (placeM' kw (fun d s => partsM kw val n d s) d (orderM s).2).2.fk = 0 := fk_back (α := Unit) ((Sub.value (fun d s => Sub.expr kw val n d s) d _).trans (Sub.want _ _)) k3
 have k1 : (orderM s).2.fk = 0 := fk_back (α := Unit) (Sub.place kw (fun d s => Sub.parts kw val n d s) d _) k0
 obtain ⟨o1, o2⟩ := order_ok val hg k1
 generalize orderM s = O at *
 have hl0 : O.2.toks.length ≤ n := by have := o1.len; omega
 obtain ⟨p1, _, p2⟩ := place_rp kw val hP d O.2 o1.1 (by omega) k0
 generalize placeM' kw (fun d s => partsM kw val n d s) d O.2 = P at *
 have hl1 : P.2.toks.length ≤ n := by have := p1.len; omega
 obtain ⟨v1, v2⟩ := value_rp kw val hE d _ p1.1 hl1 [44] (by decide) NP44 k3
 generalize valueF (exprM kw val n) d P.2 = V at *
 have hl2 : (V.2.want [44]).toks.length ≤ n := by have := v1.len; omega
 obtain ⟨e1, _, e2⟩ := hE (x64 (d + 1)) _ v1.1 hl2 k4
 generalize exprM kw val n (x64 (d + 1)) (V.2.want [44]) = E at *
 obtain ⟨_, u3⟩ := want_ok e1.1 hk (by decide)
 refine ⟨orderW O.1 :: (P.1.W ++ [61] :: (V.1.W ++ [44] :: (E.1.W ++ [[59]]))), ?_, by simpa using o1.trans (p1.trans (v1.trans (e1.trans u3))), fun m hm l' r R ha hr => ?_⟩
 · simp only [stZ, GStmt.W, headW, exprsW, show ofW (i64w (6 - 1)) stmWL = [115, 116, 111, 114, 101, 50] from by decide +kernel]
   simp
 · obtain ⟨_, _, b1, c1⟩ := ha.hd
   obtain ⟨R1, a1, a2, a3⟩ := b1.split
   rw [o2 r _ R ha]
   dsimp only
   rw [p2 m (by simp at hm; omega) r.adv R1 a1 (by rw [a3]; exact NP61)]
   dsimp only
   obtain ⟨q1, q2, q3⟩ := v2 m (by simp at hm; omega) _ _ R a2
   obtain ⟨R2, d1, d2, d3⟩ := q2.split
   rw [q1, e2 m (by simp at hm; omega) _ R2 d1 (by rw [d3]; exact NP59)]
   dsimp only
   rw [Ahead.want (w := [59]) d2, Ahead.one (w := [59]) d2]
   exact ⟨_, by rw [at_at, q3, at_at, c1], by simp [GStmt.er, stZ]⟩
theorem fence_sb : SB val fenceB [102, 101, 110, 99, 101] n := by
 intro l s hg hl hk
 unfold fenceB at hk ⊢
 dsimp only at hk ⊢
 have k1 : (orderM s).2.fk = 0 := fk_back (α := Unit) (Sub.want _ _) hk
 obtain ⟨o1, o2⟩ := order_ok val hg k1
 generalize orderM s = O at *
 obtain ⟨_, u3⟩ := want_ok o1.1 hk (by decide)
 refine ⟨[orderW O.1, [59]], ?_, by simpa using o1.trans u3, fun m hm l' r R ha hr => ?_⟩
 · simp only [stZ, GStmt.W, headW, exprsW, show ofW (i64w (7 - 1)) stmWL = [102, 101, 110, 99, 101] from by decide +kernel]
   simp
 · obtain ⟨_, _, b1, c1⟩ := ha.hd
   rw [o2 r _ R ha]
   dsimp only
   rw [Ahead.want (w := [59]) b1, Ahead.one (w := [59]) b1]
   exact ⟨_, by rw [c1], by simp [GStmt.er, stZ]⟩
include hE in
theorem print_sb (d : Int) : SB val (printB kw val d) [112, 114, 105, 110, 116] n := by
 intro l s hg hl hk
 unfold printB at hk ⊢
 dsimp only at hk ⊢
 have k1 : (exprM kw val n (x64 (d + 1)) s).2.fk = 0 := fk_back (α := Unit) (Sub.want _ _) hk
 obtain ⟨e1, _, e2⟩ := hE (x64 (d + 1)) _ hg hl k1
 generalize exprM kw val n (x64 (d + 1)) s = E at *
 obtain ⟨_, u3⟩ := want_ok e1.1 hk (by decide)
 refine ⟨E.1.W ++ [[59]], ?_, e1.trans u3, fun m hm l' r R ha hr => ?_⟩
 · simp only [stZ, GStmt.W, headW, exprsW, show ofW (i64w (10 - 1)) stmWL = [112, 114, 105, 110, 116] from by decide +kernel]
   simp
 · obtain ⟨R1, a1, a2, a3⟩ := ha.split
   rw [e2 m (by simp at hm; omega) _ R1 a1 (by rw [a3]; exact NP59)]
   dsimp only
   rw [Ahead.want (w := [59]) a2, Ahead.one (w := [59]) a2]
   exact ⟨_, by rw [at_at], by simp [GStmt.er, stZ]⟩
variable (hS : StsRP kw val n)
include hE hS in
theorem while_sb (d : Int) : SB val (whileB kw val d) [119, 104, 105, 108, 101] n := by
 intro l s hg hl hk
 unfold whileB blkB at hk ⊢
 dsimp only at hk ⊢
 have k1 : (exprM kw val n (x64 (d + 1)) s).2.fk = 0 := fk_back (α := Unit) (Sub.block (Sub.stmts kw val n) _ _) hk
 obtain ⟨e1, _, e2⟩ := hE (x64 (d + 1)) _ hg hl k1
 generalize exprM kw val n (x64 (d + 1)) s = E at *
 have hl1 : E.2.toks.length ≤ n := by have := e1.len; omega
 obtain ⟨b1, b2⟩ := block_rp kw val hS (x64 (d + 1)) E.2 e1.1 (by omega) hk
 generalize blockF (fun d s => stmtsM kw val n d s) (x64 (d + 1)) E.2 = B at *
 refine ⟨E.1.W ++ blockW B.1, ?_, e1.trans b1, fun m hm l' r R ha hr => ?_⟩
 · simp only [stZ, GStmt.W, headW, exprsW, show ofW (i64w (9 - 1)) stmWL = [119, 104, 105, 108, 101] from by decide +kernel]
   simp [blockW]
 · obtain ⟨R1, a1, a2, a3⟩ := ha.split
   rw [e2 m (by simp at hm; omega) _ R1 a1 (by rw [a3]; exact NP123)]
   dsimp only
   obtain ⟨l1, q1, q2⟩ := b2 m (by simp at hm; omega) _ R a2
   rw [q1]
   exact ⟨_, by rw [at_at], by simp [GStmt.er, stZ, q2]⟩
include hE hS in
theorem if_sb (d : Int) : SB val (ifB kw val d) [105, 102] n := by
 intro l s hg hl hk
 unfold ifB blkB at hk ⊢
 have kb : (blockF (fun d s => stmtsM kw val n d s) (x64 (d + 1)) (exprM kw val n (x64 (d + 1)) s).2).2.fk = 0 := by
  by_cases hc : (blockF (fun d s => stmtsM kw val n d s) (x64 (d + 1)) (exprM kw val n (x64 (d + 1)) s).2).2.isW elseW = true
  · exact (isW_hd hc).1
  · rw [if_neg hc] at hk; exact hk
 have k1 : (exprM kw val n (x64 (d + 1)) s).2.fk = 0 := fk_back (α := Unit) (Sub.block (Sub.stmts kw val n) _ _) kb
 obtain ⟨e1, _, e2⟩ := hE (x64 (d + 1)) _ hg hl k1
 generalize exprM kw val n (x64 (d + 1)) s = E at *
 have hl1 : E.2.toks.length ≤ n := by have := e1.len; omega
 obtain ⟨b1, b2⟩ := block_rp kw val hS (x64 (d + 1)) E.2 e1.1 (by omega) kb
 generalize blockF (fun d s => stmtsM kw val n d s) (x64 (d + 1)) E.2 = B at *
 have again0 : ∀ m, (E.1.W ++ blockW B.1).length ≤ m → ∀ l' r R, Ahead r (E.1.W ++ blockW B.1) R → hdW R ≠ elseW → ∃ x', ifB kw val d m l' r = (x', r.at R) ∧ x'.er = ({ stZ l with kind := 8, exprs := [E.1], thn := B.1 } : GStmt).er := by
  intro m hm l' r R ha hr
  obtain ⟨R1, a1, a2, a3⟩ := ha.split
  unfold ifB blkB
  rw [e2 m (by simp at hm; omega) _ R1 a1 (by rw [a3]; exact NP123)]
  dsimp only
  obtain ⟨l1, q1, q2⟩ := b2 m (by simp at hm; omega) _ R a2
  rw [q1]
  dsimp only
  have hno : ((r.at R1).at R).isW elseW = false := by rw [at_at, (at_nil (r := r) ha.1 ha.2.1 : Ahead (r.at R) [] R).isW0]; simpa using hr
  rw [if_neg (by rw [hno]; decide)]
  exact ⟨_, by rw [at_at], by simp [GStmt.er, stZ, q2]⟩
 have hof : ofW (i64w (8 - 1)) stmWL = [105, 102] := by decide +kernel
 by_cases hc : B.2.isW elseW = true
 · rw [if_pos hc] at hk ⊢
   dsimp only at hk ⊢
   obtain ⟨_, u1⟩ := isW_ok b1.1 hc (by decide)
   have hl2 : B.2.adv.toks.length ≤ n := by have a := b1.len; have b := u1.len; omega
   obtain ⟨c1, c2⟩ := block_rp kw val hS (x64 (d + 1)) B.2.adv u1.1 (by omega) hk
   generalize blockF (fun d s => stmtsM kw val n d s) (x64 (d + 1)) B.2.adv = C at *
   by_cases h0 : C.1.length = 0
   · have hnil : C.1 = [] := List.length_eq_zero_iff.1 h0
     refine ⟨E.1.W ++ blockW B.1, ?_, ?_, fun m hm l' r R ha hr => ?_⟩
     · simp only [stZ, GStmt.W, headW, exprsW, hof, h0]
       simp [blockW]
     · refine ((e1.trans b1).trans (u1.trans c1)).less ?_
       exact List.sublist_append_left _ _
     · obtain ⟨x', r1, r2⟩ := again0 m hm l' r R ha hr
       exact ⟨x', r1, by rw [r2, hnil]; rfl⟩
   · refine ⟨E.1.W ++ (blockW B.1 ++ elseW :: blockW C.1), ?_, by simpa using (e1.trans b1).trans (u1.trans c1), fun m hm l' r R ha hr => ?_⟩
     · simp only [stZ, GStmt.W, headW, exprsW, hof, h0]
       simp [blockW]
     · obtain ⟨R1, a1, a2, a3⟩ := ha.split
       obtain ⟨R2, d1, d2, d3⟩ := a2.split
       rw [e2 m (by simp at hm; omega) _ R1 a1 (by rw [a3]; exact NP123)]
       dsimp only
       obtain ⟨l1, q1, q2⟩ := b2 m (by simp at hm; omega) _ R2 d1
       rw [q1]
       dsimp only
       obtain ⟨g0, g1, g2, g3⟩ := d2.hd
       rw [if_pos (by rw [d2.isW]; simp)]
       obtain ⟨l2, q3, q4⟩ := c2 m (by simp at hm; omega) _ R g2
       rw [q3]
       exact ⟨_, by rw [g3, at_at, at_at], by simp [GStmt.er, stZ, q2, q4]⟩
 · rw [if_neg hc] at hk ⊢
   dsimp only at hk ⊢
   refine ⟨E.1.W ++ blockW B.1, ?_, e1.trans b1, again0⟩
   simp only [stZ, GStmt.W, headW, exprsW, hof]
   simp [blockW]
end
theorem SB.out {B : Nat → Int → PSt → GStmt × PSt} {w : Wd} {n : Nat} {d : Int} (h : SB val B w n) (hg : Fine val s) (hl : s.toks.length ≤ n + 1) (hw : s.hd.1 = w) (hne : w ≠ []) (h125 : w ≠ [125]) (helse : w ≠ elseW)
  (hk : (B n s.hd.2 s.adv).2.fk = 0) (hst : ∀ m r, r.fk = 0 → r.hd.1 = w → stmtF kw (exprM kw val m) (partsM kw val m) (fun d s => stmtsM kw val m d s) d r = B m r.hd.2 r.adv) :
  Took val s (B n s.hd.2 s.adv).1.W (B n s.hd.2 s.adv).2 ∧ (∃ w l, (B n s.hd.2 s.adv).1.W = w :: l ∧ w ≠ [125] ∧ w ≠ elseW) ∧
  ∀ m, (B n s.hd.2 s.adv).1.W.length ≤ m + 1 → ∀ r R, Ahead r (B n s.hd.2 s.adv).1.W R → hdW R ≠ elseW →
   ∃ x', stmtF kw (exprM kw val m) (partsM kw val m) (fun d s => stmtsM kw val m d s) d r = (x', r.at R) ∧ x'.er = (B n s.hd.2 s.adv).1.er := by
 have u := hg.adv (by rw [hw]; exact hne)
 rw [hw] at u
 have hl0 : s.adv.toks.length ≤ n := by have := u.len; simp at this; omega
 obtain ⟨ws, h1, h2, h3⟩ := h s.hd.2 s.adv u.1 hl0 hk
 rw [h1]
 refine ⟨u.trans h2, ⟨w, ws, rfl, h125, helse⟩, fun m hm r R ha hr => ?_⟩
 obtain ⟨g0, g1, g2, g3⟩ := ha.hd
 obtain ⟨x', r1, r2⟩ := h3 m (by simp at hm; omega) r.hd.2 r.adv R g2 hr
 exact ⟨x', by rw [hst m r g0 g1, r1, g3], r2⟩
theorem stmt_rp {n : Nat} (hE : ExpRP kw val n) (hP : ParRP kw val n) (hS : StsRP kw val n) (d : Int) (s : PSt) (hg : Fine val s) (hl : s.toks.length ≤ n + 1)
  (hk : (stmtF kw (exprM kw val n) (partsM kw val n) (fun d s => stmtsM kw val n d s) d s).2.fk = 0) :
  Took val s (stmtF kw (exprM kw val n) (partsM kw val n) (fun d s => stmtsM kw val n d s) d s).1.W (stmtF kw (exprM kw val n) (partsM kw val n) (fun d s => stmtsM kw val n d s) d s).2 ∧
  (∃ w l, (stmtF kw (exprM kw val n) (partsM kw val n) (fun d s => stmtsM kw val n d s) d s).1.W = w :: l ∧ w ≠ [125] ∧ w ≠ elseW) ∧
  ∀ m, (stmtF kw (exprM kw val n) (partsM kw val n) (fun d s => stmtsM kw val n d s) d s).1.W.length ≤ m + 1 → ∀ r R, Ahead r (stmtF kw (exprM kw val n) (partsM kw val n) (fun d s => stmtsM kw val n d s) d s).1.W R → hdW R ≠ elseW →
   ∃ x', stmtF kw (exprM kw val m) (partsM kw val m) (fun d s => stmtsM kw val m d s) d r = (x', r.at R) ∧ x'.er = (stmtF kw (exprM kw val n) (partsM kw val n) (fun d s => stmtsM kw val n d s) d s).1.er := by
 rw [stmt_eq kw val hg.1] at hk ⊢
 by_cases h0 : s.hd.1 = [108, 101, 116]
 · rw [if_pos h0] at hk ⊢
   exact (let_sb kw val hE 1 d _ (.inl rfl) (by decide +kernel)).out kw val hg hl h0 (by decide) (by decide) (by decide) hk fun m r e0 e1 => by rw [stmt_eq kw val e0, if_pos e1]
 rw [if_neg h0] at hk ⊢
 by_cases h1 : s.hd.1 = [115, 101, 116]
 · rw [if_pos h1] at hk ⊢
   exact (let_sb kw val hE 2 d _ (.inr rfl) (by decide +kernel)).out kw val hg hl h1 (by decide) (by decide) (by decide) hk fun m r e0 e1 => by rw [stmt_eq kw val e0, if_neg (by rw [e1]; decide), if_pos e1]
 rw [if_neg h1] at hk ⊢
 by_cases h2 : s.hd.1 = [119, 114, 105, 116, 101]
 · rw [if_pos h2] at hk ⊢
   exact (write_sb kw val hE hP d).out kw val hg hl h2 (by decide) (by decide) (by decide) hk fun m r e0 e1 => by rw [stmt_eq kw val e0, if_neg (by rw [e1]; decide), if_neg (by rw [e1]; decide), if_pos e1]
 rw [if_neg h2] at hk ⊢
 by_cases h3 : s.hd.1 = [115, 116, 111, 114, 101]
 · rw [if_pos h3] at hk ⊢
   exact (store_sb kw val hE hP d).out kw val hg hl h3 (by decide) (by decide) (by decide) hk fun m r e0 e1 => by rw [stmt_eq kw val e0, if_neg (by rw [e1]; decide), if_neg (by rw [e1]; decide), if_neg (by rw [e1]; decide), if_pos e1]
 rw [if_neg h3] at hk ⊢
 by_cases h4 : s.hd.1 = [108, 111, 97, 100, 50]
 · rw [if_pos h4] at hk ⊢
   exact (load2_sb kw val hP d).out kw val hg hl h4 (by decide) (by decide) (by decide) hk fun m r e0 e1 => by rw [stmt_eq kw val e0, if_neg (by rw [e1]; decide), if_neg (by rw [e1]; decide), if_neg (by rw [e1]; decide), if_neg (by rw [e1]; decide), if_pos e1]
 rw [if_neg h4] at hk ⊢
 by_cases h5 : s.hd.1 = [115, 116, 111, 114, 101, 50]
 · rw [if_pos h5] at hk ⊢
   exact (store2_sb kw val hE hP d).out kw val hg hl h5 (by decide) (by decide) (by decide) hk fun m r e0 e1 => by rw [stmt_eq kw val e0, if_neg (by rw [e1]; decide), if_neg (by rw [e1]; decide), if_neg (by rw [e1]; decide), if_neg (by rw [e1]; decide), if_neg (by rw [e1]; decide), if_pos e1]
 rw [if_neg h5] at hk ⊢
 by_cases h6 : s.hd.1 = [102, 101, 110, 99, 101]
 · rw [if_pos h6] at hk ⊢
   exact (fence_sb val).out kw val hg hl h6 (by decide) (by decide) (by decide) hk fun m r e0 e1 => by rw [stmt_eq kw val e0, if_neg (by rw [e1]; decide), if_neg (by rw [e1]; decide), if_neg (by rw [e1]; decide), if_neg (by rw [e1]; decide), if_neg (by rw [e1]; decide), if_neg (by rw [e1]; decide), if_pos e1]
 rw [if_neg h6] at hk ⊢
 by_cases h7 : s.hd.1 = [112, 114, 105, 110, 116]
 · rw [if_pos h7] at hk ⊢
   exact (print_sb kw val hE d).out kw val hg hl h7 (by decide) (by decide) (by decide) hk fun m r e0 e1 => by rw [stmt_eq kw val e0, if_neg (by rw [e1]; decide), if_neg (by rw [e1]; decide), if_neg (by rw [e1]; decide), if_neg (by rw [e1]; decide), if_neg (by rw [e1]; decide), if_neg (by rw [e1]; decide), if_neg (by rw [e1]; decide), if_pos e1]
 rw [if_neg h7] at hk ⊢
 by_cases h8 : s.hd.1 = [105, 102]
 · rw [if_pos h8] at hk ⊢
   exact (if_sb kw val hE hS d).out kw val hg hl h8 (by decide) (by decide) (by decide) hk fun m r e0 e1 => by rw [stmt_eq kw val e0, if_neg (by rw [e1]; decide), if_neg (by rw [e1]; decide), if_neg (by rw [e1]; decide), if_neg (by rw [e1]; decide), if_neg (by rw [e1]; decide), if_neg (by rw [e1]; decide), if_neg (by rw [e1]; decide), if_neg (by rw [e1]; decide), if_pos e1]
 rw [if_neg h8] at hk ⊢
 by_cases h9 : s.hd.1 = [119, 104, 105, 108, 101]
 · rw [if_pos h9] at hk ⊢
   exact (while_sb kw val hE hS d).out kw val hg hl h9 (by decide) (by decide) (by decide) hk fun m r e0 e1 => by rw [stmt_eq kw val e0, if_neg (by rw [e1]; decide), if_neg (by rw [e1]; decide), if_neg (by rw [e1]; decide), if_neg (by rw [e1]; decide), if_neg (by rw [e1]; decide), if_neg (by rw [e1]; decide), if_neg (by rw [e1]; decide), if_neg (by rw [e1]; decide), if_neg (by rw [e1]; decide), if_pos e1]
 rw [if_neg h9] at hk ⊢
 exact absurd hk (PSt.fail_fk s (by decide))
theorem sts_rp : ∀ n, StsRP kw val n := by
 intro n
 induction n with
 | zero => exact fun d s hg hl _ => absurd (List.length_eq_zero_iff.1 (by omega)) hg.2.1.ne
 | succ n ih =>
  intro d s hg hl hk
  rw [stmtsM] at hk ⊢
  dsimp only at hk ⊢
  rw [if_neg (by rw [hg.1]; simp)] at hk ⊢
  by_cases hc : s.isW [125] = true
  · rw [if_pos hc] at hk ⊢
    obtain ⟨e, u⟩ := isW_ok hg hc (by decide)
    refine ⟨u, ⟨[125], [], rfl, by decide⟩, fun m hm r R ha => ?_⟩
    obtain ⟨m, rfl⟩ : ∃ k, m = k + 1 := ⟨m - 1, by simp [GStmt.Ws] at hm; omega⟩
    have ha' : Ahead r ([125] :: []) R := ha
    exact ⟨[], by rw [stmtsM, if_neg (by rw [ha.1]; simp), if_pos (by rw [ha'.isW]; rfl), ha'.one], rfl⟩
  · rw [if_neg hc] at hk ⊢
    have k1 : (stmtF kw (exprM kw val n) (partsM kw val n) (fun d s => stmtsM kw val n d s) d s).2.fk = 0 := fk_back (α := Unit) (Sub.stmts kw val n d _) hk
    obtain ⟨u1, ⟨w, l, hw, hw125, hwe⟩, again⟩ := stmt_rp kw val (exprs_rp kw val n).1 (exprs_rp kw val n).2 ih d s hg hl k1
    generalize stmtF kw (exprM kw val n) (partsM kw val n) (fun d s => stmtsM kw val n d s) d s = f at *
    have hl1 : f.2.toks.length ≤ n := by have := u1.len; rw [hw] at this; simp at this; omega
    obtain ⟨t1, ⟨w', l', t0, tne⟩, t2⟩ := ih d _ u1.1 hl1 hk
    generalize stmtsM kw val n d f.2 = T at *
    dsimp only
    refine ⟨by simpa [GStmt.Ws] using u1.trans t1, ⟨w, l ++ (GStmt.Ws T.1 ++ [[125]]), by simp [GStmt.Ws, hw], hwe⟩, fun m hm r R ha => ?_⟩
    have hlw : f.1.W.length = l.length + 1 := by rw [hw]; rfl
    obtain ⟨m, rfl⟩ : ∃ k, m = k + 1 := ⟨m - 1, by simp [GStmt.Ws, hlw] at hm; omega⟩
    have ha' : Ahead r (f.1.W ++ (GStmt.Ws T.1 ++ [[125]])) R := by simpa [GStmt.Ws] using ha
    obtain ⟨R1, a1, a2, a3⟩ := ha'.split
    have hnc : r.isW [125] = false := by
     have := a1
     rw [hw] at this
     rw [this.isW]
     simpa using hw125
    rw [stmtsM, if_neg (by rw [ha.1]; simp), if_neg (by rw [hnc]; decide)]
    dsimp only
    obtain ⟨x', r1, r2⟩ := again m (by simp [GStmt.Ws] at hm; omega) r R1 a1 (by rw [a3, t0]; exact tne)
    rw [r1]
    dsimp only
    obtain ⟨l'', r3, r4⟩ := t2 m (by simp [GStmt.Ws, hlw] at hm ⊢; omega) _ R a2
    rw [r3]
    exact ⟨_, rfl, by simp only [GStmt.ers, r2, r4]⟩
abbrev varW : Wd := [118, 97, 114]
abbrev threadW : Wd := [116, 104, 114, 101, 97, 100]
theorem GVar.W_eq (v : GVar) : v.W = varW :: v.name :: (v.type.W ++ [[59]]) := rfl
theorem thrW_eq (l : List GStmt) : thrW l = threadW :: blockW l := rfl
theorem vars_rp : ∀ (n : Nat) (s : PSt), Fine val s → s.toks.length ≤ n → (varsM kw val n s).2.fk = 0 →
  Took val s ((varsM kw val n s).1.flatMap GVar.W) (varsM kw val n s).2 ∧
   ∀ m, ((varsM kw val n s).1.flatMap GVar.W).length ≤ m → ∀ r R, Ahead r ((varsM kw val n s).1.flatMap GVar.W) R → hdW R ≠ varW → varsM kw val m r = ((varsM kw val n s).1, r.at R)
 | 0, s, hg, hl, _ => absurd (List.length_eq_zero_iff.1 (by omega)) hg.2.1.ne
 | n + 1, s, hg, hl, hk => by
  have stop : ∀ m (r : PSt) R, Ahead r [] R → hdW R ≠ varW → varsM kw val m r = ([], r.at R) := by
   intro m r R ha hr
   rw [← ha.nil]
   cases m with
   | zero => rfl
   | succ m =>
    rw [varsM, if_neg]
    rw [ha.isW0]
    simpa using hr
  rw [varsM] at hk ⊢
  dsimp only at hk ⊢
  by_cases hc : s.isW varW = true
  · rw [if_pos hc] at hk ⊢
    obtain ⟨e, u0⟩ := isW_ok hg hc (by decide)
    have k3 := fk_back (α := Unit) (Sub.vars kw val n ((typM kw val n 1 (s.adv.nameS kw)).2.want [59])) hk
    have k2 := fk_back (α := Unit) (Sub.want (typM kw val n 1 (s.adv.nameS kw)).2 [59]) k3
    have k1 := fk_back (α := Unit) (Sub.typ kw val n 1 (s.adv.nameS kw)) k2
    obtain ⟨f1, f2, f3, u1⟩ := name_ok (kw := kw) u0.1 k1
    have hl1 : (s.adv.nameS kw).toks.length ≤ n := by have a := u0.len; have b := u1.len; simp at a b; omega
    obtain ⟨t1, t2⟩ := (typs_rp kw val n).1 1 _ u1.1 hl1 k2
    generalize typM kw val n 1 (s.adv.nameS kw) = T at *
    obtain ⟨_, u2⟩ := want_ok t1.1 k3 (by decide)
    have hl2 : (T.2.want [59]).toks.length ≤ n := by have a := t1.len; have b := u2.len; omega
    obtain ⟨v1, v2⟩ := vars_rp n (T.2.want [59]) u2.1 hl2 hk
    generalize varsM kw val n (T.2.want [59]) = V at *
    have hW : (⟨s.adv.nameT kw, T.1⟩ :: V.1 : List GVar).flatMap GVar.W = varW :: s.adv.nameT kw :: (T.1.W ++ [59] :: V.1.flatMap GVar.W) := by
     rw [List.flatMap_cons, GVar.W_eq]; simp
    rw [hW]
    refine ⟨by simpa using (u0.trans u1).trans (t1.trans (u2.trans v1)), fun m hm r R ha hr => ?_⟩
    obtain ⟨m, rfl⟩ : ∃ k, m = k + 1 := ⟨m - 1, by simp at hm; omega⟩
    obtain ⟨_, h1, b1, c1⟩ := ha.hd
    obtain ⟨n1, n2⟩ := Ahead.name (kw := kw) b1 (by rw [f1]; exact f2) (by rw [f1]; exact f3)
    obtain ⟨_, _, b2, c2⟩ := b1.hd
    obtain ⟨R1, a1, a2, a3⟩ := b2.split
    obtain ⟨_, _, b3, c3⟩ := a2.hd
    rw [varsM, if_pos (by rw [ha.isW]; rfl)]
    dsimp only
    rw [n1, n2, t2 m (by simp at hm; omega) _ R1 a1]
    dsimp only
    rw [a2.want, v2 m (by simp [-List.length_flatMap] at hm; omega) _ R b3 hr, c3, at_at, c2, c1]
  · rw [if_neg hc] at hk ⊢
    exact ⟨Took.refl hg, fun m hm r R ha hr => stop m r R ha hr⟩
theorem thrs_rp : ∀ (n : Nat) (s : PSt), Fine val s → s.toks.length ≤ n → (thrsM kw val n s).2.fk = 0 →
  Took val s ((thrsM kw val n s).1.flatMap thrW) (thrsM kw val n s).2 ∧ (((thrsM kw val n s).1.flatMap thrW = [] ∨ ∃ l, (thrsM kw val n s).1.flatMap thrW = threadW :: l)) ∧
   ∀ m, ((thrsM kw val n s).1.flatMap thrW).length ≤ m → ∀ r R, Ahead r ((thrsM kw val n s).1.flatMap thrW) R → hdW R ≠ threadW → ∃ l', thrsM kw val m r = (l', r.at R) ∧ l'.map GStmt.ers = (thrsM kw val n s).1.map GStmt.ers
 | 0, s, hg, hl, _ => absurd (List.length_eq_zero_iff.1 (by omega)) hg.2.1.ne
 | n + 1, s, hg, hl, hk => by
  have stop : ∀ m (r : PSt) R, Ahead r [] R → hdW R ≠ threadW → thrsM kw val m r = ([], r.at R) := by
   intro m r R ha hr
   rw [← ha.nil]
   cases m with
   | zero => rfl
   | succ m =>
    rw [thrsM, if_neg]
    rw [ha.isW0]
    simpa using hr
  rw [thrsM] at hk ⊢
  dsimp only at hk ⊢
  by_cases hc : s.isW threadW = true
  · rw [if_pos hc] at hk ⊢
    obtain ⟨e, u0⟩ := isW_ok hg hc (by decide)
    have k2 := fk_back (α := Unit) (Sub.thrs kw val n (blockF (fun d s => stmtsM kw val n d s) 1 s.adv).2) hk
    have hl1 : s.adv.toks.length ≤ n := by have := u0.len; simp at this; omega
    obtain ⟨b1, b2⟩ := block_rp kw val (sts_rp kw val n) 1 s.adv u0.1 (by omega) k2
    change Took val s (((blockF (fun d s => stmtsM kw val n d s) 1 s.adv).1 :: (thrsM kw val n (blockF (fun d s => stmtsM kw val n d s) 1 s.adv).2).1).flatMap thrW) (thrsM kw val n (blockF (fun d s => stmtsM kw val n d s) 1 s.adv).2).2 ∧ _
    change (thrsM kw val n (blockF (fun d s => stmtsM kw val n d s) 1 s.adv).2).2.fk = 0 at hk
    have hl2 : (blockF (fun d s => stmtsM kw val n d s) 1 s.adv).2.toks.length ≤ n := by have := b1.len; omega
    obtain ⟨t1, t0, t2⟩ := thrs_rp n _ b1.1 hl2 hk
    have hW : ((blockF (fun d s => stmtsM kw val n d s) 1 s.adv).1 :: (thrsM kw val n (blockF (fun d s => stmtsM kw val n d s) 1 s.adv).2).1).flatMap thrW = threadW :: (blockW (blockF (fun d s => stmtsM kw val n d s) 1 s.adv).1 ++ (thrsM kw val n (blockF (fun d s => stmtsM kw val n d s) 1 s.adv).2).1.flatMap thrW) := by
     rw [List.flatMap_cons, thrW_eq]; rfl
    refine ⟨by rw [hW]; simpa using u0.trans (b1.trans t1), .inr ⟨_, hW⟩, fun m hm r R ha hr => ?_⟩
    have ha : Ahead r (((blockF (fun d s => stmtsM kw val n d s) 1 s.adv).1 :: (thrsM kw val n (blockF (fun d s => stmtsM kw val n d s) 1 s.adv).2).1).flatMap thrW) R := ha
    have hm : (((blockF (fun d s => stmtsM kw val n d s) 1 s.adv).1 :: (thrsM kw val n (blockF (fun d s => stmtsM kw val n d s) 1 s.adv).2).1).flatMap thrW).length ≤ m := hm
    rw [hW] at ha hm
    show ∃ l', thrsM kw val m r = (l', r.at R) ∧ l'.map GStmt.ers = ((blockF (fun d s => stmtsM kw val n d s) 1 s.adv).1 :: (thrsM kw val n (blockF (fun d s => stmtsM kw val n d s) 1 s.adv).2).1).map GStmt.ers
    generalize blockF (fun d s => stmtsM kw val n d s) 1 s.adv = B at *
    generalize thrsM kw val n B.2 = T at *
    obtain ⟨m, rfl⟩ : ∃ k, m = k + 1 := ⟨m - 1, by simp at hm; omega⟩
    obtain ⟨_, h1, g2, c1⟩ := ha.hd
    obtain ⟨R1, a1, a2, a3⟩ := g2.split
    obtain ⟨l1, q1, q2⟩ := b2 m (by simp at hm; omega) _ R1 a1
    obtain ⟨l2, q3, q4⟩ := t2 m (by simp [-List.length_flatMap] at hm; omega) _ R a2 hr
    rw [thrsM, if_pos (by rw [ha.isW]; rfl)]
    dsimp only
    change ∃ l', (((blockF (fun d s => stmtsM kw val m d s) 1 r.adv).1 :: (thrsM kw val m (blockF (fun d s => stmtsM kw val m d s) 1 r.adv).2).1, (thrsM kw val m (blockF (fun d s => stmtsM kw val m d s) 1 r.adv).2).2) : List (List GStmt) × PSt) = (l', r.at R) ∧ _
    rw [q1]
    dsimp only
    rw [q3]
    exact ⟨_, by rw [at_at, c1], by simp only [List.map_cons, q2, q4]⟩
  · rw [if_neg hc] at hk ⊢
    exact ⟨Took.refl hg, .inl rfl, fun m hm r R ha hr => ⟨[], stop m r R ha hr, rfl⟩⟩
theorem parse_rp {s : PSt} (hg : Fine val s) (hk : (parseM kw val s).2.2 = 0) :
  (∃ used : List (Wd × Int), used.Sublist s.toks.dropLast ∧ used.map (·.1) = (parseM kw val s).1.W) ∧
  ∀ (T : List (Wd × Int)) (fl : Int), T.map (·.1) = (parseM kw val s).1.W → ∀ k, (parseM kw val ⟨T ++ [([], k)], fl, 0⟩).2.2 = 0 ∧ (parseM kw val ⟨T ++ [([], k)], fl, 0⟩).1.er = (parseM kw val s).1.er := by
 unfold parseM at hk ⊢
 dsimp only at hk ⊢
 obtain ⟨v0, hv0⟩ : ∃ v, varsM kw val s.toks.length s = v := ⟨_, rfl⟩
 rw [hv0] at hk ⊢
 obtain ⟨t0, ht0⟩ : ∃ t, thrsM kw val s.toks.length v0.2 = t := ⟨_, rfl⟩
 rw [ht0] at hk ⊢
 have he : t0.2.endM.fk = 0 := by
  rcases Int.decEq t0.2.endM.fk 0 with h | h
  · rw [if_pos h] at hk; exact hk
  · exact h
 rw [if_neg (by rw [he]; simp)]
 have kt : t0.2.fk = 0 := by
  rcases Int.decEq t0.2.fk 0 with h | h
  · unfold PSt.endM at he; rw [if_neg (fun e => h e.1)] at he; exact he
  · exact h
 have h1 : ¬ 1 < t0.2.toks.length := by
  intro h
  unfold PSt.endM at he
  rw [if_pos ⟨kt, h⟩] at he
  exact PSt.fail_fk t0.2 (by decide) he
 have kv : v0.2.fk = 0 := by
  rcases Int.decEq v0.2.fk 0 with h | h
  · exact absurd kt (by rw [← ht0]; exact (Sub.thrs kw val _ _).2.2 h)
  · exact h
 obtain ⟨v1, v2⟩ := vars_rp kw val s.toks.length s hg (Nat.le_refl _) (by rw [hv0]; exact kv)
 rw [hv0] at v1 v2
 have hlv : v0.2.toks.length ≤ s.toks.length := by have := v1.len; omega
 obtain ⟨t1, t0', t2⟩ := thrs_rp kw val s.toks.length v0.2 v1.1 hlv (by rw [ht0]; exact kt)
 rw [ht0] at t1 t0' t2
 refine ⟨?_, fun T fl hT k => ?_⟩
 · obtain ⟨gf, used, hu, hs⟩ := v1.trans t1
   obtain ⟨sub, hs1, hs2⟩ := List.sublist_map_iff.1 hs
   obtain ⟨l', n', hl', _⟩ := gf.2.1
   refine ⟨sub, ?_, hs2.symm⟩
   rw [hu, hl', ← List.append_assoc, List.dropLast_concat]
   exact hs1.trans (List.sublist_append_left _ _)
 ·
   have hR : ([([], k)] : List (Wd × Int)) ≠ [] := by simp
   have hA : Ahead (⟨T ++ [([], k)], fl, 0⟩ : PSt) (v0.1.flatMap GVar.W ++ t0.1.flatMap thrW) [([], k)] := ⟨rfl, hR, T, rfl, hT⟩
   obtain ⟨R1, a1, a2, a3⟩ := hA.split
   have hTl : T.length = (v0.1.flatMap GVar.W ++ t0.1.flatMap thrW).length := by rw [show v0.1.flatMap GVar.W ++ t0.1.flatMap thrW = T.map (·.1) from hT.symm]; simp
   have hlT : (⟨T ++ [([], k)], fl, 0⟩ : PSt).toks.length = T.length + 1 := by simp
   rw [hlT]
   have hne : hdW R1 ≠ varW := by
    rw [a3]
    rcases t0' with h | ⟨l, h⟩
    · rw [h]; show ([] : Wd) ≠ varW; decide
    · rw [h]; show threadW ≠ varW; decide
   rw [v2 (T.length + 1) (by rw [hTl, List.length_append]; omega) _ R1 a1 hne]
   dsimp only
   obtain ⟨l', r1, r2⟩ := t2 (T.length + 1) (by rw [hTl, List.length_append]; omega) _ _ a2 (by show ([] : Wd) ≠ threadW; decide)
   rw [r1]
   dsimp only
   have hend : (((⟨T ++ [([], k)], fl, 0⟩ : PSt).at R1).at [([], k)]).endM = ((⟨T ++ [([], k)], fl, 0⟩ : PSt).at R1).at [([], k)] := by
    unfold PSt.endM
    rw [if_neg]
    simp [PSt.at]
   rw [hend, if_neg (by simp [PSt.at])]
   exact ⟨rfl, by simp only [GProg.er, r2]⟩
end
end Rb

namespace Rb
open Go
def sgn0 : List UInt8 := [123, 125, 91, 93, 40, 41, 59, 58, 44, 46, 43, 45, 42, 38, 124, 94]
def classM (c : UInt8) : Int := if isLet c = true then 1 else if isDig c = true then 2 else if c.toNat = 95 then 3 else if c.toNat = 61 ∨ c.toNat = 33 then 5 else if c.toNat = 60 ∨ c.toNat = 62 then 6 else if sgn0.contains c = true then 4 else 0
def top64 : List UInt8 := [49, 56, 52, 52, 54, 55, 52, 52, 48, 55, 51, 55, 48, 57, 53, 53, 49, 54, 49, 53]
def greatM (w : List UInt8) : Bool := decide (20 < w.length) || (decide (w.length = 20) && !(Op.bytesLess w top64 || w == top64))
def NumG (num : List UInt8 → Bool) : Prop := ∀ w : List UInt8, w ≠ [] → (∀ c ∈ w, isDig c = true) → ¬ (1 < w.length ∧ w.head? = some 48) → num w = !greatM w
theorem isLet_iff (c : UInt8) : isLet c = true ↔ 97 ≤ c.toNat ∧ c.toNat ≤ 122 := by simp [isLet]
theorem isDig_iff (c : UInt8) : isDig c = true ↔ 48 ≤ c.toNat ∧ c.toNat ≤ 57 := by simp [isDig]
theorem u8_eq {a b : UInt8} : a = b ↔ a.toNat = b.toNat := ⟨fun h => by rw [h], fun h => UInt8.toNat_inj.1 h⟩
section
variable {Φ : Calls'} {H : AH} {Q : Post}
theorem r_class (hT : Cl Φ S.tab_Lex) {c : UInt8} (hQ : Q (.int .i64 (classM c)) H) : Φ K.f66 [.int .u8 c.toNat] H Q := by
 refine S.cl_f66 hT ?_
 unfold S.f66
 have loop : ∀ (ys : List UInt8) (i : Nat), sgn0.drop i = ys → Q (.int .i64 (if ys.contains c = true then 4 else 0)) H → LoopP (S.f66_l1 Φ (.int .u8 c.toNat) Q) ([.int .i64 i], H) := by
  intro ys
  induction ys with
  | nil =>
   intro i hi hq
   have : 16 ≤ i := by have := drop_nil_le hi; exact this
   refine LoopP.step ?_
   simp only [S.f66_l1, sl_zero, alen_str, abin_lss, Do_of, Gd_true]
   rw [if_neg (by simp only [decide_eq_true_eq]; simp; omega)]
   simpa using hq
  | cons y ys ih =>
   intro i hi hq
   obtain ⟨hlt, hy, hd'⟩ := drop_cons_lt hi
   have hlt' : i < 16 := hlt
   refine LoopP.step ?_
   simp only [S.f66_l1, sl_zero, alen_str, abin_lss, Do_of, Gd_true]
   rw [if_pos (by simp only [decide_eq_true_eq]; simp; omega)]
   have hx : aidxs (.str [123, 125, 91, 93, 40, 41, 59, 58, 44, 46, 43, 45, 42, 38, 124, 94]) (.int .i64 i) = some (.int .u8 y.toNat) := by
    show aidxs (.str sgn0) _ = _
    simp only [aidxs]; rw [if_pos (by omega)]; simp [hy]
   rw [hx]
   simp only [Do_of, abin_eql]
   refine ite_both (fun h => ?_) (fun h => ?_)
   · have hc : c = y := by
       have : (y.toNat : Int) = c.toNat := by simpa using h
       exact UInt8.toNat_inj.1 (by omega)
     rw [hc, if_pos (by simp)] at hq
     exact hq
   · have hc : ¬ (c == y) = true := by
       intro e
       refine h ?_
       rw [beq_iff_eq] at e
       rw [e]; simp
     simp only [abin_add, Do_of]
     rw [wrap_i64 (by omega) (by omega), show ((i : Int) + 1) = ((i + 1 : Nat) : Int) by simp]
     refine ih (i + 1) hd' ?_
     rw [List.contains_cons] at hq
     simp only [Bool.not_eq_true] at hc
     rw [hc, Bool.false_or] at hq
     exact hq
 have fin : ∀ z : Int, z = classM c → Q (.int .i64 z) H := fun z h => by rw [h]; exact hQ
 have k6 : ∀ b : Bool, b = isLet c → JoinP (S.f66_k6 Φ (.int .u8 c.toNat) Q) [.bool b] H := by
  intro b hb
  simp only [JoinP_def, S.f66_k6, sl_zero, Gd_true]
  refine ite_both (fun h => ?_) (fun h => ?_)
  · exact fin 1 (by unfold classM; rw [if_pos (by rw [← hb]; exact h)])
  have hl : ¬ isLet c = true := by rw [← hb]; exact h
  have k5 : ∀ b : Bool, b = isDig c → JoinP (S.f66_k5 Φ (.int .u8 c.toNat) Q) [.bool b] H := by
   intro b hb
   simp only [JoinP_def, S.f66_k5, sl_zero, Gd_true]
   refine ite_both (fun h => ?_) (fun h => ?_)
   · exact fin 2 (by unfold classM; rw [if_neg hl, if_pos (by rw [← hb]; exact h)])
   have hd : ¬ isDig c = true := by rw [← hb]; exact h
   simp only [abin_eql, Do_of]
   refine ite_both (fun h => ?_) (fun h => ?_)
   · exact fin 3 (by unfold classM; rw [if_neg hl, if_neg hd, if_pos (by simp at h; omega)])
   have h95 : ¬ c.toNat = 95 := fun e => h (by rw [e]; rfl)
   have k4 : ∀ b : Bool, (b = true ↔ c.toNat = 61 ∨ c.toNat = 33) → JoinP (S.f66_k4 Φ (.int .u8 c.toNat) Q) [.bool b] H := by
    intro b hb
    simp only [JoinP_def, S.f66_k4, sl_zero, Gd_true]
    refine ite_both (fun h => ?_) (fun h => ?_)
    · exact fin 5 (by unfold classM; rw [if_neg hl, if_neg hd, if_neg h95, if_pos (hb.1 h)])
    have h5 : ¬ (c.toNat = 61 ∨ c.toNat = 33) := fun e => h (hb.2 e)
    have k3 : ∀ b : Bool, (b = true ↔ c.toNat = 60 ∨ c.toNat = 62) → JoinP (S.f66_k3 Φ (.int .u8 c.toNat) Q) [.bool b] H := by
     intro b hb
     simp only [JoinP_def, S.f66_k3, sl_zero, Gd_true]
     refine ite_both (fun h => ?_) (fun h => ?_)
     · exact fin 6 (by unfold classM; rw [if_neg hl, if_neg hd, if_neg h95, if_neg h5, if_pos (hb.1 h)])
     have h6 : ¬ (c.toNat = 60 ∨ c.toNat = 62) := fun e => h (hb.2 e)
     simp only [S.f66_k2]
     exact loop sgn0 0 rfl (fin _ (by unfold classM; rw [if_neg hl, if_neg hd, if_neg h95, if_neg h5, if_neg h6]))
    simp only [abin_eql, Do_of, Gd3_false]
    refine ite_both (fun h => ?_) (fun h => ?_)
    · refine k3 _ ⟨fun e => .inr (by simp at e; omega), fun e => ?_⟩
      rcases e with e | e
      · rw [e] at h; exact absurd h (by decide)
      · rw [e]; rfl
    · refine k3 _ ⟨fun e => .inl (by simp at h; omega), fun e => rfl⟩
   simp only [abin_eql, Do_of, Gd3_false]
   refine ite_both (fun h => ?_) (fun h => ?_)
   · refine k4 _ ⟨fun e => .inr (by simp at e; omega), fun e => ?_⟩
     rcases e with e | e
     · rw [e] at h; exact absurd h (by decide)
     · rw [e]; rfl
   · refine k4 _ ⟨fun e => .inl (by simp at h; omega), fun e => rfl⟩
  simp only [abin_geq, abin_leq, Do_of, Gd3_true]
  refine ite_both (fun h => ?_) (fun h => ?_)
  · refine k5 _ ?_
    have h' : 48 ≤ c.toNat := by simp only [ge_iff_le, decide_eq_true_eq] at h; omega
    rw [Bool.eq_iff_iff]; simp [isDig, h']; omega
  · refine k5 _ ?_
    have h' : ¬ 48 ≤ c.toNat := by simp only [ge_iff_le, decide_eq_true_eq] at h; omega
    simp [isDig, h']
 simp only [abin_geq, abin_leq, Do_of, Gd3_true]
 refine ite_both (fun h => ?_) (fun h => ?_)
 · refine k6 _ ?_
   have h' : 97 ≤ c.toNat := by simp only [ge_iff_le, decide_eq_true_eq] at h; omega
   rw [Bool.eq_iff_iff]; simp [isLet, h']; omega
 · refine k6 _ ?_
   have h' : ¬ 97 ≤ c.toNat := by simp only [ge_iff_le, decide_eq_true_eq] at h; omega
   simp [isLet, h']
theorem r_great (hT : Cl Φ S.tab_Lex) {w : List UInt8} (hQ : Q (.bool (greatM w)) H) : Φ K.f67 [.str w] H Q := by
 have fin : ∀ b : Bool, b = greatM w → Q (.bool b) H := fun b h => by rw [h]; exact hQ
 refine S.cl_f67 hT ?_
 unfold S.f67
 have e20 : ([49, 56, 52, 52, 54, 55, 52, 52, 48, 55, 51, 55, 48, 57, 53, 53, 49, 54, 49, 53] : List UInt8) = top64 := rfl
 have l20 : top64.length = 20 := rfl
 rw [e20]
 simp only [alen_str, l20, abin_gtr, Do_of, Gd3_false]
 refine ite_both (fun h => ?_) (fun h => ?_)
 · have h1 : ¬ 20 < w.length := by
     intro e
     have : decide ((w.length : Int) > (20 : Nat)) = true := by rw [decide_eq_true_eq]; omega
     rw [this] at h; cases h
   simp only [abin_eql, Do_of, Gd3_true]
   refine ite_both (fun h2 => ?_) (fun h2 => ?_)
   · have h3 : w.length = 20 := by simp at h2; omega
     show Do (abinStr .gtr w top64) _
     simp only [abinStr, Do_of]
     exact fin _ (by unfold greatM; rw [decide_eq_false h1, decide_eq_true h3]; simp)
   · have h3 : ¬ w.length = 20 := fun e => h2 (by rw [e]; rfl)
     exact fin _ (by unfold greatM; rw [decide_eq_false h1, decide_eq_false h3]; rfl)
 · have h1 : 20 < w.length := by
     have : decide ((w.length : Int) > (20 : Nat)) = true := by simpa using h
     rw [decide_eq_true_eq] at this; omega
   exact fin _ (by unfold greatM; rw [decide_eq_true h1]; rfl)
theorem class_part (c : UInt8) : isPart c = true ↔ 1 ≤ classM c ∧ classM c ≤ 3 := by
 unfold isPart classM
 by_cases h1 : isLet c = true
 · simp [h1]
 rw [if_neg h1]
 by_cases h2 : isDig c = true
 · simp [h2]
 rw [if_neg h2]
 by_cases h3 : c.toNat = 95
 · rw [if_pos h3]; simp [h3]
 rw [if_neg h3]
 simp only [Bool.not_eq_true] at h1 h2
 rw [h1, h2, decide_eq_false h3]
 constructor
 · intro h; cases h
 · intro h
   exfalso
   revert h
   repeat' split
   all_goals omega
theorem class_dig (c : UInt8) : isDig c = true ↔ classM c = 2 := by
 unfold classM
 by_cases h1 : isLet c = true
 · rw [if_pos h1]
   rw [isLet_iff] at h1
   rw [isDig_iff]; omega
 rw [if_neg h1]
 by_cases h2 : isDig c = true
 · simp [h2]
 rw [if_neg h2]
 constructor
 · intro h; exact absurd h h2
 · intro h
   exfalso
   revert h
   repeat' split
   all_goals omega
theorem idx_at {s : List UInt8} {n : Nat} {y : UInt8} {r : List UInt8} (h : s.drop n = y :: r) : aidxs (.str s) (.int .i64 n) = some (.int .u8 y.toNat) := by
 obtain ⟨hlt, hy, _⟩ := drop_cons_lt h
 simp only [aidxs]; rw [if_pos (by omega)]; simp [hy]
theorem sgn_eq (c : UInt8) : sgn1.contains c = (sgn0.contains c || decide (c.toNat = 95) || decide (c.toNat = 61) || decide (c.toNat = 60)) := by
 rw [Bool.eq_iff_iff]
 simp only [sgn1, sgn0, List.contains_iff_mem, List.mem_cons, List.not_mem_nil, or_false, Bool.or_eq_true, decide_eq_true_eq, u8_eq]
 simp only [show (123 : UInt8).toNat = 123 from rfl, show (125 : UInt8).toNat = 125 from rfl, show (91 : UInt8).toNat = 91 from rfl, show (93 : UInt8).toNat = 93 from rfl, show (40 : UInt8).toNat = 40 from rfl, show (41 : UInt8).toNat = 41 from rfl, show (59 : UInt8).toNat = 59 from rfl, show (58 : UInt8).toNat = 58 from rfl, show (44 : UInt8).toNat = 44 from rfl, show (46 : UInt8).toNat = 46 from rfl, show (95 : UInt8).toNat = 95 from rfl, show (61 : UInt8).toNat = 61 from rfl, show (43 : UInt8).toNat = 43 from rfl, show (45 : UInt8).toNat = 45 from rfl, show (42 : UInt8).toNat = 42 from rfl, show (38 : UInt8).toNat = 38 from rfl, show (124 : UInt8).toNat = 124 from rfl, show (94 : UInt8).toNat = 94 from rfl, show (60 : UInt8).toNat = 60 from rfl]
 omega
theorem two_eq (c : UInt8) : two c = if c.toNat = 60 then some 60 else if c.toNat = 62 then some 62 else if c.toNat = 61 then some 61 else if c.toNat = 33 then some 61 else none := by
 unfold two
 simp only [u8_eq]
 rfl
theorem dw_head {p : UInt8 → Bool} {z : UInt8} {zs : List UInt8} : ∀ {r : List UInt8}, r.dropWhile p = z :: zs → p z = false
 | [], h => by cases h
 | x :: r, h => by
  rw [List.dropWhile_cons] at h
  split at h
  · exact dw_head h
  · rename_i hx
    injection h with h1 h2
    subst h1
    simpa using hx
theorem r_one (hT : Cl Φ S.tab_Lex) {num : List UInt8 → Bool} (hn : NumG num) {s : List UInt8} {at_ : Nat} {y : UInt8} {r : List UInt8} (hd : s.drop at_ = y :: r) (hl : s.length ≤ 1048576)
  (hQ : Q (.int .i64 (match wordM num (y :: r) with | none => 0 | some k => (k : Int))) H) : Φ K.f30 [.str s, .int .i64 at_] H Q := by
 obtain ⟨hlt, hy, hd1⟩ := drop_cons_lt hd
 have fin : ∀ z : Int, z = (match wordM num (y :: r) with | none => 0 | some k => (k : Int)) → Q (.int .i64 z) H := fun z h => by rw [h]; exact hQ
 have hlen : (y :: r).length = s.length - at_ := by rw [← hd, List.length_drop]
 have tot : at_ + 1 + r.length = s.length := by simp only [List.length_cons] at hlen; omega
 have hrl : ∀ p : UInt8 → Bool, (r.takeWhile p).length ≤ r.length := fun p => (List.takeWhile_prefix p).length_le
 have w64 : ∀ n : Nat, n ≤ 2000000 → IntKind.wrap .i64 ((at_ : Int) + n) = ((at_ + n : Nat) : Int) := fun n hn => by rw [wrap_i64 (by omega) (by omega)]; omega
 refine S.cl_f30 hT ?_
 unfold S.f30
 rw [idx_at hd]
 refine (Do_of _ _).2 ?_
 refine r_class hT ?_
 simp only [abin_eql, Do_of, Gd_true]
 refine ite_both (fun h1 => ?_) (fun h1 => ?_)
 ·
   have hy1 : isLet y = true := by
    by_cases h : isLet y = true
    · exact h
    · exfalso
      have h1' : classM y = 1 := by simpa using h1
      revert h1'
      unfold classM
      rw [if_neg h]
      repeat' split
      all_goals omega
   have hp : isPart y = true := by simp [isPart, hy1]
   have hw : wordM num (y :: r) = if 16 < (r.takeWhile isPart).length + 1 then none else some ((r.takeWhile isPart).length + 1) := by
    rw [wordM_cons, if_pos hy1, List.takeWhile_cons, if_pos hp, List.length_cons]
   have k2 : JoinP (S.f30_k2 Φ Q) [.int .i64 (((r.takeWhile isPart).length + 1 : Nat) : Int)] H := by
    simp only [JoinP_def, S.f30_k2, sl_zero, abin_gtr, Do_of, Gd_true]
    refine ite_both (fun h => fin _ ?_) (fun h => fin _ ?_)
    · rw [hw, if_pos (by simp only [decide_eq_true_eq] at h; omega)]
    · rw [hw, if_neg (by simp only [decide_eq_true_eq] at h; omega)]
   have main : ∀ (ys : List UInt8) (n : Nat), s.drop (at_ + n) = ys → 1 ≤ n → n + ys.length = r.length + 1 → n + (ys.takeWhile isPart).length = (r.takeWhile isPart).length + 1 → LoopP (S.f30_l5 Φ (.str s) (.int .i64 at_) Q) ([.int .i64 n], H) := by
    intro ys
    induction ys with
    | nil =>
     intro n hdn hn hnl he
     have hle := drop_nil_le hdn
     refine LoopP.step ?_
     simp only [S.f30_l5, sl_zero, abin_add, Do_of, alen_str, abin_lss, Gd3_true]
     rw [w64 n (by have := hrl isPart; simp at he; omega), if_neg (by simp only [decide_eq_true_eq]; omega)]
     simp only [JoinP_def, S.f30_k4, sl_zero, Gd3_true, Bool.false_eq_true, if_false, S.f30_k3, Gd_true]
     simp only [List.takeWhile_nil, List.length_nil, Nat.add_zero] at he
     rw [he]; exact k2
    | cons z zs ih =>
     intro n hdn hn hnl he
     obtain ⟨hlt', hz, hd'⟩ := drop_cons_lt hdn
     simp only [List.length_cons] at hnl
     have hx := idx_at hdn
     refine LoopP.step ?_
     simp only [S.f30_l5, sl_zero, abin_add, Do_of, alen_str, abin_lss, Gd3_true]
     rw [w64 n (by omega), if_pos (by simp only [decide_eq_true_eq]; omega), hx]
     refine (Do_of _ _).2 ?_
     refine r_class hT ?_
     simp only [abin_geq, Do_of]
     rw [List.takeWhile_cons] at he
     have next : isPart z = true → LoopP (S.f30_l5 Φ (.str s) (.int .i64 at_) Q) ([.int .i64 ((n + 1 : Nat) : Int)], H) := by
      intro hp
      rw [if_pos hp] at he
      refine ih (n + 1) hd' (by omega) (by omega) ?_
      simp only [List.length_cons] at he
      omega
     have stop : ¬ isPart z = true → JoinP (S.f30_k2 Φ Q) [.int .i64 n] H := by
      intro hp
      rw [if_neg hp] at he
      simp only [List.length_nil, Nat.add_zero] at he
      rw [he]; exact k2
     have k3 : ∀ b : Bool, b = isPart z → JoinP (S.f30_k3 Φ ([.int .i64 n], H) (LoopP (S.f30_l5 Φ (.str s) (.int .i64 at_) Q)) Q) [.bool b] H := by
      intro b hb
      simp only [JoinP_def, S.f30_k3, sl_zero, Gd_true]
      refine ite_both (fun h => ?_) (fun h => ?_)
      · simp only [S.f30_k1, sl_zero, abin_add, Do_of]
        rw [wrap_i64 (by omega) (by omega), show ((n : Int) + 1) = ((n + 1 : Nat) : Int) by simp]
        exact next (by rw [← hb]; exact h)
      · exact stop (by rw [← hb]; exact h)
     have hc := class_part z
     simp only [JoinP_def, S.f30_k4, sl_zero, Gd3_true]
     refine ite_both (fun h => ?_) (fun h => ?_)
     · have h1 : 1 ≤ classM z := by simpa using h
       simp only [abin_add, Do_of]
       rw [w64 n (by omega), hx]
       refine (Do_of _ _).2 ?_
       refine r_class hT ?_
       simp only [abin_leq, Do_of]
       refine k3 _ ?_
       rw [Bool.eq_iff_iff, decide_eq_true_eq, hc]
       exact ⟨fun h => ⟨h1, h⟩, fun h => h.2⟩
     · refine k3 _ ?_
       have h1 : ¬ 1 ≤ classM z := by simpa using h
       symm
       rw [← Bool.not_eq_true, hc]
       exact fun h => h1 h.1
   exact main r 1 hd1 (Nat.le_refl _) (by omega) (by omega)
 have hnl : ¬ isLet y = true := by
  intro h
  refine h1 ?_
  unfold classM
  rw [if_pos h]; rfl
 clear h1
 refine ite_both (fun h1 => ?_) (fun h1 => ?_)
 ·
   have hy2 : isDig y = true := (class_dig y).2 (by simpa using h1)
   have htw : (y :: r).takeWhile isDig = y :: r.takeWhile isDig := by rw [List.takeWhile_cons, if_pos hy2]
   have hdw : (y :: r).dropWhile isDig = r.dropWhile isDig := by rw [List.dropWhile_cons, if_pos hy2]
   have hw : wordM num (y :: r) = if (num (y :: r.takeWhile isDig) = true ∧ ¬ (1 < (r.takeWhile isDig).length + 1 ∧ y = 48)) ∧ restOk (r.dropWhile isDig) = true then some ((r.takeWhile isDig).length + 1) else none := by
    rw [wordM_cons, if_neg hnl, if_pos hy2, htw, hdw, List.length_cons]
   generalize hwd : y :: r.takeWhile isDig = wd at hw
   have hwl : wd.length = (r.takeWhile isDig).length + 1 := by rw [← hwd, List.length_cons]
   have hwh : wd.head? = some y := by rw [← hwd]; rfl
   have hwn : wd ≠ [] := by rw [← hwd]; simp
   have hwa : ∀ c ∈ wd, isDig c = true := by
    intro c hc
    rw [← hwd] at hc
    rcases List.mem_cons.1 hc with rfl | hc
    · exact hy2
    · exact mem_tw hc
   have hcut := congrArg (List.drop (r.takeWhile isDig).length) (List.takeWhile_append_dropWhile (p := isDig) (l := r))
   rw [List.drop_left] at hcut
   have htake := congrArg (List.take (r.takeWhile isDig).length) (List.takeWhile_append_dropWhile (p := isDig) (l := r))
   rw [List.take_left] at htake
   have hnr : (r.takeWhile isDig).length + 1 ≤ r.length + 1 := by have := hrl isDig; omega
   have htext : (s.take (at_ + ((r.takeWhile isDig).length + 1))).drop at_ = wd := by
    rw [List.drop_take, hd, show at_ + ((r.takeWhile isDig).length + 1) - at_ = (r.takeWhile isDig).length + 1 by omega, List.take_succ_cons, ← htake, hwd]
   have hrest : s.drop (at_ + ((r.takeWhile isDig).length + 1)) = r.dropWhile isDig := by
    rw [hcut, show at_ + ((r.takeWhile isDig).length + 1) = at_ + 1 + (r.takeWhile isDig).length by omega, ← List.drop_drop, hd1]
   have k10 : JoinP (S.f30_k10 Φ (.str s) (.int .i64 at_) (.int .u8 y.toNat) Q) [.int .i64 (((r.takeWhile isDig).length + 1 : Nat) : Int)] H := by
    have hdrop : ∀ z zs, r.dropWhile isDig = z :: zs → isDig z = false := fun z zs h => dw_head h
    generalize (r.takeWhile isDig).length + 1 = n at hw hnr htext hrest hwl
    generalize r.dropWhile isDig = rest at hw hrest hdrop
    have hP : (num wd = true ∧ ¬ (1 < n ∧ y = 48)) ↔ ¬ ((1 < n ∧ y = 48) ∨ greatM wd = true) := by
     by_cases h0 : 1 < n ∧ y = 48
     · exact ⟨fun h => absurd h0 h.2, fun h => absurd (.inl h0) h⟩
     · have := hn wd hwn hwa (by rw [hwl, hwh]; simpa using h0)
       rw [this]
       simp [h0]
    have k7 : ∀ b : Bool, (b = true ↔ ¬ ((num wd = true ∧ ¬ (1 < n ∧ y = 48)) ∧ restOk rest = true)) → JoinP (S.f30_k7 Φ [.int .i64 (n : Int)] Q) [.bool b] H := by
     intro b hb
     simp only [JoinP_def, S.f30_k7, sl_zero, Gd_true]
     refine ite_both (fun h => fin _ ?_) (fun h => fin _ ?_)
     · rw [hw, if_neg (hb.1 h)]
     · rw [hw, if_pos (Decidable.not_not.1 fun e => h (hb.2 e))]
    have k8 : ∀ b : Bool, (b = true ↔ (1 < n ∧ y = 48) ∨ greatM wd = true) → JoinP (S.f30_k8 Φ (.str s) (.int .i64 at_) [.int .i64 (n : Int)] Q) [.bool b] H := by
     intro b hb
     simp only [JoinP_def, S.f30_k8, sl_zero, Gd3_false]
     refine ite_both (fun h => ?_) (fun h => ?_)
     · have hbf : ¬ ((1 < n ∧ y = 48) ∨ greatM wd = true) := fun e => by rw [hb.2 e] at h; cases h
       have hPt := hP.2 hbf
       simp only [abin_add, Do_of, alen_str, abin_lss, Gd3_true]
       rw [w64 n (by omega)]
       cases rest with
       | nil =>
        have := drop_nil_le hrest
        rw [if_neg (by simp only [decide_eq_true_eq]; omega)]
        exact k7 false ⟨fun e => (by cases e), fun e => absurd ⟨hPt, rfl⟩ e⟩
       | cons z zs =>
        obtain ⟨hlt', _, _⟩ := drop_cons_lt hrest
        have hx := idx_at hrest
        have hnd : ¬ classM z = 2 := fun e => by have h1 := hdrop z zs rfl; rw [(class_dig z).2 e] at h1; cases h1
        have hpz := class_part z
        have hro : restOk (z :: zs) = !isPart z := rfl
        rw [if_pos (by simp only [decide_eq_true_eq]; omega), hx]
        refine (Do_of _ _).2 ?_
        refine r_class hT ?_
        simp only [abin_eql, Do_of, Gd3_false]
        refine ite_both (fun h1 => ?_) (fun h1 => ?_)
        · have c1 : ¬ classM z = 1 := by simpa using h1
          refine r_class hT ?_
          simp only [abin_eql, Do_of]
          refine k7 _ ⟨fun e => ?_, fun e => ?_⟩
          · have c3 : classM z = 3 := by simpa using e
            rintro ⟨_, h2⟩
            rw [hro, hpz.2 (by omega)] at h2; cases h2
          · have : isPart z = true := by
              cases hq : isPart z with
              | true => rfl
              | false => exact absurd ⟨hPt, by rw [hro, hq]; rfl⟩ e
            have := hpz.1 this
            have c3 : classM z = 3 := by omega
            rw [c3]; rfl
        · have c1 : classM z = 1 := by simpa using h1
          refine k7 true ⟨fun _ => ?_, fun _ => rfl⟩
          rintro ⟨_, h2⟩
          rw [hro, hpz.2 (by omega)] at h2; cases h2
     · have hbt : (1 < n ∧ y = 48) ∨ greatM wd = true := hb.1 (by simpa using h)
       refine k7 true ⟨fun _ => ?_, fun _ => rfl⟩
       rintro ⟨h2, _⟩
       exact hP.1 h2 hbt
    have k9 : ∀ b : Bool, (b = true ↔ (1 < n ∧ y = 48)) → JoinP (S.f30_k9 Φ (.str s) (.int .i64 at_) [.int .i64 (n : Int)] Q) [.bool b] H := by
     intro b hb
     simp only [JoinP_def, S.f30_k9, sl_zero, Gd3_false]
     refine ite_both (fun h => ?_) (fun h => ?_)
     · have hbf : ¬ (1 < n ∧ y = 48) := fun e => by rw [hb.2 e] at h; cases h
       simp only [abin_add, Do_of]
       rw [w64 n (by omega), sslice_str (by omega) (by omega)]
       refine (Do_of _ _).2 ?_
       rw [htext]
       refine r_great hT ?_
       exact k8 _ ⟨fun e => .inr e, fun e => e.resolve_left hbf⟩
     · exact k8 true ⟨fun _ => .inl (hb.1 (by simpa using h)), fun _ => rfl⟩
    simp only [JoinP_def, S.f30_k10, sl_zero, abin_gtr, abin_eql, Do_of, Gd3_true]
    refine ite_both (fun h => ?_) (fun h => ?_)
    · have h1 : 1 < n := by simp only [decide_eq_true_eq] at h; omega
      refine k9 _ ⟨fun e => ⟨h1, ?_⟩, fun e => ?_⟩
      · have : (y.toNat : Int) = 48 := by simpa using e
        exact UInt8.toNat_inj.1 (by show y.toNat = 48; omega)
      · rw [e.2]; rfl
    · have h1 : ¬ 1 < n := by simp only [decide_eq_true_eq] at h; omega
      exact k9 false ⟨fun e => (by cases e), fun e => absurd e.1 h1⟩
   have main : ∀ (ys : List UInt8) (n : Nat), s.drop (at_ + n) = ys → 1 ≤ n → n + ys.length = r.length + 1 → n + (ys.takeWhile isDig).length = (r.takeWhile isDig).length + 1 → LoopP (S.f30_l12 Φ (.str s) (.int .i64 at_) (.int .u8 y.toNat) Q) ([.int .i64 n], H) := by
    intro ys
    induction ys with
    | nil =>
     intro n hdn hn hnl he
     have hle := drop_nil_le hdn
     refine LoopP.step ?_
     simp only [S.f30_l12, sl_zero, abin_add, Do_of, alen_str, abin_lss, Gd3_true]
     rw [w64 n (by have := hrl isDig; simp at he; omega), if_neg (by simp only [decide_eq_true_eq]; omega)]
     simp only [JoinP_def, S.f30_k11, sl_zero, Gd_true, Bool.false_eq_true, if_false]
     simp only [List.takeWhile_nil, List.length_nil, Nat.add_zero] at he
     rw [he]; exact k10
    | cons z zs ih =>
     intro n hdn hn hnl he
     obtain ⟨hlt', hz, hd'⟩ := drop_cons_lt hdn
     simp only [List.length_cons] at hnl
     have hx := idx_at hdn
     refine LoopP.step ?_
     simp only [S.f30_l12, sl_zero, abin_add, Do_of, alen_str, abin_lss, Gd3_true]
     rw [w64 n (by omega), if_pos (by simp only [decide_eq_true_eq]; omega), hx]
     refine (Do_of _ _).2 ?_
     refine r_class hT ?_
     simp only [abin_eql, Do_of]
     rw [List.takeWhile_cons] at he
     simp only [JoinP_def, S.f30_k11, sl_zero, Gd_true]
     refine ite_both (fun h => ?_) (fun h => ?_)
     · have hp : isDig z = true := (class_dig z).2 (by simpa using h)
       rw [if_pos hp] at he
       simp only [S.f30_k6, sl_zero, abin_add, Do_of]
       rw [wrap_i64 (by omega) (by omega), show ((n : Int) + 1) = ((n + 1 : Nat) : Int) by simp]
       refine ih (n + 1) hd' (by omega) (by omega) ?_
       simp only [List.length_cons] at he
       omega
     · have hp : ¬ isDig z = true := fun e => h (by rw [(class_dig z).1 e]; rfl)
       rw [if_neg hp] at he
       simp only [List.length_nil, Nat.add_zero] at he
       rw [he]; exact k10
   exact main r 1 hd1 (Nat.le_refl _) (by omega) (by omega)
 have hnd : ¬ isDig y = true := by
  intro h
  exact h1 (by rw [(class_dig y).1 h]; rfl)
 clear h1
 have hw : wordM num (y :: r) = if two y ≠ none ∧ r.head? = two y then some 2 else if sgn1.contains y = true then some 1 else none := by
  rw [wordM_cons, if_neg hnl, if_neg hnd]
 have hcl : classM y = if y.toNat = 95 then 3 else if y.toNat = 61 ∨ y.toNat = 33 then 5 else if y.toNat = 60 ∨ y.toNat = 62 then 6 else if sgn0.contains y = true then 4 else 0 := by
  unfold classM; rw [if_neg hnl, if_neg hnd]
 have hsg := sgn_eq y
 have htw := two_eq y
 have one64 : IntKind.wrap .i64 ((at_ : Int) + 1) = ((at_ + 1 : Nat) : Int) := by rw [wrap_i64 (by omega) (by omega)]; omega
 have no0 : sgn0.contains y = true → y.toNat ≠ 33 ∧ y.toNat ≠ 62 := by
  intro h
  simp only [sgn0, List.contains_iff_mem, List.mem_cons, List.not_mem_nil, or_false] at h
  rcases h with h | h | h | h | h | h | h | h | h | h | h | h | h | h | h | h <;> (subst h; decide)
 refine ite_both (fun h5 => ?_) (fun h5 => ?_)
 · have c5 : classM y = 5 := by simpa using h5
   have hy5 : y.toNat = 61 ∨ y.toNat = 33 := by
    rw [hcl] at c5
    revert c5
    repeat' split
    all_goals first | (intro; assumption) | omega
   have ht : two y = some 61 := by rw [htw]; rcases hy5 with h | h <;> rw [h] <;> rfl
   have k13 : ¬ r.head? = some 61 → JoinP (S.f30_k13 Φ (.int .u8 y.toNat) Q) [] H := by
    intro hne
    simp only [JoinP_def, S.f30_k13, abin_eql, Do_of, Gd_true]
    refine ite_both (fun h => fin _ ?_) (fun h => fin _ ?_)
    · have h33 : y.toNat = 33 := by simp at h; omega
      have : ¬ sgn1.contains y = true := by
       rw [hsg]
       intro e
       simp only [Bool.or_eq_true, decide_eq_true_eq] at e
       rcases e with ((e | e) | e) | e
       · exact (no0 e).1 h33
       all_goals omega
      rw [hw, ht, if_neg (fun e => hne e.2), if_neg this]
    · have h61 : y.toNat = 61 := hy5.resolve_right fun e => h (by rw [e]; rfl)
      have : sgn1.contains y = true := by rw [hsg, decide_eq_true h61]; simp
      rw [hw, ht, if_neg (fun e => hne e.2), if_pos this]; rfl
   have k14 : ∀ b : Bool, (b = true ↔ r.head? = some 61) → JoinP (S.f30_k14 Φ (.int .u8 y.toNat) Q) [.bool b] H := by
    intro b hb
    simp only [JoinP_def, S.f30_k14, sl_zero, Gd_true]
    refine ite_both (fun h => fin _ ?_) (fun h => ?_)
    · rw [hw, ht, if_pos ⟨by simp, hb.1 h⟩]; rfl
    · exact k13 fun e => h (hb.2 e)
   simp only [abin_add, Do_of, alen_str, abin_lss, Gd3_true]
   rw [one64]
   cases r with
   | nil =>
    have := drop_nil_le hd1
    rw [if_neg (by simp only [decide_eq_true_eq]; omega)]
    exact k14 false ⟨fun e => (by cases e), fun e => by cases e⟩
   | cons z zs =>
    obtain ⟨hlt', _, _⟩ := drop_cons_lt hd1
    rw [if_pos (by simp only [decide_eq_true_eq]; omega), idx_at hd1]
    simp only [abin_eql, Do_of]
    refine k14 _ ⟨fun e => ?_, fun e => ?_⟩
    · have : (z.toNat : Int) = 61 := by simpa using e
      have : z = 61 := UInt8.toNat_inj.1 (by show z.toNat = 61; omega)
      rw [this]; rfl
    · have : z = 61 := by simpa using e
      rw [this]; rfl
 refine ite_both (fun h6 => ?_) (fun h6 => ?_)
 · have c6 : classM y = 6 := by simpa using h6
   have hy6 : y.toNat = 60 ∨ y.toNat = 62 := by
    rw [hcl] at c6
    revert c6
    repeat' split
    all_goals first | (intro; assumption) | omega
   have ht : two y = some y := by
    rw [htw]
    rcases hy6 with h | h
    · rw [if_pos h]; exact congrArg some (UInt8.toNat_inj.1 (by rw [h]; rfl))
    · rw [if_neg (by omega), if_pos h]; exact congrArg some (UInt8.toNat_inj.1 (by rw [h]; rfl))
   have k15 : ¬ r.head? = some y → JoinP (S.f30_k15 Φ (.int .u8 y.toNat) Q) [] H := by
    intro hne
    simp only [JoinP_def, S.f30_k15, abin_eql, Do_of, Gd_true]
    refine ite_both (fun h => fin _ ?_) (fun h => fin _ ?_)
    · have h62 : y.toNat = 62 := by simp at h; omega
      have : ¬ sgn1.contains y = true := by
       rw [hsg]
       intro e
       simp only [Bool.or_eq_true, decide_eq_true_eq] at e
       rcases e with ((e | e) | e) | e
       · exact (no0 e).2 h62
       all_goals omega
      rw [hw, ht, if_neg (fun e => hne e.2), if_neg this]
    · have h60 : y.toNat = 60 := hy6.resolve_right fun e => h (by rw [e]; rfl)
      have : sgn1.contains y = true := by rw [hsg, decide_eq_true h60]; simp
      rw [hw, ht, if_neg (fun e => hne e.2), if_pos this]; rfl
   have k16 : ∀ b : Bool, (b = true ↔ r.head? = some y) → JoinP (S.f30_k16 Φ (.int .u8 y.toNat) Q) [.bool b] H := by
    intro b hb
    simp only [JoinP_def, S.f30_k16, sl_zero, Gd_true]
    refine ite_both (fun h => fin _ ?_) (fun h => ?_)
    · rw [hw, ht, if_pos ⟨by simp, hb.1 h⟩]; rfl
    · exact k15 fun e => h (hb.2 e)
   simp only [abin_add, Do_of, alen_str, abin_lss, Gd3_true]
   rw [one64]
   cases r with
   | nil =>
    have := drop_nil_le hd1
    rw [if_neg (by simp only [decide_eq_true_eq]; omega)]
    exact k16 false ⟨fun e => (by cases e), fun e => by cases e⟩
   | cons z zs =>
    obtain ⟨hlt', _, _⟩ := drop_cons_lt hd1
    rw [if_pos (by simp only [decide_eq_true_eq]; omega), idx_at hd1]
    simp only [abin_eql, Do_of]
    refine k16 _ ⟨fun e => ?_, fun e => ?_⟩
    · have : (z.toNat : Int) = y.toNat := by simpa using e
      have : z = y := UInt8.toNat_inj.1 (by omega)
      rw [this]; rfl
    · have : z = y := by simpa using e
      rw [this]; simp
 have n5 : ¬ (y.toNat = 61 ∨ y.toNat = 33) := by
  intro e
  refine h5 ?_
  rw [hcl, if_neg (by omega), if_pos e]; rfl
 have n6 : ¬ (y.toNat = 60 ∨ y.toNat = 62) := by
  intro e
  refine h6 ?_
  rw [hcl, if_neg (by omega), if_neg n5, if_pos e]; rfl
 have ht : two y = none := by
  rw [htw, if_neg (by omega), if_neg (by omega), if_neg (by omega), if_neg (by omega)]
 rw [ht] at hw
 simp only [ne_eq, not_true_eq_false, false_and, if_false] at hw
 rw [if_neg n5, if_neg n6] at hcl
 refine ite_both (fun h => fin _ ?_) (fun h => fin _ ?_)
 · have c0 : classM y = 0 := by simpa using h
   have : ¬ sgn1.contains y = true := by
    rw [hsg]
    intro e
    simp only [Bool.or_eq_true, decide_eq_true_eq] at e
    rcases e with ((e | e) | e) | e
    · rw [hcl] at c0
      revert c0
      split
      · omega
      · first | omega | (rw [if_pos e]; omega)
    · rw [hcl, if_pos e] at c0; omega
    all_goals omega
   rw [hw, if_neg this]
 · have c0 : ¬ classM y = 0 := fun e => h (by rw [e]; rfl)
   have : sgn1.contains y = true := by
    rw [hsg]
    by_cases h95 : y.toNat = 95
    · rw [decide_eq_true h95]; simp
    · by_cases hs : sgn0.contains y = true
      · rw [hs]; rfl
      · exfalso
        rw [hcl, if_neg h95, if_neg hs] at c0
        exact c0 rfl
   rw [hw, if_pos this]; rfl
end
end Rb

namespace Rb
open Go
section
variable {Φ : Calls'}
theorem r_Words (hT : Cl Φ S.tab_Lex) {num : List UInt8 → Bool} (hn : NumG num) (s : List UInt8) {H : AH} {Q : Post} (hQ : ∀ v H', v.weak = lexV (lexM num s) → Q v H') : Φ K.f9 [.str s] H Q := by
 refine S.cl_f9 hT ?_
 unfold S.f9
 simp only [abox, if_true, DoH_some, alen_str, Do_of, abin_gtr, Gd_true]
 have at1 := At.new H (.row [.int .i64 0, .int .i64 0])
 generalize H.push (.row [.int .i64 0, .int .i64 0]) = H2 at *
 generalize H.n = id1 at *
 have out : ∀ (x : AV) (p q : Int) (H1 : AH), At H1 id1 (.row [.int .i64 0, .int .i64 0]) → (AV.tup [x, .agg [.int .i64 p, .int .i64 q]]).weak = lexV (lexM num s) → Do (astore H1 2 (.ptr id1 0) (.agg [.int .i64 p, .int .i64 q])) fun H33 => Do (aload H33 2 true (.ptr id1 0)) fun x34 => Q (.tup [x, x34]) H33 := by
  intro x p q H1 ha he
  rw [ha.store, if_pos ⟨rfl, rfl, rfl, by simp [AV.cells]⟩]
  simp only [Do_of]
  rw [(ha.set _).load]
  rw [show takeCells (setCells [AV.int .i64 0, .int .i64 0] 0 (AV.agg [.int .i64 p, .int .i64 q]).cells) 0 2 true = some (.agg [.int .i64 p, .int .i64 q]) from rfl]
  simp only [Do_of]
  exact hQ _ _ he
 refine ite_both (fun hg => ?_) (fun hg => ?_)
 · have hg' : 1048576 < s.length := by simp only [decide_eq_true_eq] at hg; omega
   rw [show abuild [.int .i64 0, .int .i64 0] [(1, 1, .int .i64 12)] = some (.agg [.int .i64 0, .int .i64 12]) from rfl]
   simp only [Do_of]
   refine out _ 0 12 H2 at1 ?_
   unfold lexM
   rw [if_pos hg']; rfl
 · have hl : s.length ≤ 1048576 := by simp only [decide_eq_true_eq] at hg; omega
   have hM : lexM num s = match toks num s.length s 1 with | .ok ws => .ok ws | .error l => .error (l, 3) := lexM_small hl
   have main : ∀ (n a : Nat) (line : Int) (ws : List (List UInt8 × Int)) (x : AV) (H1 : AH), s.length - a ≤ n → a ≤ s.length → ws.length ≤ a → 1 ≤ line → line ≤ a + 1 → Lst H2 H1 2 x ws.length (ws.flatMap tokC) → At H1 id1 (.row [.int .i64 0, .int .i64 0]) →
     (match toks num n (s.drop a) line with | .error l => toks num s.length s 1 = .error l | .ok r => toks num s.length s 1 = .ok (ws ++ r)) →
     LoopP (S.f9_l5 Φ (.str s) (.ptr id1 0) Q) ([x, .int .i64 line, .int .i64 a], H1) := by
    intro n
    induction n with
    | zero =>
     intro a line ws x H1 hn' ha hw hl1 hl2 hls hat hfin
     have hd : s.drop a = [] := List.drop_eq_nil_of_le (by omega)
     rw [hd, toks_nil] at hfin
     simp only [List.append_nil] at hfin
     refine LoopP.step ?_
     simp only [S.f9_l5, sl_zero, sl_succ, alen_str, Do_of, abin_lss, Gd_true]
     rw [if_neg (by simp only [decide_eq_true_eq]; omega)]
     simp only [JoinP_def, S.f9_k4, sl_zero]
     rw [show abuild [.int .i64 0, .int .i64 0] [] = some (.agg [.int .i64 0, .int .i64 0]) from rfl]
     simp only [Do_of]
     refine out x 0 0 H1 hat ?_
     rw [hM, hfin]
     obtain ⟨_, tk, rfl, _⟩ := hls
     simp only [AV.weak, AV.weaks, tokC_weak, lexV, lstA]
    | succ n ih =>
     intro a line ws x H1 hn' ha hw hl1 hl2 hls hat hfin
     by_cases hend : a = s.length
     · have hd : s.drop a = [] := List.drop_eq_nil_of_le (by omega)
       rw [hd, toks_nil] at hfin
       refine ih a line ws x H1 (by omega) ha hw hl1 hl2 hls hat ?_
       rw [hd, toks_nil]; exact hfin
     · have hlt : a < s.length := by omega
       obtain ⟨y, r, hd⟩ : ∃ y r, s.drop a = y :: r := by
        cases hc : s.drop a with
        | nil => rw [List.drop_eq_nil_iff] at hc; omega
        | cons y r => exact ⟨y, r, rfl⟩
       have hd' := (drop_cons_lt hd).2.2
       have hrl : r.length = s.length - (a + 1) := by rw [← hd', List.length_drop]
       have hx := idx_at hd
       rw [hd, toks] at hfin
       refine LoopP.step ?_
       simp only [S.f9_l5, sl_zero, sl_succ, alen_str, Do_of, abin_lss, Gd_true]
       rw [if_pos (by simp only [decide_eq_true_eq]; omega), hx]
       simp only [Do_of, abin_eql]
       have h10 : (((y.toNat : Int) == 10) = true) ↔ y = 10 := by
        constructor
        · intro e
          have e' : (y.toNat : Int) = 10 := by simpa using e
          exact UInt8.toNat_inj.1 (by show y.toNat = 10; omega)
        · intro e; rw [e]; rfl
       have h32 : (((y.toNat : Int) == 32) = true) ↔ y = 32 := by
        constructor
        · intro e
          have e' : (y.toNat : Int) = 32 := by simpa using e
          exact UInt8.toNat_inj.1 (by show y.toNat = 32; omega)
        · intro e; rw [e]; rfl
       have e1 : IntKind.wrap .i64 ((a : Int) + 1) = ((a + 1 : Nat) : Int) := by rw [wrap_i64 (by omega) (by omega)]; omega
       have k2 : ∀ (l : Int) (b : Bool), l = (if y = 10 then line + 1 else line) → (b = true ↔ (y = 10 ∨ y = 32)) → JoinP (S.f9_k2 Φ (.str s) (.ptr id1 0) ([x, .int .i64 line, .int .i64 a], H1) (LoopP (S.f9_l5 Φ (.str s) (.ptr id1 0) Q)) [.int .i64 l] Q) [.bool b] H1 := by
        intro l b hl' hb
        simp only [JoinP_def, S.f9_k2, sl_zero, sl_succ, Gd_true]
        refine ite_both (fun h => ?_) (fun h => ?_)
        · simp only [abin_add, Do_of, e1]
          by_cases c10 : y = 10
          · rw [if_pos c10] at hfin hl'
            subst hl'
            refine ih (a + 1) (line + 1) ws x H1 (by omega) (by omega) (by omega) (by omega) (by omega) hls hat ?_
            rw [hd']; exact hfin
          · have c32 : y = 32 := (hb.1 h).resolve_left c10
            rw [if_neg c10, if_pos c32] at hfin
            rw [if_neg c10] at hl'
            rw [hl']
            refine ih (a + 1) line ws x H1 (by omega) (by omega) (by omega) (by omega) (by omega) hls hat ?_
            rw [hd']; exact hfin
        · have c : ¬ (y = 10 ∨ y = 32) := fun e => h (hb.2 e)
          have c10 : ¬ y = 10 := fun e => c (.inl e)
          have c32 : ¬ y = 32 := fun e => c (.inr e)
          rw [if_neg c10, if_neg c32] at hfin
          rw [if_neg c10] at hl'
          rw [hl']
          simp only [S.f9_k1, sl_zero]
          refine r_one hT hn hd hl ?_
          cases hw2 : wordM num (y :: r) with
          | none =>
           rw [hw2] at hfin
           simp only at hfin
           simp only [abin_eql, Do_of, Gd_true]
           rw [if_pos (by decide)]
           rw [show abuild [.int .i64 0, .int .i64 0] [(0, 1, .int .i64 line), (1, 1, .int .i64 3)] = some (.agg [.int .i64 line, .int .i64 3]) from rfl]
           simp only [Do_of]
           refine out _ line 3 H1 hat ?_
           rw [hM, hfin]; rfl
          | some k =>
           rw [hw2] at hfin
           obtain ⟨k1, k2⟩ := wordM_pos hw2
           simp only [List.length_cons] at k2
           simp only [abin_eql, Do_of, Gd_true]
           have hk0 : ¬ (((k : Nat) : Int) == 0) = true := by
            intro e
            have : (k : Int) = 0 := by simpa using e
            omega
           rw [if_neg hk0]
           have ek : IntKind.wrap .i64 ((a : Int) + k) = ((a + k : Nat) : Int) := by rw [wrap_i64 (by omega) (by omega)]; omega
           simp only [abin_add, Do_of, ek]
           rw [sslice_str (by omega) (by omega)]
           have htx : (s.take (a + k)).drop a = (y :: r).take k := by
            rw [List.drop_take, hd, show a + k - a = k by omega]
           rw [htx]
           simp only [Do_of]
           rw [show abuild [.str [], .int .i64 0] [(0, 1, .str ((y :: r).take k)), (1, 1, .int .i64 line)] = some (.agg (tokC ((y :: r).take k, line))) from rfl]
           simp only [Do_of]
           rw [show abslice H1 false 2 1 [.str [], .int .i64 0] [(0, 2, .agg (tokC ((y :: r).take k, line)))] = some (.lst .full 1 (tokC ((y :: r).take k, line)), H1) from rfl]
           simp only [DoH_some]
           refine hls.app2 (m := 1) (news := tokC ((y :: r).take k, line)) rfl rfl rfl (by decide) (by omega) (by omega) fun x' H3 ls3 fr => ?_
           refine ih (a + k) line (ws ++ [((y :: r).take k, line)]) x' H3 (by omega) (by omega) (by rw [List.length_append, List.length_singleton]; omega) hl1 (by omega) ?_ (fr _ _ hat (fun _ _ e => by cases e)) ?_
           · rw [List.length_append, List.length_singleton, List.flatMap_append, List.flatMap_cons, List.flatMap_nil, List.append_nil]
             exact ls3
           · have hdk : s.drop (a + k) = (y :: r).drop k := by rw [← hd, List.drop_drop]
             rw [hdk]
             simp only at hfin
             cases ht : toks num n ((y :: r).drop k) line with
             | error l => rw [ht] at hfin; exact hfin
             | ok r2 => rw [ht] at hfin; simp only at hfin ⊢; rw [hfin]; simp
       have k3 : ∀ l : Int, l = (if y = 10 then line + 1 else line) → JoinP (S.f9_k3 Φ (.str s) (.ptr id1 0) ([x, .int .i64 line, .int .i64 a], H1) (LoopP (S.f9_l5 Φ (.str s) (.ptr id1 0) Q)) Q) [.int .i64 l] H1 := by
        intro l hl'
        simp only [JoinP_def, S.f9_k3, sl_zero, sl_succ, hx, Do_of, abin_eql, Gd3_false]
        refine ite_both (fun h => ?_) (fun h => ?_)
        · have c10 : ¬ y = 10 := fun e => by rw [h10.2 e] at h; cases h
          exact k2 l _ hl' ⟨fun e => .inr (h32.1 e), fun e => h32.2 (e.resolve_left c10)⟩
        · have c10 : y = 10 := h10.1 (by simpa using h)
          exact k2 l true hl' ⟨fun _ => .inl c10, fun _ => rfl⟩
       refine ite_both (fun h => ?_) (fun h => ?_)
       · simp only [abin_add, Do_of]
         rw [wrap_i64 (by omega) (by omega)]
         exact k3 _ (by rw [if_pos (h10.1 h)])
       · exact k3 _ (by rw [if_neg (fun e => h (h10.2 e))])
   refine main s.length 0 1 [] (.lst .nil 0 []) H2 (by omega) (by omega) (by simp) (by omega) (by omega) (Lst.nil H2 2) at1 ?_
   rw [List.drop_zero]
   cases toks num s.length s 1 with
   | error l => rfl
   | ok r => rfl
end
end Rb

namespace Rb
open Go
def dvF (a : Nat) (c : UInt8) : Nat := a * 10 + (c.toNat - 48)
def dv (a : Nat) (w : List UInt8) : Nat := w.foldl dvF a
theorem dv_nil (a : Nat) : dv a [] = a := rfl
theorem dv_cons (a : Nat) (c : UInt8) (r : List UInt8) : dv a (c :: r) = dv (a * 10 + (c.toNat - 48)) r := by simp only [dv, List.foldl_cons, dvF]
theorem dv_le (w : List UInt8) : ∀ (a : Nat), a ≤ dv a w := by
 induction w with
 | nil => intro a; rw [dv_nil]; exact Nat.le_refl _
 | cons c r ih =>
  intro a
  have := ih (a * 10 + (c.toNat - 48))
  rw [dv_cons]; omega
theorem dv_acc : ∀ (w : List UInt8) (a : Nat), dv a w = a * 10 ^ w.length + dv 0 w
 | [], a => by rw [dv_nil, dv_nil]; simp
 | c :: r, a => by
  rw [dv_cons, dv_cons, dv_acc r, dv_acc r (0 * 10 + (c.toNat - 48)), List.length_cons, Nat.pow_succ, Nat.add_mul, Nat.zero_mul, Nat.zero_add, Nat.mul_assoc, Nat.mul_comm 10, Nat.add_assoc]
theorem dv_lt : ∀ (w : List UInt8), (∀ c ∈ w, isDig c = true) → dv 0 w < 10 ^ w.length
 | [], _ => by rw [dv_nil]; simp
 | c :: r, h => by
  have hc := (isDig_iff c).1 (h c (by simp))
  have := dv_lt r fun c hc => h c (by simp [hc])
  rw [dv_cons, dv_acc, List.length_cons, Nat.pow_succ, Nat.zero_mul, Nat.zero_add]
  have : c.toNat - 48 ≤ 9 := by omega
  have := Nat.mul_le_mul_right (10 ^ r.length) this
  omega
theorem parseM_ok : ∀ (w : List UInt8) (a : Nat), (∀ c ∈ w, isDig c = true) → a ≤ 18446744073709551615 → ((∃ v, Go.Lib.parseUintM 18446744073709551615 a w = .ok v) ↔ dv a w ≤ 18446744073709551615)
 | [], a, _, ha => by
  unfold Go.Lib.parseUintM
  rw [dv_nil]
  exact ⟨fun _ => ha, fun _ => ⟨a, rfl⟩⟩
 | c :: r, a, h, ha => by
  have hc := (isDig_iff c).1 (h c (by simp))
  have hr := dv_le r (a * 10 + (c.toNat - 48))
  unfold Go.Lib.parseUintM
  rw [if_pos hc, dv_cons]
  split
  · constructor
    · rintro ⟨v, h⟩; cases h
    · intro h; omega
  · split
    · constructor
      · rintro ⟨v, h⟩; cases h
      · intro h; omega
    · exact parseM_ok r _ (fun c hc => h c (by simp [hc])) (by omega)
theorem less_dv : ∀ (a b : List UInt8), a.length = b.length → (∀ c ∈ a, isDig c = true) → (∀ c ∈ b, isDig c = true) → (Op.bytesLess a b = true ↔ dv 0 a < dv 0 b) ∧ (a = b ↔ dv 0 a = dv 0 b)
 | [], [], _, _, _ => by simp [Op.bytesLess]
 | [], _ :: _, h, _, _ => by simp at h
 | _ :: _, [], h, _, _ => by simp at h
 | c :: x, d :: y, h, ha, hb => by
  simp only [List.length_cons, Nat.add_right_cancel_iff] at h
  have hc := (isDig_iff c).1 (ha c (by simp))
  have hd := (isDig_iff d).1 (hb d (by simp))
  obtain ⟨i1, i2⟩ := less_dv x y h (fun c hc => ha c (by simp [hc])) (fun c hc => hb c (by simp [hc]))
  have hx := dv_lt x (fun c hc => ha c (by simp [hc]))
  have hy := dv_lt y (fun c hc => hb c (by simp [hc]))
  have e1 : dv 0 (c :: x) = (c.toNat - 48) * 10 ^ x.length + dv 0 x := by rw [dv_cons, dv_acc]; simp
  have e2 : dv 0 (d :: y) = (d.toNat - 48) * 10 ^ x.length + dv 0 y := by rw [dv_cons, dv_acc, h]; simp
  rw [← h] at hy
  rw [e1, e2]
  rcases Nat.lt_trichotomy c.toNat d.toNat with hlt | heq | hgt
  · have hm : (c.toNat - 48 + 1) * 10 ^ x.length ≤ (d.toNat - 48) * 10 ^ x.length := Nat.mul_le_mul_right _ (by omega)
    rw [Nat.add_mul, Nat.one_mul] at hm
    have hcd : c ≠ d := fun e => by rw [e] at hlt; omega
    have l1 : c < d := UInt8.lt_iff_toNat_lt.2 hlt
    refine ⟨?_, ?_⟩
    · simp only [Op.bytesLess, l1, decide_true, Bool.true_or, true_iff]; omega
    · constructor
      · intro e; injection e with e1 e2; exact absurd e1 hcd
      · intro e; omega
  · have hcd : c = d := UInt8.toNat_inj.1 heq
    subst hcd
    have l1 : ¬ c < c := fun h => by have := UInt8.lt_iff_toNat_lt.1 h; omega
    refine ⟨?_, ?_⟩
    · simp only [Op.bytesLess, l1, decide_false, Bool.false_or, beq_self_eq_true, Bool.true_and, i1]; omega
    · constructor
      · intro e; injection e with _ e2; rw [i2.1 e2]
      · intro e; rw [i2.2 (by omega)]
  · have hm : (d.toNat - 48 + 1) * 10 ^ x.length ≤ (c.toNat - 48) * 10 ^ x.length := Nat.mul_le_mul_right _ (by omega)
    rw [Nat.add_mul, Nat.one_mul] at hm
    have hcd : c ≠ d := fun e => by rw [e] at hgt; omega
    have l1 : ¬ c < d := fun h => by have := UInt8.lt_iff_toNat_lt.1 h; omega
    have l2 : (c == d) = false := by simpa using hcd
    refine ⟨?_, ?_⟩
    · simp only [Op.bytesLess, l1, decide_false, Bool.false_or, l2, Bool.false_and]
      constructor
      · intro h; cases h
      · intro h; omega
    · constructor
      · intro e; injection e with e1 e2; exact absurd e1 hcd
      · intro e; omega
theorem numG : NumG numX := by
 intro w hne hdig h0
 have hX : numX w = true ↔ dv 0 w ≤ 18446744073709551615 := by
  rw [← parseM_ok w 0 hdig (by decide)]
  unfold numX Go.Lib.parseUintB
  rw [if_neg hne]
  show (match Go.Lib.parseUintM 18446744073709551615 0 w with | .ok _ => true | _ => false) = true ↔ _
  generalize Go.Lib.parseUintM 18446744073709551615 0 w = e
  cases e
  · rename_i v; exact ⟨fun _ => ⟨v, rfl⟩, fun _ => rfl⟩
  · exact ⟨fun h => (by cases h), fun ⟨v, h⟩ => (by cases h)⟩
  · exact ⟨fun h => (by cases h), fun ⟨v, h⟩ => (by cases h)⟩
 have htop : dv 0 top64 = 18446744073709551615 := by decide
 have hG : greatM w = true ↔ 18446744073709551615 < dv 0 w := by
  unfold greatM
  rcases Nat.lt_trichotomy w.length 20 with hl | hl | hl
  · rw [decide_eq_false (by omega), decide_eq_false (by omega)]
    have h1 := dv_lt w hdig
    have : 10 ^ w.length ≤ 10 ^ 19 := Nat.pow_le_pow_right (by omega) (by omega)
    constructor
    · intro h; cases h
    · intro h; omega
  · rw [decide_eq_false (by omega), decide_eq_true hl]
    obtain ⟨i1, i2⟩ := less_dv w top64 (by rw [hl]; rfl) hdig (by decide)
    rw [htop] at i1 i2
    simp only [Bool.false_or, Bool.true_and, Bool.not_eq_true', Bool.or_eq_false_iff]
    constructor
    · rintro ⟨h1, h2⟩
      have n1 : ¬ dv 0 w < 18446744073709551615 := fun e => by rw [i1.2 e] at h1; cases h1
      have n2 : ¬ dv 0 w = 18446744073709551615 := fun e => by rw [i2.2 e] at h2; simp at h2
      omega
    · intro h
      refine ⟨?_, ?_⟩
      · cases hq : Op.bytesLess w top64 with
        | false => rfl
        | true => have := i1.1 hq; omega
      · rw [beq_eq_false_iff_ne]
        intro e; have := i2.1 e; omega
  · rw [decide_eq_true hl]
    simp only [Bool.true_or, true_iff]
    cases w with
    | nil => exact absurd rfl hne
    | cons c r =>
     have hc := (isDig_iff c).1 (hdig c (by simp))
     have hc48 : c.toNat ≠ 48 := fun e => h0 ⟨by omega, by
       show some c = some 48
       exact congrArg some (UInt8.toNat_inj.1 e)⟩
     simp only [List.length_cons] at hl
     have e : dv 0 (c :: r) = (c.toNat - 48) * 10 ^ r.length + dv 0 r := by rw [dv_cons, dv_acc]; simp
     have h1 : 10 ^ 20 ≤ 10 ^ r.length := Nat.pow_le_pow_right (by omega) (by omega)
     have h2 : 1 * 10 ^ r.length ≤ (c.toNat - 48) * 10 ^ r.length := Nat.mul_le_mul_right _ (by omega)
     omega
 cases h1 : numX w with
 | true =>
  cases h2 : greatM w with
  | false => rfl
  | true => have a := hX.1 h1; have b := hG.1 h2; omega
 | false =>
  cases h2 : greatM w with
  | true => rfl
  | false =>
   exfalso
   have a : ¬ dv 0 w ≤ 18446744073709551615 := fun e => by rw [hX.2 e] at h1; cases h1
   have b : ¬ 18446744073709551615 < dv 0 w := fun e => by rw [hG.2 e] at h2; cases h2
   omega
section
variable {kw : List UInt8 → Bool} {val : List UInt8 → Int} {num : List UInt8 → Bool}
theorem stmts_size : ∀ (n : Nat) (d : Int) (s : PSt), (stmtsM kw val n d s).1.length ≤ n
 | 0, d, s => by unfold stmtsM; exact Nat.le_refl _
 | n + 1, d, s => by
  unfold stmtsM
  split
  · exact Nat.zero_le _
  · split
    · exact Nat.zero_le _
    · have := stmts_size n d (stmtF kw (exprM kw val n) (partsM kw val n) (fun d s => stmtsM kw val n d s) d s).2
      simp only [List.length_cons]; omega
theorem thrs_size : ∀ (n : Nat) (s : PSt), (thrsM kw val n s).1.length ≤ n ∧ ∀ t ∈ (thrsM kw val n s).1, t.length ≤ n
 | 0, s => by unfold thrsM; exact ⟨Nat.le_refl _, fun t h => by cases h⟩
 | n + 1, s => by
  unfold thrsM
  split
  · obtain ⟨h1, h2⟩ := thrs_size n (blockF (stmtsM kw val n) 1 s.adv).2
    refine ⟨by simp only [List.length_cons]; omega, fun t ht => ?_⟩
    rcases List.mem_cons.1 ht with rfl | ht
    · unfold blockF
      dsimp only
      split
      · exact Nat.zero_le _
      · have := stmts_size (kw := kw) (val := val) n 1 ((s.adv.deep 1).want [123]); omega
    · have := h2 t ht; omega
  · exact ⟨Nat.zero_le _, fun t h => by cases h⟩
theorem size_law (s : List UInt8) : (parseP num kw val s).1.threads.length ≤ 2000000 ∧ ∀ t ∈ (parseP num kw val s).1.threads, t.length ≤ 2000000 := by
 unfold parseP
 cases h : lexM num s with
 | error e => exact ⟨Nat.zero_le _, fun t h => by cases h⟩
 | ok ws =>
  obtain ⟨_, hl⟩ := begin_wf h
  have hlen : (beginM ws).toks.length = ws.length + 1 := by show (ws ++ _).length = _; simp
  unfold parseM
  dsimp only
  obtain ⟨h1, h2⟩ := thrs_size (kw := kw) (val := val) (beginM ws).toks.length (varsM kw val (beginM ws).toks.length (beginM ws)).2
  split
  · exact ⟨Nat.zero_le _, fun t h => by cases h⟩
  · exact ⟨by show (thrsM _ _ _ _).1.length ≤ _; omega, fun t ht => by have := h2 t ht; omega⟩
end
end Rb

namespace Rb
open Go
theorem dec_small {u : Nat} (h : u < 10) : Go.Lib.decDigits u = [UInt8.ofNat (48 + u)] := by rw [Go.Lib.decDigits, dif_pos h]
theorem dec_step {a d : Nat} (h1 : 1 ≤ a) (hd : d < 10) : Go.Lib.decDigits (a * 10 + d) = Go.Lib.decDigits a ++ [UInt8.ofNat (48 + d)] := by
 rw [Go.Lib.decDigits, dif_neg (by omega), show (a * 10 + d) / 10 = a by omega, show (a * 10 + d) % 10 = d by omega]
theorem dig_back {c : UInt8} (h : 48 ≤ c.toNat ∧ c.toNat ≤ 57) : UInt8.ofNat (48 + (c.toNat - 48)) = c := by
 rw [show 48 + (c.toNat - 48) = c.toNat by omega]; exact UInt8.ofNat_toNat
theorem dec_parse : ∀ (l : List UInt8) (acc v : Nat), 1 ≤ acc → Go.Lib.parseUintM 18446744073709551615 acc l = .ok v → Go.Lib.decDigits v = Go.Lib.decDigits acc ++ l
 | [], acc, v, h0, h => by
  unfold Go.Lib.parseUintM at h
  cases h
  simp
 | c :: r, acc, v, h0, h => by
  unfold Go.Lib.parseUintM at h
  split at h
  · rename_i hc
    split at h
    · cases h
    · split at h
      · cases h
      · rw [dec_parse r _ v (by omega) h, dec_step h0 (by omega), dig_back hc, List.append_assoc]; rfl
  · cases h
theorem dec_word {w : List UInt8} {v : Nat} (h : Go.Lib.parseUintB 64 w = .ok v) (h0 : ¬ (1 < w.length ∧ w.head? = some 48)) : Go.Lib.decDigits v = w := by
 unfold Go.Lib.parseUintB at h
 split at h
 · cases h
 · rename_i hne
   cases w with
   | nil => exact absurd rfl hne
   | cons c r =>
    have h' : Go.Lib.parseUintM 18446744073709551615 0 (c :: r) = .ok v := h
    unfold Go.Lib.parseUintM at h'
    split at h'
    · rename_i hc
      split at h'
      · cases h'
      · split at h'
        · cases h'
        · cases r with
          | nil =>
           unfold Go.Lib.parseUintM at h'
           cases h'
           rw [dec_small (by omega), show 0 * 10 + (c.toNat - 48) = c.toNat - 48 by omega, dig_back hc]
          | cons d r =>
           have hc0 : c ≠ 48 := fun e => h0 ⟨by simp, by rw [e]; rfl⟩
           have hcn : c.toNat ≠ 48 := fun e => hc0 (UInt8.toNat_inj.1 e)
           rw [dec_parse (d :: r) _ v (by omega) h', dec_small (by omega), show 0 * 10 + (c.toNat - 48) = c.toNat - 48 by omega, dig_back hc]
           rfl
    · cases h'
section
variable {val : List UInt8 → Int} (hval : ∀ w v, Go.Lib.parseUintB 64 w = .ok v → val w = (v : Int))
include hval
theorem wok_num {w : List UInt8} (h : WOK numX w) (hd : digitsM w = true) : 0 ≤ val w ∧ Go.Lib.decDigits (val w).toNat = w := by
 obtain ⟨_, _, x, l, rfl, h1, h2, hw⟩ := h
 have hx : isDig x = true := hd
 have hlet : ¬ isLet x = true := by
  intro e
  rw [isLet_iff] at e
  rw [isDig_iff] at hx
  omega
 rw [wordM_cons, if_neg hlet, if_pos hx] at hw
 split at hw
 · rename_i hc
   have hl : ((x :: l).takeWhile isDig).length = (x :: l).length := Option.some.inj hw
   have ht : (x :: l).takeWhile isDig = x :: l := (List.takeWhile_prefix isDig).eq_of_length hl
   rw [ht] at hc
   have hn := hc.1.1
   unfold numX at hn
   split at hn
   · rename_i v hv
     have e := hval _ v hv
     refine ⟨by rw [e]; omega, ?_⟩
     rw [e]
     have h0 : ¬ (1 < (x :: l).length ∧ (x :: l).head? = some 48) := fun h => hc.1.2 ⟨h.1, Option.some.inj h.2⟩
     simpa using dec_word hv h0
   · cases hn
 · cases hw
theorem begin_fine {ws : List (Wd × Int)} (hw : ∀ w ∈ ws, WOK numX w.1) : Fine val (beginM ws) := by
 refine ⟨rfl, ⟨ws, lastL ws, rfl, fun w h => ?_⟩, fun w h hd => ?_⟩
 · have := (hw w h).2.1; omega
 · rcases List.mem_append.1 h with h | h
   · exact wok_num hval (hw w h) hd
   · obtain rfl := List.mem_singleton.1 h
     cases hd
end
def sepW (w : List UInt8) : UInt8 := if w = [59] ∨ w = [123] ∨ w = [125] then 10 else 32
def lineW (ws : List Wd) : List UInt8 := ws.flatMap fun w => w ++ [sepW w]
theorem lineW_cons (w : Wd) (r : List Wd) : lineW (w :: r) = (w ++ [sepW w]) ++ lineW r := rfl
theorem sep_stops (w : Wd) : stops (sepW w) := by unfold sepW; split; exact .inl rfl; exact .inr rfl
theorem runW_line : ∀ (ws : List Wd) (st : List UInt8), st.length + (lineW ws).length ≤ 4194304 → runW ws st = st ++ lineW ws
 | [], st, _ => by simp [runW_nil, lineW]
 | w :: r, st, h => by
  rw [lineW_cons, List.length_append] at h
  have e : w1 st w = st ++ (w ++ [sepW w]) := by
   unfold w1 sepW
   rw [if_neg (by omega)]
   split <;> simp
  rw [runW_cons, e, runW_line r _ (by rw [List.length_append]; omega), lineW_cons, List.append_assoc]
theorem toks_line {num : List UInt8 → Bool} : ∀ (ws : List (List UInt8)) (n : Nat) (line : Int), (∀ w ∈ ws, WOK num w) → (lineW ws).length ≤ n → ∃ ls, toks num n (lineW ws) line = .ok ls ∧ ls.map (·.1) = ws
 | [], n, line, _, _ => ⟨[], toks_nil n line, rfl⟩
 | w :: r, n, line, h, hn => by
  obtain ⟨g1, g2, x, l, rfl, h1, h2, hw⟩ := h w (by simp)
  have hs := sep_stops (x :: l)
  have e : lineW ((x :: l) :: r) = x :: (l ++ sepW (x :: l) :: lineW r) := by rw [lineW_cons]; simp
  rw [e] at hn ⊢
  generalize sepW (x :: l) = c at *
  simp only [List.length_cons, List.length_append] at hn
  cases n with
  | zero => omega
  | succ n =>
   rw [toks, if_neg h1, if_neg h2, wordM_stop hs, hw]
   simp only
   have d1 : (x :: (l ++ c :: lineW r)).drop (x :: l).length = c :: lineW r := by
    rw [← List.cons_append, List.drop_left]
   have d2 : (x :: (l ++ c :: lineW r)).take (x :: l).length = x :: l := by
    rw [← List.cons_append, List.take_left]
   rw [d1, d2]
   cases n with
   | zero => omega
   | succ n =>
    rcases hs with rfl | rfl
    · rw [toks, if_pos rfl]
      obtain ⟨ls, h3, h4⟩ := toks_line r n (line + 1) (fun w hw => h w (by simp [hw])) (by omega)
      rw [h3]
      exact ⟨(x :: l, line) :: ls, rfl, by rw [List.map_cons, h4]⟩
    · rw [toks, if_neg (by decide), if_pos rfl]
      obtain ⟨ls, h3, h4⟩ := toks_line r n line (fun w hw => h w (by simp [hw])) (by omega)
      rw [h3]
      exact ⟨(x :: l, line) :: ls, rfl, by rw [List.map_cons, h4]⟩
def lenW (ws : List Wd) : Nat := ws.foldr (fun w n => w.length + 1 + n) 0
theorem lenW_cons (w : Wd) (r : List Wd) : lenW (w :: r) = w.length + 1 + lenW r := rfl
theorem lineW_len : ∀ ws : List Wd, (lineW ws).length = lenW ws
 | [] => rfl
 | w :: r => by rw [lineW_cons, List.length_append, List.length_append, lineW_len r, lenW_cons]; rfl
theorem lenW_sub {a b : List Wd} (h : a.Sublist b) : lenW a ≤ lenW b := by
 induction h with
 | slnil => exact Nat.le_refl _
 | cons x _ ih => rw [lenW_cons]; omega
 | cons_cons x _ ih => rw [lenW_cons, lenW_cons]; omega
theorem toks_len {num : List UInt8 → Bool} : ∀ (n : Nat) (s : List UInt8) (line : Int) (ws : List (List UInt8 × Int)), toks num n s line = .ok ws → lenW (ws.map (·.1)) ≤ 2 * s.length := by
 intro n
 induction n with
 | zero => intro s line ws h; rw [toks] at h; cases h; simp [lenW]
 | succ n ih =>
  intro s line ws h
  cases s with
  | nil => rw [toks] at h; cases h; simp [lenW]
  | cons x r =>
   rw [toks] at h
   split at h
   · have := ih _ _ _ h; simp only [List.length_cons]; omega
   · split at h
     · have := ih _ _ _ h; simp only [List.length_cons]; omega
     · rename_i h1 h2
       cases hk : wordM num (x :: r) with
       | none => rw [hk] at h; cases h
       | some k =>
        rw [hk] at h
        simp only at h
        obtain ⟨k1, k2⟩ := wordM_pos hk
        cases ht : toks num n ((x :: r).drop k) line with
        | error l => rw [ht] at h; cases h
        | ok a =>
         rw [ht] at h
         cases h
         have := ih _ _ _ ht
         rw [List.length_drop] at this
         rw [List.map_cons, lenW_cons, List.length_take]
         omega
section
variable {kw : List UInt8 → Bool} {val : List UInt8 → Int} (hval : ∀ w v, Go.Lib.parseUintB 64 w = .ok v → val w = (v : Int))
include hval
theorem reads_law {s : List UInt8} (hs : s.length ≤ 100000) (hk : (parseP numX kw val s).2.2 = 0) :
  (parseP numX kw val (parseP numX kw val s).1.text).2.2 = 0 ∧ (parseP numX kw val (parseP numX kw val s).1.text).1.er = (parseP numX kw val s).1.er ∧
  ∃ l m, lexM numX s = .ok l ∧ lexM numX (parseP numX kw val s).1.text = .ok m ∧ m.length ≤ l.length := by
 unfold parseP at hk ⊢
 cases hM : lexM numX s with
 | error e => rw [hM] at hk; exact absurd hk (lexM_err hM)
 | ok ws =>
  rw [hM] at hk
  simp only at hk ⊢
  have ht := lexM_ok hM
  have hw := toks_wok numX_len _ _ _ _ ht
  obtain ⟨⟨used, u1, u2⟩, again⟩ := parse_rp kw val (begin_fine hval hw) hk
  generalize parseM kw val (beginM ws) = P at *
  have hb : (beginM ws).toks.dropLast = ws := List.dropLast_concat
  rw [hb] at u1
  have hWl : lenW P.1.W ≤ 200000 := by
   rw [← u2]
   have h1 := lenW_sub (u1.map (·.1))
   have h2 := toks_len _ _ _ _ ht
   exact Nat.le_trans h1 (Nat.le_trans h2 (by omega))
  have hP0 : P.1.W.length = used.length := by rw [← u2]; simp
  have hWK : ∀ w ∈ P.1.W, WOK numX w := by
   intro w h
   rw [← u2] at h
   obtain ⟨x, hx, rfl⟩ := List.mem_map.1 h
   exact hw x (u1.subset hx)
  have htext : P.1.text = lineW P.1.W := by
   unfold GProg.text
   rw [runW_line _ _ (by rw [lineW_len]; simp; omega), List.nil_append]
  have hlt : (lineW P.1.W).length ≤ 200000 := by rw [lineW_len]; exact hWl
  obtain ⟨ls, l1, l2⟩ := toks_line P.1.W (lineW P.1.W).length 1 hWK (Nat.le_refl _)
  have hL : lexM numX P.1.text = .ok ls := by rw [htext, lexM_small (by omega), l1]
  rw [hL]
  simp only
  obtain ⟨a1, a2⟩ := again ls 0 l2 (lastL ls)
  refine ⟨a1, a2, ws, ls, rfl, rfl, ?_⟩
  have : ls.length = P.1.W.length := by rw [← l2]; simp
  have := u1.length_le
  omega
end
end Rb
