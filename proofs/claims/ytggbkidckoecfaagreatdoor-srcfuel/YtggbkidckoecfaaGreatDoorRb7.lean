/- A part of the proof (part 7): see the last text. -/
import Derived.Test.YtggbkidckoecfaaGreatDoorRb6
import Derived.Test.YtggbkidckoecfaaGreatDoorRb5
import Derived.OpenShut
import Derived.Test.YtggbkidckoecfaaGreatDoorRb4
import Derived.Test.YtggbkidckoecfaaGreatDoorRb2
import Derived.Test.YtggbkidckoecfaaGreatDoorTie
import Derived.Test.YtggbkidckoecfaaGreatDoorCards
import Derived.SizedLaws
set_option linter.unusedVariables false
set_option linter.unusedSimpArgs false
set_option linter.unusedSectionVars false
namespace Rb
open Go
def globs : List GVar → List GSpot → List AV
 | v :: r, s :: t => .str v.name :: .int .i64 s.at_ :: .int .i64 s.len :: globs r t
 | _, _ => []
theorem globs_app : ∀ (a : List GVar) (s : List GSpot) (v : GVar) (g : GSpot), a.length = s.length → globs (a ++ [v]) (s ++ [g]) = globs a s ++ [.str v.name, .int .i64 g.at_, .int .i64 g.len]
 | [], [], v, g, _ => rfl
 | x :: a, y :: s, v, g, h => by
  rw [List.cons_append, List.cons_append, globs, globs, globs_app a s v g (by simpa using h)]; rfl
theorem globs_weaks : ∀ (a : List GVar) (s : List GSpot), AV.weaks (globs a s) = globs a s
 | v :: r, s :: t => by rw [globs, AV.weaks, AV.weaks, AV.weaks, globs_weaks r t]; rfl
 | [], [] => rfl
 | [], _ :: _ => rfl
 | _ :: _, [] => rfl
theorem globs_froz : ∀ (a : List GVar) (s : List GSpot), AV.frozs (globs a s) = true
 | v :: r, s :: t => by rw [globs]; simp only [AV.frozs, AV.froz, globs_froz r t]; rfl
 | [], [] => rfl
 | [], _ :: _ => rfl
 | _ :: _, [] => rfl
def mapV (vars : List GVar) : AV :=
 if (mapM vars).1 ≠ 0 then .tup [.lst .dead 0 [], .int .i64 0, .int .i64 (mapM vars).1] else .tup [.lst .dead vars.length (globs vars (mapM vars).2.2), .int .i64 (mapM vars).2.1, .int .i64 0]
def upM (at' : Int) (v : GVar) : Int := if w64 (w64 (Int.tdiv (w64 (w64 (at' + (layM v.type).1.2) - 1)) (layM v.type).1.2) * (layM v.type).1.2) > 65536 then 65537 else w64 (w64 (Int.tdiv (w64 (w64 (at' + (layM v.type).1.2) - 1)) (layM v.type).1.2) * (layM v.type).1.2)
theorem mapL_cons (v : GVar) (r : List GVar) (at' : Int) (acc : List GSpot) : mapL (v :: r) at' acc = if (layM v.type).2 ≠ 0 then ((layM v.type).2, 0, []) else mapL r (w64 (upM at' v + (layM v.type).1.1)) (acc ++ [⟨w64 (65536 + upM at' v), (layM v.type).1.1, 0, false, 0, 0⟩]) := rfl
theorem mapV_bad {vars : List GVar} (h : (mapL vars 0 []).1 ≠ 0) : mapV vars = .tup [.lst .dead 0 [], .int .i64 0, .int .i64 (mapL vars 0 []).1] := by
 have e : mapM vars = ((mapL vars 0 []).1, 0, []) := by unfold mapM; rw [if_pos h]
 unfold mapV
 rw [e]
 exact if_pos h
theorem mapV_big {vars : List GVar} (h : (mapL vars 0 []).1 = 0) (h2 : (mapL vars 0 []).2.1 > 65536) : mapV vars = .tup [.lst .dead 0 [], .int .i64 0, .int .i64 9] := by
 have e : mapM vars = (9, 0, []) := by unfold mapM; rw [if_neg (by omega), if_pos h2]
 unfold mapV
 rw [e]
 exact if_pos (show (9 : Int) ≠ 0 by decide)
theorem mapV_good {vars : List GVar} (h : (mapL vars 0 []).1 = 0) (h2 : ¬ (mapL vars 0 []).2.1 > 65536) : mapV vars = .tup [.lst .dead vars.length (globs vars (mapL vars 0 []).2.2), .int .i64 (mapL vars 0 []).2.1, .int .i64 0] := by
 have e : mapM vars = mapL vars 0 [] := by unfold mapM; rw [if_neg (by omega), if_neg h2]
 unfold mapV
 rw [e]
 exact if_neg (by omega)
theorem mapL_len : ∀ (l : List GVar) (at' : Int) (acc : List GSpot), (mapL l at' acc).1 = 0 → (mapL l at' acc).2.2.length = acc.length + l.length ∧ ∀ v ∈ l, (layM v.type).2 = 0
 | [], at', acc, _ => ⟨rfl, fun v hv => (by cases hv)⟩
 | v :: r, at', acc, h => by
  unfold mapL at h ⊢
  by_cases h1 : (layM v.type).2 ≠ 0
  · rw [if_pos h1] at h; exact absurd h h1
  · rw [if_neg h1] at h ⊢
    obtain ⟨h2, h3⟩ := mapL_len r _ _ h
    refine ⟨by rw [h2]; simp; omega, fun u hu => ?_⟩
    rcases List.mem_cons.1 hu with rfl | hu
    · omega
    · exact h3 u hu
theorem mapM_ok {vars : List GVar} (h : (mapM vars).1 = 0) : (mapM vars).2.2.length = vars.length ∧ ∀ v ∈ vars, (layM v.type).2 = 0 := by
 unfold mapM at h ⊢
 by_cases h1 : (mapL vars 0 []).1 ≠ 0
 · rw [if_pos h1] at h; exact absurd h h1
 · rw [if_neg h1] at h ⊢
   by_cases h2 : (mapL vars 0 []).2.1 > 65536
   · rw [if_pos h2] at h
     have : (9 : Int) = 0 := h
     omega
   · rw [if_neg h2] at h ⊢
     obtain ⟨h3, h4⟩ := mapL_len vars 0 [] h
     exact ⟨by simpa using h3, h4⟩
section
variable {H : AH} {id : Nat}
theorem vr_r0 {v : GVar} (h : At H id (.row v.cells)) : aload H 1 false (.ptr id 0) = some (.str v.name) := by rw [h.load]; cases v; rfl
theorem vr_r1 {v : GVar} (h : At H id (.row v.cells)) : aload H 6 true (.ptr id 1) = some (.agg v.type.cells) := by
 rw [h.load]
 cases v with
 | mk name type =>
  show takeCells (.str name :: type.cells) 1 6 true = _
  unfold takeCells
  rw [if_pos (by rw [List.length_cons, type.len]; omega), if_pos rfl]
  show some (AV.agg (type.cells.take 6)) = _
  rw [List.take_of_length_le (by rw [type.len]; omega)]
end
section
variable {C : Ctx} (hGT : GTok C) (hT : Cl (ACall C) S.tab_Chk)
include hGT hT
theorem Map_val {vars : List GVar} (hl : vars.length ≤ 1000000) (hv : ∀ v ∈ vars, v.ok) : Val (ACall C) K.f32 [lstA GVar.cells vars] (mapV vars) := by
 refine Val.of hGT (by simp [AV.frozs, lstA_froz GVar.froz]) (by
   unfold mapV
   split
   · rfl
   · simp [AV.froz, AV.frozs, globs_froz, Tok.free]) fun Q hQ => ?_
 refine ACall.weak ?_
 refine S.cl_f32 hT ?_
 unfold S.f32
 simp only [lstA_len', Do_of]
 have main : ∀ (r : List GVar) (k : Nat) (at' : Int) (acc : List GSpot) (x : AV) (H : AH), vars.drop k = r → k ≤ vars.length → acc.length = k → OwnT 0 H 3 x k (globs (vars.take k) acc) → mapL r at' acc = mapL vars 0 [] →
   LoopP (S.f32_l4 (ACall C) (lstA GVar.cells vars) (.int .i64 vars.length) fun v H' => Q v.weak H') ([x, .int .i64 at', .int .i64 k], H) := by
  intro r
  induction r with
  | nil =>
   intro k at' acc x H hd hk ha ho he
   have hle := drop_nil_le hd
   have hke : k = vars.length := by omega
   subst hke
   rw [List.take_length] at ho
   refine LoopP.step ?_
   simp only [S.f32_l4, sl_zero, sl_succ, abin_lss, Do_of, Gd_true, JoinP_def, S.f32_k3, abin_gtr]
   rw [if_neg (by simp)]
   have e1 : (mapL vars 0 []).1 = 0 := by rw [← he]; rfl
   have e2 : (mapL vars 0 []).2.1 = at' := by rw [← he]; rfl
   have e3 : (mapL vars 0 []).2.2 = acc := by rw [← he]; rfl
   obtain ⟨tk, rfl, _, _⟩ := ho
   refine ite_both (fun h => ?_) (fun h => ?_)
   · rw [mapV_big e1 (by rw [e2]; simpa using h)] at hQ
     exact hQ _
   · rw [mapV_good e1 (by rw [e2]; simpa using h), e2, e3] at hQ
     have := hQ H
     simp only [AV.weak, AV.weaks, globs_weaks]
     exact this
  | cons v r ih =>
   intro k at' acc x H hd hk ha ho he
   obtain ⟨hlt, hx, hd'⟩ := drop_cons_lt hd
   have hvo := hv v (List.mem_of_getElem? hx)
   have hto : v.type.ok := by cases v; exact hvo.2
   refine LoopP.step ?_
   simp only [S.f32_l4, sl_zero, sl_succ, abin_lss, Do_of, Gd_true]
   rw [if_pos (by simp only [decide_eq_true_eq]; omega), lstA_addr hlt]
   simp only [Do_of]
   rw [elA_load GVar.len (by decide) _ hx]
   simp only [Do_of, DoH_some, abox, if_true]
   rw [store_new _ _ _ 7 v.len v.scalar rfl]
   have a2 := At.new H (.row v.cells)
   have ho2 : OwnT 0 (H.push (.row v.cells)) 3 x k (globs (vars.take k) acc) := ho.frame fun _ _ _ q => q.push _
   simp only [Do_of, afaddr, Nat.zero_add]
   rw [vr_r1 a2]
   simp only [Do_of]
   generalize H.push (.row v.cells) = H2 at *
   refine layout_Of_val hGT hT v.type hto _ _ ?_
   simp only [aextract, List.getElem?_cons_zero, List.getElem?_cons_succ, Do_of, abin_neq, Gd_true]
   rw [mapL_cons] at he
   refine ite_both (fun h => ?_) (fun h => ?_)
   · have h0 : (layM v.type).2 ≠ 0 := by simpa using h
     rw [if_pos h0] at he
     rw [mapV_bad (by rw [← he]; exact h0), ← he] at hQ
     exact hQ H2
   · have h0 : ¬ (layM v.type).2 ≠ 0 := by simpa using h
     rw [if_neg h0] at he
     have hal : 1 ≤ (layM v.type).1.2 := by
      have hly := lay_of hto (by omega)
      rw [hly.zero]
      exact ofT_align _ (soundM_snd hly.snd) hly.of
     simp only [abin_add, abin_sub, Do_of, abin_quo _ _ _ (show (layM v.type).1.2 ≠ 0 by omega), abin_mul, abin_gtr, Gd_true, JoinP_def]
     have k2 : ∀ y : Int, y = upM at' v →
       S.f32_k2 (ACall C) (.ptr H.n 0) (.int .i64 (layM v.type).1.1) ([x, .int .i64 at', .int .i64 k], H) (LoopP (S.f32_l4 (ACall C) (lstA GVar.cells vars) (.int .i64 vars.length) fun v H' => Q v.weak H')) (fun v H' => Q v.weak H') [.int .i64 y] H2 := by
      intro y hy
      simp only [S.f32_k2, sl_zero, sl_succ, afaddr, Nat.zero_add, Do_of, vr_r0 a2, abin_add]
      rw [show ∀ a b : Int, abuild [.int .i64 0, .int .i64 0] [(0, 1, AV.int .i64 a), (1, 1, .int .i64 b)] = some (.agg [.int .i64 a, .int .i64 b]) from fun _ _ => rfl]
      simp only [Do_of]
      refine ⟨.agg [.str v.name, .int .i64 (w64 (65536 + y)), .int .i64 (layM v.type).1.1], rfl, ?_⟩
      dsimp only
      rw [show abslice H2 false 3 1 [.str [], .int .i64 0, .int .i64 0] [(0, 3, AV.agg [.str v.name, .int .i64 (w64 (65536 + y)), .int .i64 (layM v.type).1.1])] = some (.lst .full 1 [.str v.name, .int .i64 (w64 (65536 + y)), .int .i64 (layM v.type).1.1], H2) from rfl]
      simp only [DoH_some]
      refine ho2.app (Nat.zero_le _) (m := 1) (news := [.str v.name, .int .i64 (w64 (65536 + y)), .int .i64 (layM v.type).1.1]) rfl rfl rfl (by decide) (by omega) (by omega) fun x' H3 hx' _ => ?_
      simp only [JoinP_def, S.f32_k1, sl_zero, sl_succ, abin_add, Do_of]
      rw [wrap_i64 (n := (k : Int) + 1) (by omega) (by omega), show (k : Int) + 1 = ((k + 1 : Nat) : Int) by simp]
      have ht : vars.take (k + 1) = vars.take k ++ [v] := by rw [List.take_add_one, hx]; rfl
      refine ih (k + 1) _ (acc ++ [⟨w64 (65536 + y), (layM v.type).1.1, 0, false, 0, 0⟩]) x' H3 hd' hlt (by simp [ha]) ?_ ?_
      · rw [ht, globs_app _ _ _ _ (by rw [List.length_take, ha]; omega)]
        exact hx'
      · rw [hy]; exact he
     refine ite_both (fun h => ?_) (fun h => ?_)
     · exact k2 _ (by unfold upM; rw [if_pos (by simpa using h)])
     · exact k2 _ (by unfold upM; rw [if_neg (by simpa using h)])
 exact main vars 0 0 [] _ _ rfl (Nat.zero_le _) rfl (OwnT.nil _ _ _) rfl
theorem many_val {x : GPlace} (hx : x.ok) : Val (ACall C) K.f163 [.agg x.cells] (.int .i64 (manyM x.parts 0)) := by
 obtain ⟨hl, hp⟩ := GPlace.ok_parts hx
 refine Val.of hGT (by simp [AV.frozs, AV.froz, GPlace.froz]) rfl fun Q hQ => S.cl_f163 hT ?_
 unfold S.f163
 simp only [plc_box, DoH_some, plc_addr, plc_l1, lstA_len', Do_of]
 have main : ∀ (r : List GPart) (i : Nat) (m : Int) (H1 : AH), x.parts.drop i = r → manyM r m = manyM x.parts 0 → LoopP (S.f163_l1 (ACall C) (lstA GPart.cells x.parts) (.int .i64 x.parts.length) Q) ([.int .i64 m, .int .i64 i], H1) := by
  intro r
  induction r with
  | nil =>
   intro i m H1 hd he
   have hle := drop_nil_le hd
   refine LoopP.step ?_
   simp only [S.f163_l1, sl_zero, sl_succ, abin_lss, Do_of, Gd_true]
   rw [if_neg (by simp only [decide_eq_true_eq]; omega)]
   rw [manyM] at he
   rw [he]; exact hQ _
  | cons p r ih =>
   intro i m H1 hd he
   obtain ⟨hlt, hx, hd'⟩ := drop_cons_lt hd
   refine LoopP.step ?_
   simp only [S.f163_l1, sl_zero, sl_succ, abin_lss, Do_of, Gd_true]
   rw [if_pos (by simp only [decide_eq_true_eq]; omega), lstA_addr hlt]
   simp only [Do_of]
   rw [elA_load GPart.len (by decide) _ hx]
   simp only [Do_of, DoH_some, abox, if_true]
   rw [store_new _ _ _ 2 p.len p.scalar rfl]
   have a2 := At.new H1 (.row p.cells)
   simp only [Do_of, afaddr, Nat.zero_add]
   rw [pr_l1 a2]
   simp only [Do_of, lstA_len', abin_add]
   rw [manyM] at he
   have hw : IntKind.wrap .i64 ((i : Int) + 1) = ((i + 1 : Nat) : Int) := by rw [wrap_i64 (by omega) (by omega)]; simp
   rw [hw]
   exact ih (i + 1) _ _ hd' he
 exact main x.parts 0 0 _ rfl rfl
end
end Rb

namespace Rb
open Go
theorem spots_weaks : ∀ l : List GSpot, AV.weaks (l.flatMap GSpot.cells) = l.flatMap GSpot.cells
 | [] => rfl
 | s :: r => by rw [List.flatMap_cons, weaks_app, spots_weaks r]; rfl
theorem spots_froz : ∀ l : List GSpot, AV.frozs (l.flatMap GSpot.cells) = true
 | [] => rfl
 | s :: r => by
  rw [List.flatMap_cons]
  show AV.frozs ([.int .i64 s.at_, .int .i64 s.len, .int .i64 s.kind, .bool s.bits, .int .i64 s.bit, .int .i64 s.width] ++ r.flatMap GSpot.cells) = true
  simp only [List.cons_append, List.nil_append, AV.frozs, AV.froz, spots_froz r]; rfl
def wkC (t : GType) (sp : GSpot) (ix : AV) : List AV := t.cells ++ (sp.cells ++ [ix])
theorem wk_eq (t : GType) (sp : GSpot) (ix : AV) : wkC t sp ix = [.int .i64 t.kind, .int .i64 t.size, .bool t.packed, lstA GField.cells t.fields, .int .i64 t.count, lstA GType.cells t.elem, .int .i64 sp.at_, .int .i64 sp.len, .int .i64 sp.kind, .bool sp.bits, .int .i64 sp.bit, .int .i64 sp.width, ix] := by
 unfold wkC; rw [GType.cells_eq]; rfl
section
variable {H : AH} {id : Nat} {t : GType} {sp : GSpot} {ix : AV} (h : At H id (.row (wkC t sp ix)))
include h
theorem wk_ix : aload H 1 false (.ptr id 12) = some ix := by rw [h.load, wk_eq]; rfl
theorem wk_cnt : aload H 1 false (.ptr id 4) = some (.int .i64 t.count) := by rw [h.load, wk_eq]; rfl
theorem wk_el : aload H 1 false (.ptr id 5) = some (lstA GType.cells t.elem) := by rw [h.load, wk_eq]; rfl
theorem wk_fl : aload H 1 false (.ptr id 3) = some (lstA GField.cells t.fields) := by rw [h.load, wk_eq]; rfl
theorem wk_ty : aload H 6 true (.ptr id 0) = some (.agg t.cells) := by rw [h.load, wk_eq, GType.cells_eq]; rfl
theorem wk_at : aload H 1 false (.ptr id 6) = some (.int .i64 sp.at_) := by rw [h.load, wk_eq]; rfl
theorem wk_sp : aload H 6 true (.ptr id 6) = some (.agg sp.cells) := by rw [h.load, wk_eq]; rfl
theorem wk_six {v : AV} (h1 : v.known = true) (h2 : v.cells = [v]) (h3 : v.scalar = true) : astore H 1 (.ptr id 12) v = some (H.set id (.row (wkC t sp v))) := by
 rw [h.store, wk_eq, wk_eq, if_pos ⟨h1, by rw [h2]; rfl, by rw [h2]; simpa using h3, (by show 12 + 1 ≤ 13; decide)⟩, h2]; rfl
theorem wk_sty (u : GType) : astore H 6 (.ptr id 0) (.agg u.cells) = some (H.set id (.row (wkC u sp ix))) := by
 rw [h.store, wk_eq, wk_eq, if_pos ⟨rfl, u.len, u.scalar, (by show 0 + 6 ≤ 13; decide)⟩, GType.cells_eq]; rfl
theorem wk_ssp (s : GSpot) : astore H 6 (.ptr id 6) (.agg s.cells) = some (H.set id (.row (wkC t s ix))) := by
 rw [h.store, wk_eq, wk_eq, if_pos ⟨rfl, rfl, rfl, (by show 6 + 6 ≤ 13; decide)⟩]; rfl
theorem wk_sat (v : Int) : astore H 1 (.ptr id 6) (.int .i64 v) = some (H.set id (.row (wkC t { sp with at_ := v } ix))) := by
 rw [h.store, wk_eq, wk_eq, if_pos ⟨rfl, rfl, rfl, (by show 6 + 1 ≤ 13; decide)⟩]; rfl
theorem wk_slen (v : Int) : astore H 1 (.ptr id 7) (.int .i64 v) = some (H.set id (.row (wkC t { sp with len := v } ix))) := by
 rw [h.store, wk_eq, wk_eq, if_pos ⟨rfl, rfl, rfl, (by show 7 + 1 ≤ 13; decide)⟩]; rfl
theorem wk_skind (v : Int) : astore H 1 (.ptr id 8) (.int .i64 v) = some (H.set id (.row (wkC t { sp with kind := v } ix))) := by
 rw [h.store, wk_eq, wk_eq, if_pos ⟨rfl, rfl, rfl, (by show 8 + 1 ≤ 13; decide)⟩]; rfl
end
def U64s (ix : AV) (l : List Int) : Prop := ∃ tk, ix = .lst tk l.length (l.map (AV.int .u64))
theorem fdl_type {fs : List GField} {i : Nat} {f : GField} (H : AH) (h : fs[i]? = some f) : aload H 6 true (.fptr (((fs.flatMap GField.cells).drop (i * 9)).drop 1)) = some (.agg f.type.cells) := by
 have e := elA_load GField.len (by decide) H h
 have hd : (fs.flatMap GField.cells).drop (i * 9) = f.cells ++ (fs.drop (i + 1)).flatMap GField.cells := by
  have key : ∀ (xs : List GField) (i : Nat) (f : GField), xs[i]? = some f → (xs.flatMap GField.cells).drop (i * 9) = f.cells ++ (xs.drop (i + 1)).flatMap GField.cells := by
   intro xs
   induction xs with
   | nil => intro i f h; simp at h
   | cons x r ih =>
    intro i f h
    cases i with
    | zero => simp at h; subst h; simp
    | succ i =>
     rw [List.flatMap_cons, show (i + 1) * 9 = x.cells.length + i * 9 by rw [x.len]; omega, List.drop_length_add_append]
     exact ih i f (by simpa using h)
  exact key fs i f h
 rw [hd]
 show takeCells (List.drop 1 (f.cells ++ _)) 0 6 true = _
 cases f with
 | mk n t b w => cases t; rfl
section
variable {C : Ctx} (hGT : GTok C) (hT : Cl (ACall C) S.tab_Chk)
include hGT hT
theorem Fields_val {t : GType} (h : t.lay) (hk : t.kind = 3 ∨ t.kind = 4) : Val (ACall C) K.f190 [.agg t.cells] (.tup [lstA GSpot.cells (spotsM t), .int .i64 0]) := by
 refine Val.of hGT (by simp [AV.frozs, AV.froz, GType.froz]) (by
   show AV.froz (.tup [.lst .dead (spotsM t).length ((spotsM t).flatMap GSpot.cells), .int .i64 0]) = true
   simp [AV.froz, AV.frozs, spots_froz, Tok.free]) fun Q hQ => ?_
 refine ACall.weak ?_
 refine S.cl_f190 hT ?_
 unfold S.f190
 simp only [ty_box, DoH_some, ty_all, Do_of]
 refine S.cl_f93 hT (layout_check_spec hGT hT t h.ok fun H1 => ?_)
 rw [h.zero]
 simp only [aextract, List.getElem?_cons_zero, List.getElem?_cons_succ, Do_of, DoH_some, abox, if_true]
 rw [store_new _ _ _ 2 rfl rfl rfl]
 simp only [Do_of, abin_neq, Gd_true]
 rw [if_neg (by decide)]
 simp only [ty_addr, ty_l0, Do_of, abin_neq, Gd3_true, JoinP_def]
 have hs := soundM_snd h.snd
 obtain ⟨p, hp, hle, hlen⟩ := lay_place h hk
 have k2 : S.f190_k2 (ACall C) (.fptr t.cells) (fun v H' => Q v.weak H') [.bool false] (H1.push (.row [.int .i64 (ofT t).1.1, .int .i64 (ofT t).1.2])) := by
  simp only [S.f190_k2, sl_zero, Gd_true, Bool.false_eq_true, if_false, JoinP_def, S.f190_k1, ty_all, Do_of]
  refine S.cl_f157 hT (place_spec hT hs hk (fun f hf => of_val hGT hT f.type (soundM_snd (lay_field h hk hf).snd)) (fun f hf => ofT_align f.type (soundM_snd (lay_field h hk hf).snd)) (fun e => by rw [hp] at e; cases e) fun q hq x H2 hx => ?_)
  rw [hp] at hq
  cases hq
  obtain ⟨_, tk, rfl, _⟩ := hx
  simp only [aextract, List.getElem?_cons_zero, List.getElem?_cons_succ, Do_of, DoH_some, abox, if_true]
  rw [store_new _ _ _ 4 rfl rfl rfl]
  simp only [Do_of, afaddr, Nat.zero_add, load_push]
  rw [show takeCells [AV.int .i64 (upW p.size p.align), .int .i64 p.align, .lst tk p.spots.length (p.spots.flatMap GSpot.cells), .int .i64 p.bit] 2 1 false = some (.lst tk p.spots.length (p.spots.flatMap GSpot.cells)) from rfl]
  simp only [Do_of, AV.weak, AV.weaks, spots_weaks]
  have hsp : spotsM t = p.spots := by unfold spotsM; rw [hp]
  rw [hsp] at hQ
  exact hQ _
 rcases hk with hk | hk
 · rw [if_neg (by rw [hk]; decide)]
   exact k2
 · rw [if_pos (by rw [hk]; decide), show ((t.kind != 4) : Bool) = false by rw [hk]; decide]
   exact k2
theorem wkstep_ok {t : GType} {sp : GSpot} {ix : AV} {idx : List Int} {p : GPart} {H : AH} {id : Nat} (h : At H id (.row (wkC t sp ix))) (ht : t.lay) (hix : U64s ix idx) (h0 : (partM t p).1 = 0) (hpi : p.index.length ≤ idx.length) {Q : Post}
  (hbad : ∀ i q e r H', p.index.length = 1 → idx = i :: q → t.elem = e :: r → i ≥ wu64 t.count → KeepC id H H' → Q (.bool false) H')
  (hidx : ∀ i q e r ix' H', p.index.length = 1 → idx = i :: q → t.elem = e :: r → ¬ i ≥ wu64 t.count → partM t p = (0, e) → U64s ix' q → e.lay → KeepC id H H' → At H' id (.row (wkC e { sp with at_ := w64 (sp.at_ + w64 (IntKind.wrap .i64 i * (layM e).1.1)), len := (layM e).1.1 } ix')) → Q (.bool true) H')
  (hfld : ∀ n f s H', p.index.length ≠ 1 → p.index = [] → t.fields.findIdx? (fun f => f.name == p.field) = some n → t.fields[n]? = some f → (spotsM t)[n]? = some s → partM t p = (0, f.type) → f.type.lay → KeepC id H H' → At H' id (.row (wkC f.type { s with at_ := w64 (s.at_ + sp.at_) } ix)) → Q (.bool true) H') :
  ACall C K.f165 [.ptr id 0, .agg p.cells] H Q := by
 refine S.cl_f165 hT ?_
 unfold S.f165
 simp only [pl_box, DoH_some, pl_addr, pl_l1, lstA_len', Do_of, abin_eql, Gd_true]
 rcases lay_part ht h0 with ⟨hp1, hk, e, r, he, hpm, hel⟩ | ⟨hp0, hk, n, f, s, h1, h2, h3, hpm, hfl⟩
 · rw [if_pos (by rw [hp1]; decide)]
   obtain ⟨i, q, hiq⟩ : ∃ i q, idx = i :: q := by
    cases idx with
    | nil => rw [hp1] at hpi; simp at hpi
    | cons i q => exact ⟨i, q, rfl⟩
   subst hiq
   obtain ⟨tk, rfl⟩ := hix
   have ld0 : aiaddr none 1 (.lst tk (i :: q).length ((i :: q).map (AV.int .u64))) (.int .i64 0) = some (.fptr ((i :: q).map (AV.int .u64))) := by
    show (if 0 ≤ (0 : Int) ∧ (0 : Int) < ((i :: q).length : Nat) then some (AV.fptr (((i :: q).map (AV.int .u64)).drop ((0 : Int).toNat * 1))) else none) = _
    rw [if_pos ⟨Int.le_refl _, by simp⟩]; rfl
   have ld1 : ∀ H, aload H 1 false (.fptr ((i :: q).map (AV.int .u64))) = some (.int .u64 i) := fun H => by
    show takeCells ((i :: q).map (AV.int .u64)) 0 1 false = _
    unfold takeCells
    rw [if_pos (by simp), if_neg (by decide)]; rfl
   obtain ⟨ix', hsl, hix'⟩ : ∃ ix', aslice 1 (.lst tk (i :: q).length ((i :: q).map (AV.int .u64))) (some (.int .i64 1)) none none = some ix' ∧ U64s ix' q ∧ ix'.known = true ∧ ix'.cells = [ix'] ∧ ix'.scalar = true := by
    refine ⟨.lst .dead q.length (q.map (AV.int .u64)), ?_, ⟨_, rfl⟩, rfl, rfl, rfl⟩
    simp only [aslice, abound, Option.map_none]
    rw [if_pos (by omega)]
    simp only [show (1 : Int).toNat = 1 from rfl]
    rw [if_pos ⟨by simp, Nat.le_refl _, by simp⟩, if_neg (by simp), if_neg (by simp)]
    have e1 : ((i :: q).map (AV.int .u64)).take ((i :: q).length * 1) = (i :: q).map (AV.int .u64) := List.take_of_length_le (by simp)
    rw [e1]
    rfl
   obtain ⟨hix', g1, g2, g3⟩ := hix'
   simp only [anilck, afaddr, Nat.zero_add, wk_ix h, Do_of, ld0, ld1, hsl]
   rw [wk_six h g1 g2 g3]
   simp only [Do_of]
   have a1 := h.set (.row (wkC t sp ix'))
   have k1 := KeepC.set id H (.row (wkC t sp ix'))
   rw [wk_cnt a1]
   simp only [Do_of, aconv_int, abin_geq, Gd_true]
   refine ite_both (fun hb => ?_) (fun hb => ?_)
   · exact hbad i q e r _ hp1 rfl he (by simpa using hb) k1
   · rw [wk_el a1, he]
     have le0 : aiaddr none 6 (lstA GType.cells (e :: r)) (.int .i64 0) = some (elA GType.cells 6 (e :: r) 0) := lstA_addr (by simp)
     simp only [Do_of, le0, elA_load GType.len (by decide) _ (show (e :: r)[0]? = some e from rfl)]
     rw [wk_sty a1 e]
     simp only [Do_of]
     have a2 := a1.set (.row (wkC e sp ix'))
     rw [wk_ty a2]
     simp only [Do_of]
     refine layout_Of_val hGT hT e hel.ok _ _ ?_
     simp only [aextract, List.getElem?_cons_zero, List.getElem?_cons_succ, Do_of, wk_at a2, abin_mul, abin_add]
     rw [wk_sat a2]
     simp only [Do_of]
     have a3 := a2.set (.row (wkC e { sp with at_ := w64 (sp.at_ + w64 (IntKind.wrap .i64 i * (layM e).1.1)) } ix'))
     rw [wk_slen a3]
     simp only [Do_of]
     exact hidx i q e r ix' _ hp1 rfl he (by simpa using hb) hpm hix' hel (k1.trans ((KeepC.set id _ _).trans ((KeepC.set id _ _).trans (KeepC.set id _ _)))) (a3.set _)
 · rw [if_neg (by rw [hp0]; decide)]
   have hlt := (List.getElem?_eq_some_iff.1 h2).1
   have hlt3 := (List.getElem?_eq_some_iff.1 h3).1
   simp only [anilck, afaddr, Nat.zero_add, wk_fl h, Do_of]
   refine S.cl_f182 hT ?_
   refine fieldIndex (p := fun f => f.name == p.field) (fun g _ R hR => S.cl_f189 hT (by
     unfold S.f189
     have hb : aboxv H false 9 (.agg g.cells) = some (.fptr g.cells, H) := by unfold aboxv; rw [if_pos ⟨rfl, g.len⟩]; rfl
     have l0 : aload H 1 false (.fptr (g.cells.drop 0)) = some (.str g.name) := fd_t0 g
     have l1 : aload H 1 false (.fptr (p.cells.drop 0)) = some (.str p.field) := pl_l0 p H
     rw [hb]
     simp only [DoH_some, afaddr, Do_of, l0, l1, abin_streq']
     exact hR)) (GType.ok_sub ht.ok).2.2 ?_
   rw [h1]
   simp only [idxI, wk_ty h, Do_of]
   refine Fields_val hGT hT ht hk _ _ ?_
   simp only [aextract, List.getElem?_cons_zero, List.getElem?_cons_succ, Do_of]
   rw [lstA_addr hlt3]
   simp only [Do_of]
   rw [elA_load (cells := GSpot.cells) (fun _ => rfl) (by decide) _ h3]
   simp only [Do_of, DoH_some, abox, if_true]
   rw [store_new _ _ _ 6 rfl rfl rfl]
   have b1 := At.new H (.row s.cells)
   have a1 := h.push (.row s.cells)
   have k1 := KeepC.push id H (.row s.cells)
   have hne : H.n ≠ id := Ne.symm h.lt_new
   generalize H.push (.row s.cells) = H1 at *
   have lb : aload H1 1 false (.ptr H.n 0) = some (.int .i64 s.at_) := by rw [b1.load]; rfl
   simp only [Do_of, afaddr, Nat.zero_add, lb, wk_at a1, abin_add]
   have sb : ∀ v : Int, astore H1 1 (.ptr H.n 0) (.int .i64 v) = some (H1.set H.n (.row ({ s with at_ := v } : GSpot).cells)) := fun v => by
    rw [b1.store, if_pos ⟨rfl, rfl, rfl, (by show 0 + 1 ≤ 6; decide)⟩]; rfl
   rw [sb]
   simp only [Do_of]
   have b2 := b1.set (.row ({ s with at_ := w64 (s.at_ + sp.at_) } : GSpot).cells)
   have a2 := a1.set_ne hne.symm (.row ({ s with at_ := w64 (s.at_ + sp.at_) } : GSpot).cells)
   have k2 : KeepC id H (H1.set H.n (.row ({ s with at_ := w64 (s.at_ + sp.at_) } : GSpot).cells)) := ⟨k1.1, fun i o hi ho => (k1.2 i o hi ho).set_ne (Nat.ne_of_lt ho.1) _⟩
   generalize H1.set H.n (.row ({ s with at_ := w64 (s.at_ + sp.at_) } : GSpot).cells) = H2 at *
   have lb2 : aload H2 6 true (.ptr H.n 0) = some (.agg ({ s with at_ := w64 (s.at_ + sp.at_) } : GSpot).cells) := by rw [b2.load]; rfl
   simp only [lb2, Do_of, wk_fl a2]
   rw [lstA_addr hlt]
   simp only [Do_of, elA]
   rw [show (AV.fptr (List.drop 1 (List.drop (n * 9) (List.flatMap GField.cells t.fields)))) = .fptr (((t.fields.flatMap GField.cells).drop (n * 9)).drop 1) from rfl, fdl_type H2 h2]
   simp only [Do_of]
   rw [wk_ssp a2]
   simp only [Do_of]
   have a3 := a2.set (.row (wkC t { s with at_ := w64 (s.at_ + sp.at_) } ix))
   rw [wk_sty a3 f.type]
   simp only [Do_of]
   exact hfld n f s _ (by rw [hp0]; decide) hp0 h1 h2 h3 hpm hfl (k2.trans ((KeepC.set id _ _).trans (KeepC.set id _ _))) (a3.set _)
end
end Rb

namespace Rb
open Go
def idxN : List GPart → Nat
 | [] => 0
 | p :: r => p.index.length + idxN r
theorem partM_idx {t : GType} {p : GPart} (h : (partM t p).1 = 0) : p.index.length ≤ 1 := by
 unfold partM at h
 by_cases c1 : 1 < p.index.length ∨ (p.index.length = 1 ↔ p.field ≠ [])
 · rw [if_pos c1] at h
   have : (8 : Int) = 0 := h
   omega
 · omega
theorem partsM_cons {t : GType} {p : GPart} {r : List GPart} (h : (partsM t (p :: r)).1 = 0) : (partM t p).1 = 0 ∧ (partsM (partM t p).2 r).1 = 0 := by
 rw [partsM] at h
 by_cases c : (partM t p).1 ≠ 0
 · rw [if_pos c] at h; exact absurd h c
 · rw [if_neg c] at h; exact ⟨by omega, h⟩
theorem partsM_idx : ∀ {r : List GPart} {t : GType}, (partsM t r).1 = 0 → idxN r ≤ r.length
 | [], _, _ => Nat.le_refl _
 | p :: r, t, h => by
  obtain ⟨h1, h2⟩ := partsM_cons h
  have := partM_idx h1
  have := partsM_idx h2
  rw [idxN, List.length_cons]; omega
theorem manyM_eq : ∀ (r : List GPart) (n : Int), 0 ≤ n → n + idxN r ≤ 9223372036854775807 → manyM r n = n + idxN r
 | [], n, _, _ => by rw [manyM, idxN]; simp
 | p :: r, n, h0, h1 => by
  rw [idxN] at h1
  have hw : w64 (n + (p.index.length : Nat)) = n + (p.index.length : Nat) := wrap_i64 (by omega) (by omega)
  rw [manyM, hw, manyM_eq r _ (by omega) (by omega), idxN]; omega
theorem walk_bad {p : GPart} {r : List GPart} {t : GType} {sp : GSpot} {i : Int} {q : List Int} (h : p.index.length = 1) (hi : i ≥ wu64 t.count) : walkM (p :: r) t sp (i :: q) = none := by
 unfold walkM
 rw [if_pos h]
 dsimp only
 rw [if_pos hi]
theorem walk_idx {p : GPart} {r : List GPart} {t e : GType} {el : List GType} {sp : GSpot} {i : Int} {q : List Int} (h : p.index.length = 1) (hi : ¬ i ≥ wu64 t.count) (he : t.elem = e :: el) : walkM (p :: r) t sp (i :: q) = walkM r e { sp with at_ := w64 (sp.at_ + w64 (IntKind.wrap .i64 i * (layM e).1.1)), len := (layM e).1.1 } q := by
 conv => lhs; unfold walkM
 rw [if_pos h]
 dsimp only
 rw [if_neg hi, he]
theorem walk_fld {p : GPart} {r : List GPart} {t : GType} {f : GField} {s sp : GSpot} {n : Nat} {idx : List Int} (h : p.index.length ≠ 1) (h1 : t.fields.findIdx? (fun f => f.name == p.field) = some n) (h2 : t.fields[n]? = some f) (h3 : (spotsM t)[n]? = some s) : walkM (p :: r) t sp idx = walkM r f.type { s with at_ := w64 (s.at_ + sp.at_) } idx := by
 conv => lhs; unfold walkM
 rw [if_neg h, h1]
 dsimp only
 rw [h2, h3]
section
variable {C : Ctx} (hGT : GTok C) (hT : Cl (ACall C) S.tab_Chk)
include hGT hT
theorem Find_ok {vars : List GVar} (hl : vars.length ≤ 1000000) (hv : ∀ v ∈ vars, v.ok) {x : GPlace} (hx : x.ok) {ix : AV} {idx : List Int} (hix : U64s ix idx) {H : AH} {Q : Post} (hQ : ∀ e H', AH.Ext H H' → Q (.tup [.agg (findM vars x idx).cells, .int .i64 e]) H') : ACall C K.f138 [lstA GVar.cells vars, .agg x.cells, ix] H Q := by
 obtain ⟨hxl, hxp⟩ := GPlace.ok_parts hx
 refine S.cl_f138 hT ?_
 unfold S.f138
 simp only [plc_box, DoH_some, abox, if_true]
 have E1 := AH.Ext.push H (.row spotZ.cells)
 have r1 := At.new H (.row spotZ.cells)
 change ACall C K.f32 [lstA GVar.cells vars] (H.push (.row spotZ.cells)) _
 have n1 : (H.push (.row spotZ.cells)).n = H.n + 1 := rfl
 generalize H.push (.row spotZ.cells) = H1 at *
 have ret : ∀ (sp : GSpot) (e : Int) (H2 : AH), AH.Ext H H2 → At H2 H.n (.row spotZ.cells) → findM vars x idx = sp → Do (astore H2 6 (.ptr H.n 0) (.agg sp.cells)) fun H3 => Do (aload H3 6 true (.ptr H.n 0)) fun y => Q (.tup [y, .int .i64 e]) H3 := by
  intro sp e H2 E2 r2 he
  rw [r2.put (n := 6) rfl rfl rfl]
  simp only [Do_of]
  rw [(r2.set _).all (n := 6) rfl]
  simp only [Do_of]
  rw [he] at hQ
  exact hQ e _ (E2.set (Nat.le_refl _) _)
 have z6 : abuild [.int .i64 0, .int .i64 0, .int .i64 0, .bool false, .int .i64 0, .int .i64 0] [] = some (.agg spotZ.cells) := rfl
 refine Map_val hGT hT hl hv _ _ ?_
 unfold mapV
 by_cases hm : (mapM vars).1 ≠ 0
 · rw [if_pos hm]
   simp only [aextract, List.getElem?_cons_zero, List.getElem?_cons_succ, Do_of, abin_neq, Gd_true]
   rw [if_pos (by simpa using hm), z6]
   simp only [Do_of]
   exact ret spotZ _ H1 E1 r1 (by unfold findM; rw [if_pos hm])
 rw [if_neg hm]
 obtain ⟨hml, hmv⟩ := mapM_ok (show (mapM vars).1 = 0 by omega)
 simp only [aextract, List.getElem?_cons_zero, List.getElem?_cons_succ, Do_of, abin_neq, Gd_true]
 rw [if_neg (by decide)]
 simp only [plc_all, Do_of]
 refine place_val hGT hT vars x (by have : maxLen = 9223372036854775807 := by decide
                                    omega) hv hx _ _ ?_
 rw [resV_eq]
 simp only [aextract, List.getElem?_cons_zero, List.getElem?_cons_succ, Do_of, DoH_some, abox, if_true]
 rw [store_new _ _ _ 6 (resTC_len _) (resTC_scalar _) rfl]
 have b2 := At.new H1 (.row (resTC (placeM vars x)))
 have r2 := r1.push (.row (resTC (placeM vars x)))
 have E2 := E1.trans (AH.Ext.push H1 (.row (resTC (placeM vars x))))
 have hne : H1.n ≠ H.n := by omega
 generalize H1.push (.row (resTC (placeM vars x))) = H2 at *
 simp only [Do_of, abin_neq, Gd_true]
 by_cases hp : (placeM vars x).1 ≠ 0
 · rw [if_pos (by simpa using hp), z6]
   simp only [Do_of]
   exact ret spotZ _ H2 E2 r2 (by unfold findM; rw [if_neg hm, if_pos hp])
 rw [if_neg (by simpa using hp)]
 have hp0 : (placeM vars x).1 = 0 := by omega
 have l0 : aload H2 1 false (.ptr H1.n 0) = some (.int .i64 (placeM vars x).2.kind) := by
  rw [b2.load]
  unfold resTC
  rw [if_pos hp0, GType.cells_eq]; rfl
 simp only [afaddr, Nat.zero_add, Do_of, l0, abin_neq, Gd3_true, JoinP_def]
 have k4 : ∀ b : Bool, (b = true ↔ ¬ ((placeM vars x).2.kind = 1 ∨ (placeM vars x).2.kind = 2)) → S.f138_k4 (ACall C) (lstA GVar.cells vars) ix (.fptr x.cells) (.ptr H.n 0) (.lst .dead vars.length (globs vars (mapM vars).2.2)) (.ptr H1.n 0) Q [.bool b] H2 := by
  intro b hb
  simp only [S.f138_k4, sl_zero, Gd_true]
  refine ite_both (fun hk => ?_) (fun hk => ?_)
  · rw [z6]
    simp only [Do_of]
    exact ret spotZ _ H2 E2 r2 (by unfold findM; rw [if_neg hm, if_neg hp, if_pos (hb.1 hk)])
  have hk' : ¬ ¬ ((placeM vars x).2.kind = 1 ∨ (placeM vars x).2.kind = 2) := fun e => hk (hb.2 e)
  have hal : alen false ix = some (.int .i64 idx.length) := by obtain ⟨tk, rfl⟩ := hix; rfl
  simp only [hal, plc_all, Do_of]
  refine many_val hGT hT hx _ _ ?_
  simp only [abin_neq, Do_of, Gd_true]
  refine ite_both (fun hc => ?_) (fun hc => ?_)
  · rw [z6]
    simp only [Do_of]
    exact ret spotZ _ H2 E2 r2 (by unfold findM; rw [if_neg hm, if_neg hp, if_neg hk', if_pos (by simpa using hc)])
  have hcn : ¬ (idx.length : Int) ≠ manyM x.parts 0 := by simpa using hc
  have hfm : findM vars x idx = match vars.findIdx? (fun v => v.name == x.var) with
    | none => spotZ
    | some n => match vars[n]?, (mapM vars).2.2[n]? with
     | some v, some g => match walkM x.parts v.type { spotZ with at_ := g.at_, len := g.len } idx with
      | some sp => { sp with kind := (placeM vars x).2.kind }
      | none => spotZ
     | _, _ => spotZ := by
   unfold findM
   rw [if_neg hm, if_neg hp, if_neg hk', if_neg hcn]
   rfl
  have hpl : (placeM vars x).1 = 0 := hp0
  obtain ⟨n, v, hn1, hn2, hn3, hsound, hparts⟩ : ∃ n v, vars.findIdx? (fun v => v.name == x.var) = some n ∧ vars[n]? = some v ∧ vars.find? (fun v => v.name == x.var) = some v ∧ soundM v.type = 0 ∧ placeM vars x = partsM v.type x.parts := by
   rcases find_idx (fun v : GVar => v.name == x.var) vars with ⟨i, v, h1, h2, h3⟩ | ⟨h1, h2⟩
   · refine ⟨i, v, h1, h3, h2, ?_, ?_⟩
     · unfold placeM at hpl
       rw [h2] at hpl
       dsimp only at hpl
       by_cases hs : soundM v.type ≠ 0
       · rw [if_pos hs] at hpl; exact absurd hpl hs
       · omega
     · unfold placeM
       unfold placeM at hpl
       rw [h2] at hpl ⊢
       dsimp only at hpl ⊢
       by_cases hs : soundM v.type ≠ 0
       · rw [if_pos hs] at hpl; exact absurd hpl hs
       · rw [if_neg hs]
   · unfold placeM at hpl
     rw [h2] at hpl
     have : (6 : Int) = 0 := hpl
     omega
  have hlt := (List.getElem?_eq_some_iff.1 hn2).1
  have hmem := List.mem_of_getElem? hn2
  have hgl : n < (mapM vars).2.2.length := by rw [hml]; exact hlt
  obtain ⟨g, hg⟩ : ∃ g, (mapM vars).2.2[n]? = some g := ⟨_, List.getElem?_eq_getElem hgl⟩
  rw [hn1] at hfm
  dsimp only at hfm
  rw [hn2, hg] at hfm
  dsimp only at hfm
  have hvt : v.type.lay := lay_of (by have := hv v hmem; cases v; exact this.2) (hmv v hmem)
  rw [hparts] at hpl
  have hcnt : idx.length = idxN x.parts := by
   have h1 := partsM_idx hpl
   have h2 := manyM_eq x.parts 0 (Int.le_refl _) (by omega)
   omega
  simp only [JoinP_def, S.f138_k3]
  refine S.cl_f97 hT ?_
  refine varIndex (p := fun v => v.name == x.var) (fun w _ R hR => S.cl_f164 hT (by
    unfold S.f164
    have hb : aboxv H2 false 7 (.agg w.cells) = some (.fptr w.cells, H2) := by unfold aboxv; rw [if_pos ⟨rfl, w.len⟩]; rfl
    have l0 : aload H2 1 false (.fptr (w.cells.drop 0)) = some (.str w.name) := vr_t0 w
    have l1 : aload H2 1 false (.fptr (x.cells.drop 0)) = some (.str x.var) := plc_l0 x H2
    rw [hb]
    simp only [DoH_some, afaddr, Do_of, l0, l1, abin_streq']
    exact hR)) (by omega) ?_
  rw [hn1]
  simp only [idxI]
  rw [lstA_addr hlt]
  simp only [Do_of, elA, afaddr]
  rw [vr_type v H2 hn2]
  have hga : aiaddr none 3 (.lst .dead vars.length (globs vars (mapM vars).2.2)) (.int .i64 n) = some (.fptr ((globs vars (mapM vars).2.2).drop (n * 3))) := by
   show (if 0 ≤ (n : Int) ∧ (n : Int) < (vars.length : Nat) then some (AV.fptr ((globs vars (mapM vars).2.2).drop ((n : Int).toNat * 3))) else none) = _
   rw [if_pos ⟨by omega, by omega⟩, Int.toNat_natCast]
  have hgd : ∀ (a : List GVar) (s : List GSpot) (n : Nat) (v : GVar) (g : GSpot), a[n]? = some v → s[n]? = some g → ∃ tl, (globs a s).drop (n * 3) = .str v.name :: .int .i64 g.at_ :: .int .i64 g.len :: tl := by
   intro a
   induction a with
   | nil => intro s n v g h; simp at h
   | cons y a ih =>
    intro s n v g h1 h2
    cases s with
    | nil => simp at h2
    | cons z s =>
     cases n with
     | zero =>
      simp at h1 h2
      subst h1; subst h2
      exact ⟨globs a s, rfl⟩
     | succ n =>
      obtain ⟨tl, e⟩ := ih s n v g (by simpa using h1) (by simpa using h2)
      refine ⟨tl, ?_⟩
      rw [globs, show (n + 1) * 3 = n * 3 + 3 by omega]
      exact e
  obtain ⟨tl, htl⟩ := hgd vars (mapM vars).2.2 n v g hn2 hg
  simp only [Do_of, hga, htl, List.drop_succ_cons, List.drop_zero]
  have hls : aload H2 2 true (.fptr (.int .i64 g.at_ :: .int .i64 g.len :: tl)) = some (.agg [.int .i64 g.at_, .int .i64 g.len]) := by
   show takeCells _ 0 2 true = _
   exact takeCells_app (a := [AV.int .i64 g.at_, .int .i64 g.len]) rfl
  simp only [hls, Do_of]
  refine ⟨.agg ({ spotZ with at_ := g.at_, len := g.len } : GSpot).cells, rfl, ?_⟩
  dsimp only
  obtain ⟨tk, hixe⟩ := hix
  have hbd : abuild [.int .i64 0, .int .i64 0, .bool false, .lst .nil 0 [], .int .i64 0, .lst .nil 0 [], .int .i64 0, .int .i64 0, .int .i64 0, .bool false, .int .i64 0, .int .i64 0, .lst .nil 0 []] [(0, 6, .agg v.type.cells), (6, 6, .agg ({ spotZ with at_ := g.at_, len := g.len } : GSpot).cells), (12, 1, ix)] = some (.agg (wkC v.type { spotZ with at_ := g.at_, len := g.len } ix)) := by
   rw [wk_eq, GType.cells_eq, hixe]; rfl
  rw [hbd]
  simp only [Do_of]
  have hbx : aboxv H2 true 13 (.agg (wkC v.type { spotZ with at_ := g.at_, len := g.len } ix)) = some (.ptr H2.n 0, H2.push (.row (wkC v.type { spotZ with at_ := g.at_, len := g.len } ix))) := by
   unfold aboxv
   rw [if_pos ⟨rfl, by rw [wk_eq]; rfl⟩]; rfl
  rw [hbx, DoH_some]
  simp only [plc_addr, plc_l1, Do_of, lstA_len']
  have a3 := At.new H2 (.row (wkC v.type { spotZ with at_ := g.at_, len := g.len } ix))
  have r3 := r2.push (.row (wkC v.type { spotZ with at_ := g.at_, len := g.len } ix))
  have b3 := b2.push (.row (wkC v.type { spotZ with at_ := g.at_, len := g.len } ix))
  have E3 := E2.trans (AH.Ext.push H2 (.row (wkC v.type { spotZ with at_ := g.at_, len := g.len } ix)))
  have hn2' : H.n < H2.n ∧ H1.n < H2.n := ⟨r2.1, b2.1⟩
  have hno : H.n ≠ H2.n ∧ H1.n ≠ H2.n := ⟨by omega, by omega⟩
  have keep : ∀ {H5 H6 : AH}, AH.Ext H H5 → KeepC H2.n H5 H6 → AH.Ext H H6 := fun {H5 H6} e k => ⟨Nat.le_trans e.1 k.1, fun i hi => ((k.2 i (H5.o i) (by omega) ⟨Nat.lt_of_lt_of_le hi e.1, rfl⟩).2).trans (e.2 i hi)⟩
  have main : ∀ (r : List GPart) (i : Nat) (t : GType) (sp : GSpot) (ix' : AV) (idx' : List Int) (H5 : AH), x.parts.drop i = r → t.lay → (partsM t r).1 = 0 → U64s ix' idx' → idx'.length = idxN r → AH.Ext H H5 → At H5 H2.n (.row (wkC t sp ix')) → At H5 H.n (.row spotZ.cells) → At H5 H1.n (.row (resTC (placeM vars x))) →
    walkM r t sp idx' = walkM x.parts v.type { spotZ with at_ := g.at_, len := g.len } idx →
    LoopP (S.f138_l2 (ACall C) (.ptr H.n 0) (.ptr H1.n 0) (.ptr H2.n 0) (lstA GPart.cells x.parts) (.int .i64 x.parts.length) Q) ([.int .i64 i], H5) := by
   intro r
   induction r with
   | nil =>
    intro i t sp ix' idx' H5 hd ht hpt hi hin E5 a5 r5 b5 hw
    have hle := drop_nil_le hd
    refine LoopP.step ?_
    simp only [S.f138_l2, sl_zero, abin_lss, Do_of, Gd_true, JoinP_def, S.f138_k1]
    rw [if_neg (by simp only [decide_eq_true_eq]; omega)]
    have l0' : aload H5 1 false (.ptr H1.n 0) = some (.int .i64 (placeM vars x).2.kind) := by
     rw [b5.load]
     unfold resTC
     rw [if_pos hp0, GType.cells_eq]; rfl
    simp only [anilck, afaddr, Nat.zero_add, l0', Do_of]
    rw [wk_skind a5]
    simp only [Do_of]
    have a6 := a5.set (.row (wkC t { sp with kind := (placeM vars x).2.kind } ix'))
    rw [wk_sp a6]
    simp only [Do_of]
    rw [walkM] at hw
    rw [← hw] at hfm
    exact ret _ _ _ (keep E5 (KeepC.set _ _ _)) (r5.set_ne hno.1 _) hfm
   | cons p r ih =>
    intro i t sp ix' idx' H5 hd ht hpt hi hin E5 a5 r5 b5 hw
    obtain ⟨hlt', hpx, hd'⟩ := drop_cons_lt hd
    obtain ⟨hp1, hp2⟩ := partsM_cons hpt
    rw [idxN] at hin
    refine LoopP.step ?_
    simp only [S.f138_l2, sl_zero, abin_lss, Do_of, Gd_true]
    rw [if_pos (by simp only [decide_eq_true_eq]; omega), lstA_addr hlt']
    simp only [Do_of]
    rw [elA_load GPart.len (by decide) _ hpx]
    simp only [Do_of, DoH_some, abox, if_true]
    rw [store_new _ _ _ 2 p.len p.scalar rfl]
    have q6 := At.new H5 (.row p.cells)
    have a6 := a5.push (.row p.cells)
    have r6 := r5.push (.row p.cells)
    have b6 := b5.push (.row p.cells)
    have E6 := E5.trans (AH.Ext.push H5 (.row p.cells))
    simp only [Do_of]
    rw [q6.load, takeCells_whole p.len]
    simp only [Do_of]
    generalize H5.push (.row p.cells) = H6 at *
    have hw64 : IntKind.wrap .i64 ((i : Int) + 1) = ((i + 1 : Nat) : Int) := by rw [wrap_i64 (by omega) (by omega)]; simp
    refine wkstep_ok hGT hT a6 ht hi hp1 (by omega) (fun i0 q e r' H7 c1 c2 c3 c4 k7 => ?_) (fun i0 q e r' ix2 H7 c1 c2 c3 c4 c5 c6 c7 k7 a7 => ?_) (fun n' f s H7 c0 c1 c2 c3 c4 c5 c6 k7 a7 => ?_)
    · simp only [aun_not, Do_of, Gd_true, Bool.not_false, if_true, z6]
      refine ret spotZ _ H7 (keep E6 k7) (k7.2 _ _ hno.1 r6) ?_
      rw [c2, walk_bad c1 c4] at hw
      rw [← hw] at hfm
      exact hfm
    · simp only [aun_not, Do_of, Gd_true, Bool.not_true, Bool.false_eq_true, if_false, abin_add, hw64]
      refine ih (i + 1) e _ ix2 q H7 hd' c7 ?_ c6 ?_ (keep E6 k7) a7 (k7.2 _ _ hno.1 r6) (k7.2 _ _ hno.2 b6) ?_
      · rw [c5] at hp2; exact hp2
      · rw [c2, List.length_cons] at hin; omega
      · rw [c2, walk_idx c1 c4 c3] at hw
        exact hw
    · simp only [aun_not, Do_of, Gd_true, Bool.not_true, Bool.false_eq_true, if_false, abin_add, hw64]
      refine ih (i + 1) f.type _ ix' idx' H7 hd' c6 ?_ hi ?_ (keep E6 k7) a7 (k7.2 _ _ hno.1 r6) (k7.2 _ _ hno.2 b6) ?_
      · rw [c5] at hp2; exact hp2
      · rw [c1, List.length_nil] at hin; omega
      · rw [walk_fld c0 c2 c3 c4] at hw
        exact hw
  exact main x.parts 0 v.type _ ix idx _ rfl hvt hpl ⟨tk, hixe⟩ hcnt E3 a3 r3 b3 rfl
 refine ite_both (fun h1 => ?_) (fun h1 => ?_)
 · refine k4 _ ?_
   simp only [bne_iff_ne, ne_eq] at h1 ⊢
   omega
 · refine k4 false ⟨fun e => (by cases e), fun e => ?_⟩
   simp only [bne_iff_ne, ne_eq] at h1
   omega
end
end Rb

namespace Rb
open Go
theorem locs_get : ∀ (L : List (List UInt8 × Int)) (k : Nat) (l : List UInt8 × Int), L[k]? = some l → (L.flatMap locC)[k * 2]? = some (.str l.1) ∧ (L.flatMap locC)[k * 2 + 1]? = some (.int .u64 l.2)
 | [], k, l, h => by simp at h
 | x :: r, 0, l, h => by
  simp at h
  subst h
  exact ⟨rfl, rfl⟩
 | x :: r, k + 1, l, h => by
  have := locs_get r k l (by simpa using h)
  rw [show (k + 1) * 2 = k * 2 + 2 by omega]
  exact this
theorem locs_set1 : ∀ (L : List (List UInt8 × Int)) (k : Nat) (l : List UInt8 × Int) (v : Int), L[k]? = some l → (L.flatMap locC).set (k * 2 + 1) (.int .u64 v) = (L.set k (l.1, v)).flatMap locC
 | [], k, l, v, h => by simp at h
 | x :: r, 0, l, v, h => by
  simp at h
  subst h
  rfl
 | x :: r, k + 1, l, v, h => by
  have := locs_set1 r k l v (by simpa using h)
  rw [show (k + 1) * 2 + 1 = k * 2 + 1 + 1 + 1 by omega, List.set_cons_succ, List.flatMap_cons, List.flatMap_cons, ← this]
  rfl
theorem locs_at {cs : List AV} {L : List (List UInt8 × Int)} {k : Nat} {l : List UInt8 × Int} (h : cs.take (L.length * 2) = L.flatMap locC) (hk : L[k]? = some l) : cs[k * 2]? = some (.str l.1) ∧ cs[k * 2 + 1]? = some (.int .u64 l.2) := by
 have hlt := (List.getElem?_eq_some_iff.1 hk).1
 have := locs_get L k l hk
 rw [← h, List.getElem?_take, List.getElem?_take, if_pos (by omega), if_pos (by omega)] at this
 exact this
theorem row_el {cs : List AV} {L : List (List UInt8 × Int)} {k m : Nat} {l : List UInt8 × Int} (h : cs.take (L.length * 2) = L.flatMap locC) (hm : cs.length = m * 2) (hl : L.length ≤ m) (hk : L[k]? = some l) : takeCells cs (0 + k * 2) 2 true = some (.agg (locC l)) := by
 have hlt := (List.getElem?_eq_some_iff.1 hk).1
 obtain ⟨h1, h2⟩ := locs_at h hk
 unfold takeCells
 rw [if_pos (by omega), if_pos rfl, Nat.zero_add]
 have e : (cs.drop (k * 2)).take 2 = locC l := by
  apply List.ext_getElem?
  intro j
  rw [List.getElem?_take]
  by_cases hj : j < 2
  · rw [if_pos hj, List.getElem?_drop]
    have : j = 0 ∨ j = 1 := by omega
    rcases this with rfl | rfl
    · exact h1
    · exact h2
  · rw [if_neg hj]
    rw [List.getElem?_eq_none (by show (locC l).length ≤ j; simp [locC]; omega)]
 rw [e]
section
variable {C : Ctx} (hGT : GTok C) (hT : Cl (ACall C) S.tab_Chk)
include hGT hT
variable {vars : List GVar} {s : RS} {lx px : AV} {H : AH} {id : Nat} {Q : Post}
theorem find_ok (h : At H id (.row (rmC vars s lx px))) (hloc : LocV H id s.locs lx) (hb : s.locs.length ≤ 1000000) {name : List UInt8} {i : Nat} (hi : s.locs.findIdx? (fun l => l.1 == name) = some i) (hQ : ∀ j cs m, lx = .row j 0 s.locs.length 2 → j ≠ id → At H j (.row cs) → cs.length = m * 2 → s.locs.length ≤ m → cs.take (s.locs.length * 2) = s.locs.flatMap locC → Q (.ptr j (i * 2 + 1)) H) :
  ACall C K.f108 [.ptr id 0, .str name] H Q := by
 obtain ⟨hlt, hpi, _⟩ := List.findIdx?_eq_some_iff_getElem.1 hi
 rcases hloc with ⟨rfl, he⟩ | ⟨j, cs, m, rfl, h2, h3, h4, h5, h6⟩
 · rw [he] at hlt; simp at hlt
 refine S.cl_f108 hT ?_
 unfold S.f108
 have hbx : aboxv H false 1 (.str name) = some (.fptr [.str name], H) := rfl
 simp only [hbx, DoH_some, anilck, afaddr, Nat.zero_add, rm_locs h, Do_of]
 refine S.cl_f139 hT ?_
 unfold S.f139
 simp only [alen_row, Do_of]
 have hai : aiaddr none 2 (.row j 0 s.locs.length 2) (.int .i64 i) = some (.ptr j (0 + i * 2)) := by
  show (if 0 ≤ (i : Int) ∧ (i : Int) < (s.locs.length : Nat) then some (AV.ptr j (0 + (i : Int).toNat * 2)) else none) = _
  rw [if_pos ⟨by omega, by omega⟩, Int.toNat_natCast]
 have hfin := hQ j cs m rfl h2 h3 h4 h5 h6
 have main : ∀ (r : List (List UInt8 × Int)) (k : Nat), s.locs.drop k = r → (r.findIdx? (fun l => l.1 == name)).map (· + k) = some i →
   LoopP (S.f139_l1 (ACall C) (.row j 0 s.locs.length 2) (.fn K.f140 [.fptr [.str name]]) (.int .i64 s.locs.length) (fun x6 H7 => Do (aload H7 1 false (.ptr id 2)) fun x10 => Do (aiaddr none 2 x10 x6) fun x11 => Do (afaddr 1 x11) fun x12 => Q x12 H7)) ([.int .i64 k], H) := by
  intro r
  induction r with
  | nil => intro k hd he; simp at he
  | cons l r ih =>
   intro k hd he
   obtain ⟨hk, hx, hd'⟩ := drop_cons_lt hd
   refine LoopP.step ?_
   simp only [S.f139_l1, sl_zero, abin_lss, Do_of, Gd_true]
   rw [if_pos (by simp only [decide_eq_true_eq]; omega)]
   have hak : aiaddr none 2 (.row j 0 s.locs.length 2) (.int .i64 k) = some (.ptr j (0 + k * 2)) := by
    show (if 0 ≤ (k : Int) ∧ (k : Int) < (s.locs.length : Nat) then some (AV.ptr j (0 + (k : Int).toNat * 2)) else none) = _
    rw [if_pos ⟨by omega, by omega⟩, Int.toNat_natCast]
   simp only [hak, Do_of, h3.load, row_el h6 h4 h5 hx]
   refine ⟨K.f140, [.fptr [.str name]], rfl, ?_⟩
   rw [fkey_none rfl, fargs_none rfl]
   show ACall C K.f140 [.agg (locC l), .fptr [.str name]] H _
   refine S.cl_f140 hT ?_
   unfold S.f140
   have hb2 : aboxv H false 2 (.agg (locC l)) = some (.fptr (locC l), H) := by unfold aboxv; rw [if_pos ⟨rfl, rfl⟩]; rfl
   have l0 : aload H 1 false (.fptr (List.drop 0 (locC l))) = some (.str l.1) := rfl
   have l1 : aload H 1 false (.fptr [.str name]) = some (.str name) := rfl
   simp only [hb2, DoH_some, afaddr, Do_of, l0, l1, abin_streq', Gd_true]
   rw [List.findIdx?_cons] at he
   refine ite_both (fun e => ?_) (fun e => ?_)
   · rw [if_pos e] at he
     have : k = i := by simpa using he
     subst this
     simp only [rm_locs h, Do_of, hai, afaddr]
     rw [Nat.zero_add]
     exact hfin
   · rw [if_neg e] at he
     simp only [abin_add, Do_of]
     rw [wrap_i64 (by omega) (by omega), show (k : Int) + 1 = ((k + 1 : Nat) : Int) by simp]
     refine ih (k + 1) hd' ?_
     rw [← he, Option.map_map]
     congr 1
     funext z
     simp only [Function.comp]; omega
 exact main s.locs 0 rfl (by rw [hi]; simp)
end
theorem get_of {s : RS} {name : List UInt8} {i : Nat} (hi : s.locs.findIdx? (fun l => l.1 == name) = some i) : ∃ l, s.locs[i]? = some l ∧ l.1 = name ∧ s.get name = l.2 ∧ ∀ v, s.put name v = { s with locs := s.locs.set i (l.1, v) } := by
 rcases find_idx (fun l : List UInt8 × Int => l.1 == name) s.locs with ⟨j, l, h1, h2, h3⟩ | ⟨h1, h2⟩
 · rw [hi] at h1
   cases h1
   have hn : l.1 = name := by
    have := List.find?_some h2
    simpa using this
   refine ⟨l, h3, hn, by unfold RS.get; rw [h2], fun v => ?_⟩
   unfold RS.put
   rw [hi, hn]
 · rw [hi] at h1; cases h1
theorem has_idx {L : List (List UInt8 × Int)} {name : List UInt8} (h : name ∈ L.map (·.1)) : ∃ i, L.findIdx? (fun l => l.1 == name) = some i := by
 rcases find_idx (fun l : List UInt8 × Int => l.1 == name) L with ⟨j, l, h1, h2, h3⟩ | ⟨h1, h2⟩
 · exact ⟨j, h1⟩
 · rw [List.find?_eq_none] at h2
   obtain ⟨l, hl, rfl⟩ := List.mem_map.1 h
   exact absurd (by simp) (h2 l hl)
theorem LocV.put {H : AH} {id j m i : Nat} {L : List (List UInt8 × Int)} {cs : List AV} {l : List UInt8 × Int} (h2 : j ≠ id) (h3 : At H j (.row cs)) (h4 : cs.length = m * 2) (h5 : L.length ≤ m) (h6 : cs.take (L.length * 2) = L.flatMap locC) (hi : L[i]? = some l) (v : Int) :
  astore H 1 (.ptr j (i * 2 + 1)) (.int .u64 v) = some (H.set j (.row (cs.set (i * 2 + 1) (.int .u64 v)))) ∧ LocV (H.set j (.row (cs.set (i * 2 + 1) (.int .u64 v)))) id (L.set i (l.1, v)) (.row j 0 L.length 2) := by
 have hlt := (List.getElem?_eq_some_iff.1 hi).1
 refine ⟨?_, .inr ⟨j, _, m, by simp, h2, h3.set _, by simpa using h4, by simpa using h5, ?_⟩⟩
 · rw [h3.store, if_pos ⟨rfl, rfl, rfl, by omega⟩]; rfl
 · rw [List.length_set, List.take_set, h6, locs_set1 L i l v hi]
theorem LocV.app {H : AH} {id : Nat} {L : List (List UInt8 × Int)} {x : AV} (h : LocV H id L x) (hid : id < H.n) (hl : L.length ≤ 1000000) (name : List UInt8) (v : Int) {K : Post}
  (hK : ∀ x' H', H.n ≤ H'.n → (∀ j o, j ≤ id → (∀ c d e, x ≠ .row j c d e) → At H j o → At H' j o) → LocV H' id (L ++ [(name, v)]) x' → (∀ c d e, x' ≠ .row id c d e) → x'.known = true → x'.cells = [x'] → x'.scalar = true → (∀ j c d e, x' = .row j c d e → (∃ c' d' e', x = .row j c' d' e') ∨ H.n ≤ j) → (∀ j o, (∀ cs, o ≠ .row cs) → At H j o → At H' j o) → K x' H') :
  DoH (aappend H true 2 24 x (.lst .full 1 [.str name, .int .u64 v])) K := by
 have hy : acells H 2 (.lst .full 1 [.str name, .int .u64 v]) = some (1, [.str name, .int .u64 v]) := rfl
 rcases h with ⟨rfl, rfl⟩ | ⟨j, cs, m, rfl, h2, h3, h4, h5, h6⟩
 · refine ⟨.row H.n 0 1 2, H.push (.row [.str name, .int .u64 v]), rfl, ?_⟩
   refine hK _ _ (Nat.le_succ _) (fun j o _ _ h => h.push _) (.inr ⟨H.n, _, 1, rfl, by omega, At.new H _, rfl, Nat.le_refl _, rfl⟩) (fun c d e h => ?_) rfl rfl rfl (fun j c d e h => ?_) (fun j o _ h => h.push _)
   · simp only [AV.row.injEq] at h; omega
   · simp only [AV.row.injEq] at h; right; omega
 · by_cases hc : L.length + 1 ≤ m
   · refine ⟨.row j 0 (L.length + 1) 2, H.set j (.row (setCells cs (L.length * 2) [.str name, .int .u64 v])), ?_, ?_⟩
     · simp only [aappend, hy, h3.2]
       simp only [List.all_cons, List.all_nil, AV.scalar, Bool.and_true, not_true_eq_false, if_false]
       rw [if_neg (by decide), if_neg (by simp only [Decidable.not_not]; exact ⟨trivial, trivial, by omega, by omega⟩), if_pos (by omega)]
     · refine hK _ _ (Nat.le_refl _) (fun q o _ hn h => h.set_ne (fun e => hn 0 L.length 2 (by rw [e])) _) (.inr ⟨j, _, m, by simp, h2, h3.set _, ?_, by simpa using hc, ?_⟩) (fun c d e h => ?_) rfl rfl rfl (fun q c d e h => ?_) (fun q o ho h => h.set_ne (fun e => by subst e; exact ho cs (h.2.symm.trans h3.2)) _)
       · show ((cs.set (L.length * 2) (.str name)).set (L.length * 2 + 1) (.int .u64 v)).length = _
         simpa using h4
       · rw [List.length_append, List.length_singleton]
         show ((cs.set (L.length * 2) (.str name)).set (L.length * 2 + 1) (.int .u64 v)).take ((L.length + 1) * 2) = _
         have e1 : ((cs.set (L.length * 2) (AV.str name)).set (L.length * 2 + 1) (.int .u64 v)).take ((L.length + 1) * 2) = cs.take (L.length * 2) ++ [.str name, .int .u64 v] := by
          apply List.ext_getElem?
          intro q
          rw [List.getElem?_take]
          have hcl : (cs.take (L.length * 2)).length = L.length * 2 := by rw [List.length_take]; omega
          by_cases hq : q < (L.length + 1) * 2
          · rw [if_pos hq, List.getElem?_set, List.getElem?_set]
            by_cases q1 : L.length * 2 + 1 = q
            · subst q1
              rw [if_pos rfl, if_pos (by simp; omega), List.getElem?_append_right (by omega), hcl]
              rw [show L.length * 2 + 1 - L.length * 2 = 1 by omega]; rfl
            · rw [if_neg q1]
              by_cases q2 : L.length * 2 = q
              · subst q2
                rw [if_pos rfl, if_pos (by omega), List.getElem?_append_right (by omega), hcl, Nat.sub_self]; rfl
              · rw [if_neg q2, List.getElem?_append_left (by omega), List.getElem?_take, if_pos (by omega)]
          · rw [if_neg hq, List.getElem?_eq_none (by simp [hcl]; omega)]
         rw [e1, h6, List.flatMap_append]; rfl
       · simp only [AV.row.injEq] at h; exact h2 h.1
       · simp only [AV.row.injEq] at h; exact .inl ⟨0, L.length, 2, by rw [h.1]⟩
   · have hce : cs.length = L.length * 2 := by omega
     refine ⟨.row H.n 0 (L.length + 1) 2, (H.set j .gone).push (.row (cs ++ [.str name, .int .u64 v])), ?_, ?_⟩
     · simp only [aappend, hy, h3.2]
       simp only [List.all_cons, List.all_nil, AV.scalar, Bool.and_true, not_true_eq_false, if_false]
       rw [if_neg (by decide), if_neg (by simp only [Decidable.not_not]; exact ⟨trivial, trivial, by omega, by omega⟩), if_neg (by omega), if_pos (by omega)]
     · refine hK _ _ (Nat.le_succ _) (fun q o _ hn h => (h.set_ne (fun e => hn 0 L.length 2 (by rw [e])) _).push _) (.inr ⟨H.n, _, L.length + 1, by simp, by omega, At.new (H.set j .gone) _, by simp [hce]; omega, by simp, ?_⟩) (fun c d e h => ?_) rfl rfl rfl (fun q c d e h => ?_) (fun q o ho h => (h.set_ne (fun e => by subst e; exact ho cs (h.2.symm.trans h3.2)) _).push _)
       · rw [List.length_append, List.length_singleton, List.take_of_length_le (by simp [hce]; omega)]
         rw [← hce, List.take_length] at h6
         rw [h6, List.flatMap_append]; rfl
       · simp only [AV.row.injEq] at h; omega
       · simp only [AV.row.injEq] at h; right; omega
end Rb

namespace Rb
open Go
section
variable {α : Type} {cells : α → List AV} {sz : Nat} (hc : ∀ x, (cells x).length = sz)
include hc
theorem fl_len : ∀ xs : List α, (xs.flatMap cells).length = xs.length * sz
 | [] => by simp
 | x :: r => by rw [List.flatMap_cons, List.length_append, hc, fl_len r, List.length_cons, Nat.add_mul]; omega
theorem fl_take : ∀ (xs : List α) (k : Nat), (xs.flatMap cells).take (k * sz) = (xs.take k).flatMap cells
 | [], k => by simp
 | x :: r, 0 => by simp
 | x :: r, k + 1 => by
  rw [List.flatMap_cons, List.take_succ_cons, List.flatMap_cons, show (k + 1) * sz = (cells x).length + k * sz by rw [hc, Nat.add_mul]; omega, List.take_length_add_append, fl_take r k]
theorem fl_drop : ∀ (xs : List α) (k : Nat), (xs.flatMap cells).drop (k * sz) = (xs.drop k).flatMap cells
 | [], k => by simp
 | x :: r, 0 => by simp
 | x :: r, k + 1 => by
  rw [List.flatMap_cons, List.drop_succ_cons, show (k + 1) * sz = (cells x).length + k * sz by rw [hc, Nat.add_mul]; omega, List.drop_length_add_append, fl_drop r k]
theorem lstA_take (xs : List α) {k : Nat} (hk : k ≤ xs.length) : aslice sz (lstA cells xs) none (some (.int .i64 k)) none = some (lstA cells (xs.take k)) := by
 show aslice sz (.lst .dead xs.length (xs.flatMap cells)) none (some (.int .i64 k)) none = some (.lst .dead (xs.take k).length ((xs.take k).flatMap cells))
 simp only [aslice, abound, Option.map_none]
 rw [if_pos (by omega)]
 simp only [Int.toNat_natCast]
 rw [if_pos ⟨Nat.zero_le _, hk, fl_len hc xs⟩]
 by_cases e : k = xs.length
 · subst e
   rw [if_pos ⟨trivial, rfl⟩, List.take_length]
 · rw [if_neg (fun h => e h.2), Nat.zero_mul, List.drop_zero, fl_take hc, if_pos trivial, Nat.sub_zero, List.length_take, Nat.min_eq_left hk]
theorem lstA_one {xs : List α} {k : Nat} {x : α} (hx : xs[k]? = some x) : aslice sz (lstA cells xs) (some (.int .i64 k)) (some (.int .i64 ((k + 1 : Nat) : Int))) none = some (lstA cells [x]) := by
 have hlt := (List.getElem?_eq_some_iff.1 hx).1
 show aslice sz (.lst .dead xs.length (xs.flatMap cells)) (some (.int .i64 k)) (some (.int .i64 ((k + 1 : Nat) : Int))) none = some (.lst .dead 1 ([x].flatMap cells))
 simp only [aslice, abound, Option.map_none]
 rw [if_pos (by omega), if_pos (by omega)]
 simp only [Int.toNat_natCast]
 rw [if_pos ⟨by omega, by omega, fl_len hc xs⟩]
 by_cases e : k = 0 ∧ k + 1 = xs.length
 · rw [if_pos e]
   have : xs = [x] := by
    rw [e.1] at hx
    cases xs with
    | nil => simp at hx
    | cons y r =>
     simp at hx
     have : r = [] := List.length_eq_zero_iff.1 (by have := e.2; simp at this; omega)
     rw [hx, this]
   rw [this]; rfl
 · rw [if_neg e]
   have h1 : ((xs.flatMap cells).take ((k + 1) * sz)).drop (k * sz) = [x].flatMap cells := by
    rw [fl_take hc, fl_drop hc, List.take_add_one, hx]
    simp [List.drop_append, List.length_take, Nat.min_eq_left (Nat.le_of_lt hlt)]
   rw [h1, show k + 1 - k = 1 by omega]
   split <;> rfl
end
theorem KeepC.left {id : Nat} {H0 H H' : AH} (h : KeepC id H0 H) (k : Left H0.n H H') : KeepC id H0 H' := ⟨Nat.le_trans h.1 k.1, fun j o hj ho => k.2 j o (h.2 j o hj ho) (.inl ho.1)⟩
theorem KeepC.setL {id i : Nat} {H0 H : AH} (h : KeepC id H0 H) (hi : H0.n ≤ i) (x : AObj) : KeepC id H0 (H.set i x) := ⟨h.1, fun j o hj ho => (h.2 j o hj ho).set_ne (by have := ho.1; omega) x⟩
theorem KeepC.pushL {id : Nat} {H0 H : AH} (h : KeepC id H0 H) (x : AObj) : KeepC id H0 (H.push x) := h.trans (KeepC.push id H x)
mutual
def wfE (L : List (List UInt8)) : GExpr → Prop
 | .mk kind n name op order place kids => (kind = 2 → name ∈ L) ∧ (kind = 3 → kids.length = 2) ∧ kids.length ≤ 2 ∧ (kind ≠ 1 ∧ kind ≠ 2 ∧ kind ≠ 3 → wfP L place) ∧ wfEs L kids
def wfEs (L : List (List UInt8)) : List GExpr → Prop
 | [] => True
 | e :: r => wfE L e ∧ wfEs L r
def wfP (L : List (List UInt8)) : GPlace → Prop
 | .mk var parts => wfPs L parts
def wfPs (L : List (List UInt8)) : List GPart → Prop
 | [] => True
 | p :: r => wfR L p ∧ wfPs L r
def wfR (L : List (List UInt8)) : GPart → Prop
 | .mk field index => wfEs L index
end
theorem wfE_eq (L : List (List UInt8)) (e : GExpr) : wfE L e ↔ (e.kind = 2 → e.name ∈ L) ∧ (e.kind = 3 → e.kids.length = 2) ∧ e.kids.length ≤ 2 ∧ (e.kind ≠ 1 ∧ e.kind ≠ 2 ∧ e.kind ≠ 3 → wfP L e.place) ∧ wfEs L e.kids := by cases e; rw [wfE]
theorem wfEs_iff (L : List (List UInt8)) : ∀ {l : List GExpr}, wfEs L l ↔ ∀ e ∈ l, wfE L e
 | [] => by simp [wfEs]
 | e :: r => by simp [wfEs, wfEs_iff L (l := r)]
theorem wfPs_iff (L : List (List UInt8)) : ∀ {l : List GPart}, wfPs L l ↔ ∀ p ∈ l, wfEs L p.index
 | [] => by simp [wfPs]
 | p :: r => by
  have : wfR L p ↔ wfEs L p.index := by cases p; rw [wfR]
  simp [wfPs, this, wfPs_iff L (l := r)]
theorem wfP_eq (L : List (List UInt8)) (x : GPlace) : wfP L x ↔ ∀ p ∈ x.parts, wfEs L p.index := by
 cases x
 rw [wfP, wfPs_iff]
theorem w64_in (a b : Int) : w64 (a + w64 b) = w64 (a + b) := by
 unfold w64 IntKind.wrap
 simp only [IntKind.signed, IntKind.bits, Bool.true_and, decide_eq_true_eq, show ((2 : Int) ^ 64) = 18446744073709551616 from rfl, show ((2 : Int) ^ (64 - 1)) = 9223372036854775808 from rfl]
 repeat' split
 all_goals omega
structure RunM (H : AH) (id : Nat) (vars : List GVar) (L : List (List UInt8)) (s : RS) (lx px : AV) : Prop where
 row : At H id (.row (rmC vars s lx px))
 loc : LocV H id s.locs lx
 ok : s.ok
 len : s.locs.length ≤ 1000000
 nm : s.stop = false → s.locs.map (·.1) = L
 fl : s.stop = false → 0 ≤ s.fuel ∧ s.fuel + s.locs.length ≤ 1000000 ∧ s.fuel + s.pr.length ≤ 1000000
 pl : s.pr.length ≤ 1000000
theorem RunM.keep {H H' : AH} {id : Nat} {vars : List GVar} {L : List (List UInt8)} {s : RS} {lx px : AV} (h : RunM H id vars L s lx px) (k : KeepC id H H') (hr : At H' id (.row (rmC vars s lx px))) : RunM H' id vars L s lx px := ⟨hr, h.loc.keep k, h.ok, h.len, h.nm, h.fl, h.pl⟩
theorem RunM.next {H H' : AH} {id : Nat} {vars : List GVar} {L : List (List UInt8)} {s s' : RS} {lx px : AV} (h : RunM H id vars L s lx px) (k : KeepC id H H') (hr : At H' id (.row (rmC vars s' lx px))) (hk : Kp s s') (ho : s'.ok) : RunM H' id vars L s' lx px :=
 ⟨hr, by rw [hk.locs]; exact h.loc.keep k, ho, by rw [hk.locs]; exact h.len, fun e => by rw [hk.locs]; exact h.nm (hk.stop e), fun e => by
   have h1 := h.fl (hk.stop e)
   have h2 := hk.fu h1.1 (by omega) e
   rw [hk.locs, hk.pr]
   exact ⟨h2.1, by omega, by omega⟩, by rw [hk.pr]; exact h.pl⟩
def ExprR (C : Ctx) (id : Nat) (vars : List GVar) (L : List (List UInt8)) (e : GExpr) : Prop :=
 ∀ (a : Int) (s : RS) (lx px : AV) (H : AH) (Q : Post), RunM H id vars L s lx px → (∀ H', KeepC id H H' → RunM H' id vars L (exR vars e a s).1 lx px → Q (.int .u64 (exR vars e a s).2) H') → ACall C K.f109 [.ptr id 0, .agg e.cells, .int .i64 a] H Q
section
variable {C : Ctx} (hGT : GTok C) (hT : Cl (ACall C) S.tab_Chk) {id : Nat} {vars : List GVar} {L : List (List UInt8)}
include hGT hT
theorem values_ok {l : List GExpr} (hl : l.length ≤ 2) (hlo : ∀ e ∈ l, e.ok) (hE : ∀ e ∈ l, ExprR C id vars L e) {a : Int} {s : RS} {lx px : AV} {H : AH} {Q : Post} (h : RunM H id vars L s lx px)
  (hQ : ∀ H', KeepC id H H' → RunM H' id vars L (kidsR vars l a s).1 lx px → Q (.agg [.int .u64 ((kidsR vars l a s).2.getD 0 0), .int .u64 ((kidsR vars l a s).2.getD 1 0)]) H') : ACall C K.f136 [.ptr id 0, lstA GExpr.cells l, .int .i64 a] H Q := by
 refine S.cl_f136 hT ?_
 unfold S.f136
 simp only [abox, if_true, DoH_some]
 have hid := h.row.1
 have k1 := KeepC.push id H (.row [.int .u64 0, .int .u64 0])
 have r1 := At.new H (.row [.int .u64 0, .int .u64 0])
 have a1 := h.row.push (.row [.int .u64 0, .int .u64 0])
 have n1 : (H.push (.row [.int .u64 0, .int .u64 0])).n = H.n + 1 := rfl
 generalize H.push (.row [.int .u64 0, .int .u64 0]) = H1 at *
 have k2 := k1.pushL (.row [.int .u64 0, .int .u64 0])
 have r2 := r1.push (.row [.int .u64 0, .int .u64 0])
 have q2 := At.new H1 (.row [.int .u64 0, .int .u64 0])
 have a2 := a1.push (.row [.int .u64 0, .int .u64 0])
 generalize H1.push (.row [.int .u64 0, .int .u64 0]) = H2 at *
 have hne : H.n ≠ H1.n := by omega
 simp only [lstA_len', Do_of]
 have main : ∀ (r : List GExpr) (k : Nat) (pre : List Int) (a' : Int) (s' : RS) (o0 o1 : Int) (H5 : AH), l.drop k = r → pre.length = k → KeepC id H H5 → At H5 id (.row (rmC vars s' lx px)) → Kp s s' → s'.ok → At H5 H.n (.row [.int .u64 0, .int .u64 0]) → At H5 H1.n (.row [.int .u64 o0, .int .u64 o1]) →
   (kidsR vars r a' s').1 = (kidsR vars l a s).1 → (kidsR vars l a s).2 = pre ++ (kidsR vars r a' s').2 → o0 = pre.getD 0 0 → o1 = pre.getD 1 0 →
   LoopP (S.f136_l2 (ACall C) (.ptr id 0) (lstA GExpr.cells l) (.ptr H.n 0) (.ptr H1.n 0) (.int .i64 l.length) Q) ([.int .i64 a', .int .i64 k], H5) := by
  intro r
  induction r with
  | nil =>
   intro k pre a' s' o0 o1 H5 hd hpl k5 hr hk ho r5 q5 he hv z0 z1
   have hle := drop_nil_le hd
   refine LoopP.step ?_
   simp only [S.f136_l2, sl_zero, sl_succ, abin_lss, Do_of, Gd_true, JoinP_def, S.f136_k1]
   rw [if_neg (by simp only [decide_eq_true_eq]; omega)]
   rw [q5.load, show takeCells [AV.int .u64 o0, .int .u64 o1] 0 2 true = some (.agg [.int .u64 o0, .int .u64 o1]) from rfl]
   simp only [Do_of]
   rw [r5.store, if_pos ⟨rfl, rfl, rfl, (by decide : 0 + 2 ≤ 2)⟩]
   simp only [Do_of]
   rw [(r5.set _).load, show takeCells (setCells [AV.int .u64 0, .int .u64 0] 0 (AV.agg [.int .u64 o0, .int .u64 o1]).cells) 0 2 true = some (.agg [.int .u64 o0, .int .u64 o1]) from rfl]
   simp only [Do_of]
   have he' : s' = (kidsR vars l a s).1 := by rw [kidsR] at he; exact he
   rw [kidsR, List.append_nil] at hv
   have k6 : KeepC id H (H5.set H.n (.row (setCells [AV.int .u64 0, .int .u64 0] 0 (AV.agg [.int .u64 o0, .int .u64 o1]).cells))) := k5.setL (Nat.le_refl _) _
   have := hQ _ k6 (by
     rw [← he']
     exact h.next k6 (hr.set_ne (Nat.ne_of_lt hid) _) hk ho)
   rw [hv, ← z0, ← z1] at this
   exact this
  | cons e r ih =>
   intro k pre a' s' o0 o1 H5 hd hpl k5 hr hk ho r5 q5 he hv z0 z1
   obtain ⟨hlt, hx, hd'⟩ := drop_cons_lt hd
   have hmem := List.mem_of_getElem? hx
   refine LoopP.step ?_
   simp only [S.f136_l2, sl_zero, sl_succ, abin_lss, Do_of, Gd_true]
   rw [if_pos (by simp only [decide_eq_true_eq]; omega), lstA_addr hlt]
   simp only [Do_of]
   rw [elA_load GExpr.len (by decide) _ hx]
   simp only [Do_of, DoH_some, abox, if_true]
   rw [store_new _ _ _ 8 e.len e.scalar rfl]
   simp only [Do_of]
   rw [er_all (At.new H5 (.row e.cells))]
   simp only [Do_of]
   have k6 := k5.pushL (.row e.cells)
   have hr6 := hr.push (.row e.cells)
   have r6 := r5.push (.row e.cells)
   have q6 := q5.push (.row e.cells)
   generalize H5.push (.row e.cells) = H6 at *
   refine hE e hmem a' s' lx px H6 _ (h.next k6 hr6 hk ho) fun H7 k7 h7 => ?_
   have r7 := k7.2 _ _ (by omega) r6
   have q7 := k7.2 _ _ (by omega) q6
   have hkk : k = 0 ∨ k = 1 := by omega
   have hia : aiaddr (some 2) 1 (.ptr H1.n 0) (.int .i64 k) = some (.ptr H1.n k) := by
    rcases hkk with rfl | rfl <;> rfl
   obtain ⟨p0, p1, hst, hp0, hp1⟩ : ∃ p0 p1, astore H7 1 (.ptr H1.n k) (.int .u64 (exR vars e a' s').2) = some (H7.set H1.n (.row [.int .u64 p0, .int .u64 p1])) ∧ p0 = (pre ++ [(exR vars e a' s').2]).getD 0 0 ∧ p1 = (pre ++ [(exR vars e a' s').2]).getD 1 0 := by
    rcases hkk with rfl | rfl
    · have : pre = [] := List.length_eq_zero_iff.1 hpl
      subst this
      exact ⟨_, o1, by rw [q7.store, if_pos ⟨rfl, rfl, rfl, (by decide : 0 + 1 ≤ 2)⟩]; rfl, rfl, z1⟩
    · match pre, hpl with
      | [x], _ => exact ⟨o0, _, by rw [q7.store, if_pos ⟨rfl, rfl, rfl, (by decide : 1 + 1 ≤ 2)⟩]; rfl, z0, rfl⟩
   have hw : IntKind.wrap .i64 ((k : Int) + 1) = ((k + 1 : Nat) : Int) := by rw [wrap_i64 (by omega) (by omega)]; simp
   simp only [hia, Do_of, hst, abin_add, hw, lstA_one GExpr.len hx]
   have k8 := (k6.trans k7).setL (i := H1.n) (by omega) (.row [.int .u64 p0, .int .u64 p1])
   refine exprs_val hGT hT (l := [e]) (by simp) (fun e' he' => by rw [List.mem_singleton.1 he']; exact hlo e hmem) _ _ ?_
   simp only [abin_add, Do_of, hw]
   rw [kidsR] at he hv
   rw [show cntEs [e] 0 = cntE e 0 by rw [cntEs, cntEs]]
   refine ih (k + 1) (pre ++ [(exR vars e a' s').2]) _ _ p0 p1 _ hd' (by simp [hpl]) k8 (h7.row.set_ne (by omega) _) (hk.trans (exR_kp vars e a' s')) h7.ok (r7.set_ne hne _) (q7.set _) he ?_ hp0 hp1
   rw [hv]; simp
 exact main l 0 [] a s 0 0 H2 rfl rfl k2 a2 (Kp.refl s) h.ok r2 q2 rfl rfl rfl rfl
end
end Rb

namespace Rb
open Go
theorem last_addr {l : List Int} {v : Int} {tk : Tok} : aiaddr none 1 (.lst tk (l ++ [v]).length ((l ++ [v]).map (AV.int .u64))) (.int .i64 l.length) = some (.fptr [.int .u64 v]) := by
 show (if 0 ≤ (l.length : Int) ∧ (l.length : Int) < ((l ++ [v]).length : Nat) then some (AV.fptr (((l ++ [v]).map (AV.int .u64)).drop ((l.length : Int).toNat * 1))) else none) = _
 rw [if_pos ⟨by omega, by simp; omega⟩, Int.toNat_natCast, Nat.mul_one, List.map_append, List.drop_left' (by simp)]
 rfl
theorem cntM_eq (vars : List GVar) (x : GPlace) : (resTC (placeM vars x))[4]? = some (.int .i64 (cntM vars x)) := by
 unfold resTC cntM
 split
 · rw [GType.cells_eq]; rfl
 · rfl
theorem GPlace.ok_take {x : GPlace} (h : x.ok) (k : Nat) : (⟨x.var, x.parts.take k⟩ : GPlace).ok := by
 cases x with
 | mk var parts =>
  obtain ⟨h1, h2, h3⟩ := h
  exact ⟨h1, Nat.le_trans (List.length_take_le' _ _) h2, GPart.oks_iff.2 fun p hp => GPart.oks_iff.1 h3 p (List.mem_of_mem_take hp)⟩
section
variable {C : Ctx} (hGT : GTok C) (hT : Cl (ACall C) S.tab_Chk) {id : Nat} {vars : List GVar} {L : List (List UInt8)}
include hGT hT
theorem place_ok (hvl : vars.length ≤ 1000000) (hv : ∀ v ∈ vars, v.ok) {x : GPlace} (hx : x.ok) (hE : ∀ p ∈ x.parts, ∀ e ∈ p.index, ExprR C id vars L e) {a : Int} {s : RS} {lx px : AV} {H : AH} {Q : Post} (h : RunM H id vars L s lx px)
  (hQ : ∀ H', KeepC id H H' → RunM H' id vars L (plR vars x a s).1 lx px → Q (.tup [.agg ((plR vars x a s).2.getD spotZ).cells, .bool (plR vars x a s).2.isSome]) H') : ACall C K.f105 [.ptr id 0, .agg x.cells, .int .i64 a] H Q := by
 obtain ⟨hxl, hxp⟩ := GPlace.ok_parts hx
 rw [plR_eq] at hQ
 refine S.cl_f105 hT ?_
 unfold S.f105
 simp only [plc_box, DoH_some, abox, if_true, plc_addr, plc_l1, lstA_len', Do_of]
 have hid := h.row.1
 have k1 := KeepC.push id H (.row spotZ.cells)
 have r1 := At.new H (.row spotZ.cells)
 have a1 := h.row.push (.row spotZ.cells)
 change LoopP (S.f105_l3 (ACall C) (.ptr id 0) (.fptr x.cells) (.ptr H.n 0) (lstA GPart.cells x.parts) (.int .i64 x.parts.length) Q) ([.int .i64 a, .lst .nil 0 [], .int .i64 0], H.push (.row spotZ.cells))
 have z6 : abuild [.int .i64 0, .int .i64 0, .int .i64 0, .bool false, .int .i64 0, .int .i64 0] [] = some (.agg spotZ.cells) := rfl
 have ret : ∀ (s' : RS) (z : Option GSpot) (H5 : AH), KeepC id H H5 → At H5 id (.row (rmC vars s' lx px)) → Kp s s' → s'.ok → At H5 H.n (.row spotZ.cells) → (s', z) = ((ptsR vars x x.parts 0 a [] s).1, (ptsR vars x x.parts 0 a [] s).2.map fun idx => findM vars x idx) →
   Do (astore H5 6 (.ptr H.n 0) (.agg (z.getD spotZ).cells)) fun H6 => Do (aload H6 6 true (.ptr H.n 0)) fun y => Q (.tup [y, .bool z.isSome]) H6 := by
  intro s' z H5 k5 hr hk ho r5 he
  rw [← he] at hQ
  rw [r5.store, if_pos ⟨rfl, rfl, rfl, (by decide : 0 + 6 ≤ 6)⟩]
  simp only [Do_of]
  rw [(r5.set _).load, show takeCells (setCells spotZ.cells 0 (AV.agg (z.getD spotZ).cells).cells) 0 6 true = some (.agg (z.getD spotZ).cells) from rfl]
  simp only [Do_of]
  have k6 : KeepC id H (H5.set H.n (.row (setCells spotZ.cells 0 (AV.agg (z.getD spotZ).cells).cells))) := k5.setL (Nat.le_refl _) _
  exact hQ _ k6 (h.next k6 (hr.set_ne (Nat.ne_of_lt hid) _) hk ho)
 have main : ∀ (r : List GPart) (k : Nat) (a' : Int) (s' : RS) (ix : AV) (idx : List Int) (H5 : AH), x.parts.drop k = r → KeepC id H H5 → At H5 id (.row (rmC vars s' lx px)) → Kp s s' → s'.ok → At H5 H.n (.row spotZ.cells) → OwnT H.n H5 1 ix idx.length (idx.map (AV.int .u64)) → (idx = [] ∨ (s'.stop = false ∧ s'.fuel + idx.length ≤ s.fuel)) →
   ptsR vars x r k a' idx s' = ptsR vars x x.parts 0 a [] s →
   LoopP (S.f105_l3 (ACall C) (.ptr id 0) (.fptr x.cells) (.ptr H.n 0) (lstA GPart.cells x.parts) (.int .i64 x.parts.length) Q) ([.int .i64 a', ix, .int .i64 k], H5) := by
  intro r
  induction r with
  | nil =>
   intro k a' s' ix idx H5 hd k5 hr hk ho r5 hix hfi he
   have hle := drop_nil_le hd
   rw [ptsR] at he
   refine LoopP.step ?_
   simp only [S.f105_l3, sl_zero, sl_succ, abin_lss, Do_of, Gd_true, JoinP_def, S.f105_k2]
   rw [if_neg (by simp only [decide_eq_true_eq]; omega)]
   simp only [anilck, afaddr, Nat.zero_add, rm_vars hr, Do_of, plc_all]
   obtain ⟨tk, rfl, hic, -⟩ := hix
   refine Find_ok hGT hT hvl hv hx ⟨tk, rfl⟩ fun er H6 E6 => ?_
   simp only [aextract, List.getElem?_cons_zero, List.getElem?_cons_succ, Do_of, abox, if_true, DoH_some]
   change _ ∧ _ ∧ (Do (astore (H6.push (.row spotZ.cells)) 6 (.ptr H6.n 0) _) _)
   rw [store_new H6 spotZ.cells (findM vars x idx).cells 6 rfl rfl rfl]
   change aload (H6.push (.row spotZ.cells)) 1 false (.ptr id 0) = _ ∧ _ ∧ _
   have hr6 := hr.ext E6
   have r6 := r5.ext E6
   have k6 : KeepC id H H6 := k5.trans ⟨E6.1, fun i o _ ho => ho.ext E6⟩
   refine ⟨rm_vars (hr6.push _), trivial, ?_⟩
   have w7 := At.new H6 (.row (findM vars x idx).cells)
   simp only [Do_of]
   rw [w7.load, takeCells_whole (n := 6) rfl]
   simp only [Do_of]
   exact ret s' (some (findM vars x idx)) _ (k6.pushL _) (hr6.push _) hk ho (r6.push _) (by rw [← he]; rfl)
  | cons p r ih =>
   intro k a' s' ix idx H5 hd k5 hr hk ho r5 hix hfi he
   obtain ⟨hlt, hpx, hd'⟩ := drop_cons_lt hd
   have hmem := List.mem_of_getElem? hpx
   obtain ⟨hil, hio⟩ := hxp p hmem
   have hw : IntKind.wrap .i64 ((k : Int) + 1) = ((k + 1 : Nat) : Int) := by rw [wrap_i64 (by omega) (by omega)]; simp
   rw [ptsR, ptR_eq] at he
   refine LoopP.step ?_
   simp only [S.f105_l3, sl_zero, sl_succ, abin_lss, Do_of, Gd_true]
   rw [if_pos (by simp only [decide_eq_true_eq]; omega), lstA_addr hlt]
   simp only [Do_of]
   rw [elA_load GPart.len (by decide) _ hpx]
   simp only [Do_of, DoH_some, abox, if_true]
   rw [store_new _ _ _ 2 p.len p.scalar rfl]
   have q6 := At.new H5 (.row p.cells)
   have hr6 := hr.push (.row p.cells)
   have r6 := r5.push (.row p.cells)
   have k6 := k5.pushL (.row p.cells)
   have hix6 := hix.frame (H' := H5.push (.row p.cells)) (fun t _ _ h => h.push _)
   have n6 : H.n ≤ (H5.push (.row p.cells)).n := k6.1
   have hx6 : H.n < H5.n := r5.1
   simp only [Do_of, afaddr, Nat.zero_add]
   rw [pr_l1 q6]
   simp only [Do_of, lstA_len', abin_eql, Gd_true]
   generalize H5.push (.row p.cells) = H6 at *
   cases hp : p.index with
   | nil =>
    rw [hp] at he
    rw [if_pos (by simp)]
    simp only [JoinP_def, S.f105_k1, sl_zero, sl_succ, abin_add, Do_of, hw]
    exact ih (k + 1) a' s' ix idx H6 hd' k6 hr6 hk ho r6 hix6 hfi he
   | cons e t =>
    have hmem2 : e ∈ p.index := by rw [hp]; exact List.mem_cons_self ..
    rw [hp] at he
    dsimp only at he
    rw [if_neg (by simp; omega)]
    have hx0 : p.index[0]? = some e := by rw [hp]; rfl
    have had : aiaddr none 8 (lstA GExpr.cells (e :: t)) (.int .i64 0) = _ := lstA_addr (i := 0) (by simp)
    rw [had]
    simp only [Do_of]
    rw [elA_load GExpr.len (by decide) _ (show (e :: t)[0]? = some e from rfl)]
    simp only [Do_of]
    refine hE p hmem e hmem2 a' s' lx px H6 _ (h.next k6 hr6 hk ho) fun H7 k7 h7 => ?_
    have hk7 : Kp s (exR vars e a' s').1 := hk.trans (exR_kp vars e a' s')
    have hdec := exR_dec vars e a' s'
    have hidx : idx.length ≤ 1000000 := by
     rcases hfi with rfl | ⟨f1, f2⟩
     · simp
     · have f3 := h.fl (hk.stop f1)
       have f4 := hk.fu f3.1 (by omega) f1
       omega
    have hfi' : (exR vars e a' s').1.stop = false → (exR vars e a' s').1.fuel + ((idx ++ [(exR vars e a' s').2]).length : Nat) ≤ s.fuel := by
     intro f0
     have f1 : s'.stop = false := (exR_kp vars e a' s').stop f0
     have f3 := h.fl (hk.stop f1)
     have f4 := hk.fu f3.1 (by omega) f1
     have f5 := hdec f4.1 (by omega) f0
     rw [List.length_append, List.length_singleton]
     rcases hfi with rfl | ⟨f6, f7⟩
     · simp; omega
     · omega
    generalize exR vars e a' s' = g at *
    have hix7 := hix6.frame (H' := H7) (fun t _ _ h' => k7.2 _ _ (fun e' => by subst e'; have := h'.2.symm.trans hr6.2; cases this) h')
    have r7 := k7.2 _ _ (by omega) r6
    have q7 := k7.2 _ _ (by have := hr.1; omega) q6
    rw [show abslice H7 false 1 1 [.int .u64 0] [(0, 1, .int .u64 g.2)] = some (.lst .full 1 [.int .u64 g.2], H7) from rfl]
    simp only [DoH_some]
    refine hix7.app (by have := k7.1; omega) (m := 1) (news := [.int .u64 g.2]) rfl rfl rfl (by decide) (by omega) (by omega) fun ix8 H8 hix8 lf => ?_
    have r8 := lf.row r7
    have q8 := lf.row q7
    have hr8 := lf.row h7.row
    have k8 := (k6.trans k7).left lf
    rw [pr_l1 q8]
    simp only [Do_of]
    refine exprs_val hGT hT hil hio _ _ ?_
    simp only [abin_add, Do_of, anilck, afaddr, Nat.zero_add, rm_stop hr8, Gd_true]
    refine ite_both (fun hs => ?_) (fun hs => ?_)
    · rw [if_pos hs] at he
      rw [z6]
      simp only [Do_of]
      exact ret g.1 none _ k8 hr8 hk7 h7.ok r8 (by rw [← he]; rfl)
    · have hs' : g.1.stop = false := by simpa using hs
      rw [if_neg hs] at he
      simp only [rm_vars hr8, Do_of, plc_addr, plc_l0, plc_l1]
      rw [lstA_take GPart.len x.parts (Nat.le_of_lt hlt)]
      simp only [Do_of]
      have hab : abuild [.str [], .lst .nil 0 []] [(0, 1, .str x.var), (1, 1, lstA GPart.cells (x.parts.take k))] = some (.agg (⟨x.var, x.parts.take k⟩ : GPlace).cells) := by rw [GPlace.cells_eq]; rfl
      rw [hab]
      simp only [Do_of]
      refine place_val hGT hT vars ⟨x.var, x.parts.take k⟩ (by rw [i64max]; omega) hv (GPlace.ok_take hx k) _ _ ?_
      rw [resV_eq]
      simp only [aextract, List.getElem?_cons_zero, List.getElem?_cons_succ, Do_of, abox, if_true, DoH_some]
      rw [store_new H8 _ (resTC (placeM vars ⟨x.var, x.parts.take k⟩)) 6 (resTC_len _) (resTC_scalar _) rfl]
      refine ⟨rm_vars (hr8.push _), trivial, trivial, ?_⟩
      have w9 := At.new H8 (.row (resTC (placeM vars ⟨x.var, x.parts.take k⟩)))
      have r9 := r8.push (.row (resTC (placeM vars ⟨x.var, x.parts.take k⟩)))
      have hr9 := hr8.push (.row (resTC (placeM vars ⟨x.var, x.parts.take k⟩)))
      have k9 := k8.pushL (.row (resTC (placeM vars ⟨x.var, x.parts.take k⟩)))
      have hix9 : OwnT H.n (H8.push (.row (resTC (placeM vars ⟨x.var, x.parts.take k⟩)))) 1 ix8 (idx ++ [g.2]).length ((idx ++ [g.2]).map (AV.int .u64)) := by
       have := hix8.frame (H' := H8.push (.row (resTC (placeM vars ⟨x.var, x.parts.take k⟩)))) (fun t _ _ h => h.push _)
       simpa using this
      have l4 : aload (H8.push (.row (resTC (placeM vars ⟨x.var, x.parts.take k⟩)))) 1 false (.ptr H8.n 4) = some (.int .i64 (cntM vars ⟨x.var, x.parts.take k⟩)) := by
       rw [w9.load, ← cntM_eq]
       generalize placeM vars ⟨x.var, x.parts.take k⟩ = z
       have := resTC_len z
       match resTC z, this with
       | [_, _, _, _, _, _], _ => rfl
      generalize H8.push (.row (resTC (placeM vars ⟨x.var, x.parts.take k⟩))) = H9 at *
      obtain ⟨tk, rfl, hic, hit⟩ := hix9
      have hsub : IntKind.wrap .i64 (((idx ++ [g.2]).length : Nat) - 1 : Int) = (idx.length : Nat) := by
       rw [wrap_i64 (by simp) (by simp; omega)]; simp
      simp only [Do_of]
      rw [show alen false (.lst tk (idx ++ [g.2]).length ((idx ++ [g.2]).map (AV.int .u64))) = some (.int .i64 ((idx ++ [g.2]).length : Nat)) from rfl]
      simp only [Do_of, abin_sub, hsub, last_addr, l4, aconv_int]
      rw [show aload H9 1 false (.fptr [.int .u64 g.2]) = some (.int .u64 g.2) from rfl]
      simp only [Do_of, abin_geq, Gd_true]
      refine ite_both (fun hc => ?_) (fun hc => ?_)
      · rw [if_pos (by simpa using hc)] at he
        rw [rm_sfin hr9]
        simp only [Do_of]
        rw [rm_sstop (hr9.set _)]
        simp only [Do_of, z6]
        have hrr := (hr9.set (.row (rmC vars { g.1 with fin := 2 } lx px))).set (.row (rmC vars { g.1 with fin := 2, stop := true } lx px))
        exact ret { g.1 with fin := 2, stop := true } none _ (k9.trans ((KeepC.set id _ _).trans (KeepC.set id _ _))) hrr
         ⟨hk7.locs, hk7.pr, hk7.line, fun e' => (by have := hk7.stop hs'; rw [e'] at this; cases this), fun _ _ h' => by cases h'⟩ ⟨h7.ok.ans, h7.ok.locs⟩ ((r9.set_ne (by omega) _).set_ne (by omega) _) (by rw [← he]; rfl)
      · rw [if_neg (by simpa using hc)] at he
        simp only [JoinP_def, S.f105_k1, sl_zero, sl_succ, abin_add, Do_of, hw]
        refine ih (k + 1) _ g.1 _ (idx ++ [g.2]) H9 hd' k9 hr9 hk7 h7.ok r9 ⟨tk, rfl, hic, hit⟩ (.inr ⟨hs', hfi' hs'⟩) ?_
        rw [← he, cntR_eq, hp, Int.zero_add]
        rw [w64_in]
 exact main x.parts 0 a s _ [] _ rfl k1 a1 (Kp.refl s) h.ok r1 (OwnT.nil _ _ _) (.inl rfl) rfl
end
end Rb

namespace Rb
open Go
def accR (vars : List GVar) (e : GExpr) (a : Int) (s : RS) : RS × Int :=
 match (plR vars e.place a s).2 with
 | none => ((plR vars e.place a s).1, 0)
 | some sp => bitV sp ((kidsR vars e.kids (w64 (a + cntP e.place)) (plR vars e.place a s).1).1.ask (accW e.kind e.order sp (w64 (a + cntP e.place)) e.kids (kidsR vars e.kids (w64 (a + cntP e.place)) (plR vars e.place a s).1).2))
theorem want_load {H : AH} {i : Nat} {w : WantM} (h : At H i (.row w.cells)) : aload H 13 true (.ptr i 0) = some (.agg w.cells) := by rw [h.load, takeCells_whole (n := 13) rfl]
theorem spot_all {H : AH} {i : Nat} {w : GSpot} (h : At H i (.row w.cells)) : aload H 6 true (.ptr i 0) = some (.agg w.cells) := by rw [h.load, takeCells_whole (n := 6) rfl]
theorem spot_l1 {H : AH} {i : Nat} {w : GSpot} (h : At H i (.row w.cells)) : aload H 1 false (.ptr i 1) = some (.int .i64 w.len) := by rw [h.load]; rfl
theorem spot_l3 {H : AH} {i : Nat} {w : GSpot} (h : At H i (.row w.cells)) : aload H 1 false (.ptr i 3) = some (.bool w.bits) := by rw [h.load]; rfl
theorem spot_l4 {H : AH} {i : Nat} {w : GSpot} (h : At H i (.row w.cells)) : aload H 1 false (.ptr i 4) = some (.int .i64 w.bit) := by rw [h.load]; rfl
theorem spot_l5 {H : AH} {i : Nat} {w : GSpot} (h : At H i (.row w.cells)) : aload H 1 false (.ptr i 5) = some (.int .i64 w.width) := by rw [h.load]; rfl
section
variable {C : Ctx} (hGT : GTok C) (hT : Cl (ACall C) S.tab_Chk) {id : Nat} {vars : List GVar} {L : List (List UInt8)}
include hGT hT
theorem access_ok (hvl : vars.length ≤ 1000000) (hv : ∀ v ∈ vars, v.ok) {e : GExpr} (he : e.ok) (hk2 : e.kids.length ≤ 2) (hE : ∀ k ∈ e.kids, ExprR C id vars L k) (hP : ∀ p ∈ e.place.parts, ∀ k ∈ p.index, ExprR C id vars L k) {a : Int} {s : RS} {lx px : AV} {H : AH} {Q : Post} (h : RunM H id vars L s lx px)
  (hQ : ∀ H', KeepC id H H' → RunM H' id vars L (accR vars e a s).1 lx px → Q (.int .u64 (accR vars e a s).2) H') : ACall C K.f142 [.ptr id 0, .agg e.cells, .int .i64 a] H Q := by
 obtain ⟨⟨hkl, hkk⟩, hpl⟩ := GExpr.ok_parts he
 refine S.cl_f142 hT ?_
 unfold S.f142
 simp only [ex_box, DoH_some, ex_addr, ex_l5, Do_of]
 refine place_ok hGT hT hvl hv hpl hP h fun H6 k6 h6 => ?_
 unfold accR at hQ
 have kp1 := plR_kp vars e.place a s
 generalize plR vars e.place a s = pz at *
 obtain ⟨s1, z⟩ := pz
 dsimp only at hQ h6 kp1 ⊢
 simp only [aextract, List.getElem?_cons_zero, List.getElem?_cons_succ, Do_of, abox, if_true, DoH_some, aun_not, Gd_true]
 rw [store_new H6 _ (z.getD spotZ).cells 6 rfl rfl rfl]
 simp only [Do_of]
 have k7 := k6.trans (KeepC.push id H6 (.row (z.getD spotZ).cells))
 have h7 := h6.keep (KeepC.push id H6 (.row (z.getD spotZ).cells)) (h6.row.push _)
 have w7 := At.new H6 (.row (z.getD spotZ).cells)
 have n6 := h6.row.1
 generalize H6.push (.row (z.getD spotZ).cells) = H7 at *
 cases z with
 | none =>
  rw [if_pos (show (!(none : Option GSpot).isSome) = true from rfl)]
  exact hQ H7 k7 h7
 | some sp =>
  rw [if_neg (show ¬ (!(some sp).isSome) = true from fun h => by cases h)]
  dsimp only [Option.getD] at w7 ⊢
  dsimp only at hQ
  refine inner_val hGT hT hpl _ _ ?_
  simp only [abin_add, Do_of, spot_all w7, ex_l4, ex_l7]
  rw [show IntKind.wrap .i64 (a + cntP e.place) = w64 (a + cntP e.place) from rfl]
  generalize w64 (a + cntP e.place) = a1 at *
  refine values_ok hGT hT hk2 hkk hE h7 fun H8 k8 h8 => ?_
  have w8 := k8.2 _ _ (by omega) w7
  have k8' := k7.trans k8
  simp only [spot_all w8, true_and]
  refine exprs_val hGT hT hkl hkk _ _ ?_
  have kp2 := kp1.trans (kidsR_kp vars e.kids a1 s1)
  generalize kidsR vars e.kids a1 s1 = kz at *
  obtain ⟨s2, vs⟩ := kz
  dsimp only at hQ h8 kp2 ⊢
  simp only [spot_all w8, true_and, abin_add, Do_of]
  have hbw : abuild [.int .i64 0, .int .i64 0, .int .i64 0, .int .i64 0, .int .i64 0, .int .i64 0, .bool false, .int .i64 0, .int .i64 0, .int .i64 0, .int .i64 0, .int .u64 0, .int .u64 0] [(0, 1, (.int .i64 1)), (3, 6, .agg sp.cells), (9, 1, .int .i64 e.order), (11, 2, .agg [.int .u64 (vs.getD 0 0), .int .u64 (vs.getD 1 0)]), (1, 1, .int .i64 (IntKind.wrap .i64 (IntKind.wrap .i64 (a1 + cntEs e.kids 0) + 1)))] = some (.agg (WantM.cells ⟨1, w64 (w64 (a1 + cntEs e.kids 0) + 1), 0, sp, e.order, 0, vs.getD 0 0, vs.getD 1 0⟩)) := rfl
  rw [hbw]
  simp only [Do_of, abox, if_true, DoH_some]
  rw [store_new H8 _ (WantM.cells ⟨1, w64 (w64 (a1 + cntEs e.kids 0) + 1), 0, sp, e.order, 0, vs.getD 0 0, vs.getD 1 0⟩) 13 rfl rfl rfl]
  refine ⟨spot_all (w8.push _), ?_⟩
  have k9 := KeepC.push id H8 (.row (WantM.cells ⟨1, w64 (w64 (a1 + cntEs e.kids 0) + 1), 0, sp, e.order, 0, vs.getD 0 0, vs.getD 1 0⟩))
  have w9 := w8.push (.row (WantM.cells ⟨1, w64 (w64 (a1 + cntEs e.kids 0) + 1), 0, sp, e.order, 0, vs.getD 0 0, vs.getD 1 0⟩))
  have x9 := At.new H8 (.row (WantM.cells ⟨1, w64 (w64 (a1 + cntEs e.kids 0) + 1), 0, sp, e.order, 0, vs.getD 0 0, vs.getD 1 0⟩))
  have h9 := h8.keep k9 (h8.row.push _)
  have n8 := h8.row.1
  have n8w := w8.1
  simp only [Do_of]
  generalize H8.push (.row (WantM.cells ⟨1, w64 (w64 (a1 + cntEs e.kids 0) + 1), 0, sp, e.order, 0, vs.getD 0 0, vs.getD 1 0⟩)) = H9 at *
  have fin : ∀ H10, KeepC id H H10 → RunM H10 id vars L s2 lx px → At H10 H6.n (.row sp.cells) → At H10 H8.n (.row (accW e.kind e.order sp a1 e.kids vs).cells) → S.f142_k1 (ACall C) (.ptr id 0) (.ptr H6.n 0) (.ptr H8.n 0) Q [] H10 := by
   intro H10 k10 h10 w10 x10
   unfold S.f142_k1
   rw [want_load x10]
   simp only [Do_of]
   refine ask_ok hGT hT h10.row _ fun H11 k11 a11 => ?_
   have w11 := k11.2 _ _ (by omega) w10
   have oa := h10.ok.ask (accW e.kind e.order sp a1 e.kids vs)
   have h11 := h10.next k11 a11 (Kp.ask _ _) oa.1
   have k12 := k10.trans k11
   rw [show aidx 2 1 false (.agg [.int .u64 (s2.ask (accW e.kind e.order sp a1 e.kids vs)).2.1, .int .u64 (s2.ask (accW e.kind e.order sp a1 e.kids vs)).2.2]) (.int .i64 0) = some (.int .u64 (s2.ask (accW e.kind e.order sp a1 e.kids vs)).2.1) from rfl]
   simp only [Do_of, afaddr, Nat.zero_add, spot_l3 w11, spot_l4 w11, spot_l5 w11, Gd_true]
   unfold bitV at hQ
   have hq := hQ H11 k12 h11
   refine ite_both (fun hb => ?_) (fun hb => ?_)
   · rw [if_pos hb] at hq
     exact oget_val hGT hT _ _ _ _ _ hq
   · rw [if_neg hb] at hq
     exact hq
  have hc0 : aload H9 1 false (.fptr (e.cells.drop 0)) = some (.int .i64 e.kind) := ex_l0 e H9
  simp only [ex_l0, Do_of, abin_geq, Gd_true, afaddr, Nat.zero_add, JoinP_def]
  refine ite_both (fun hc => ?_) (fun hc => ?_)
  · have hc' : e.kind ≥ 6 := by simpa using hc
    rw [x9.store, if_pos ⟨rfl, rfl, rfl, (by decide : 0 + 1 ≤ 13)⟩]
    simp only [Do_of]
    refine ⟨trivial, ?_⟩
    rw [(x9.set _).store, if_pos ⟨rfl, rfl, rfl, (by decide : 10 + 1 ≤ 13)⟩]
    simp only [Do_of]
    have k10 := ((k8'.trans k9).setL (i := H8.n) (by have := k8'.1; omega) (.row (setCells (WantM.cells ⟨1, w64 (w64 (a1 + cntEs e.kids 0) + 1), 0, sp, e.order, 0, vs.getD 0 0, vs.getD 1 0⟩) 0 (AV.int .i64 3).cells))).setL (i := H8.n) (by have := k8'.1; omega) (.row (setCells (setCells (WantM.cells ⟨1, w64 (w64 (a1 + cntEs e.kids 0) + 1), 0, sp, e.order, 0, vs.getD 0 0, vs.getD 1 0⟩) 0 (AV.int .i64 3).cells) 10 (AV.int .i64 e.kind).cells))
    refine fin _ k10 ?_ ((w9.set_ne (by omega) _).set_ne (by omega) _) ?_
    · exact h.next k10 ((h9.row.set_ne (by omega) _).set_ne (by omega) _) kp2 h9.ok
    · have := (x9.set (.row (setCells (WantM.cells ⟨1, w64 (w64 (a1 + cntEs e.kids 0) + 1), 0, sp, e.order, 0, vs.getD 0 0, vs.getD 1 0⟩) 0 (AV.int .i64 3).cells))).set (.row (setCells (setCells (WantM.cells ⟨1, w64 (w64 (a1 + cntEs e.kids 0) + 1), 0, sp, e.order, 0, vs.getD 0 0, vs.getD 1 0⟩) 0 (AV.int .i64 3).cells) 10 (AV.int .i64 e.kind).cells))
      have e1 : accW e.kind e.order sp a1 e.kids vs = ⟨3, w64 (w64 (a1 + cntEs e.kids 0) + 1), 0, sp, e.order, e.kind, vs.getD 0 0, vs.getD 1 0⟩ := by unfold accW; rw [if_pos hc', if_pos hc']
      rw [e1]
      exact this
  · have hc' : ¬ e.kind ≥ 6 := by simpa using hc
    refine fin _ (k8'.trans k9) h9 w9 ?_
    have e1 : accW e.kind e.order sp a1 e.kids vs = ⟨1, w64 (w64 (a1 + cntEs e.kids 0) + 1), 0, sp, e.order, 0, vs.getD 0 0, vs.getD 1 0⟩ := by unfold accW; rw [if_neg hc', if_neg hc']
    rw [e1]
    exact x9
end
end Rb

namespace Rb
open Go
section
variable {C : Ctx} (hGT : GTok C) (hT : Cl (ACall C) S.tab_Chk) {id : Nat} {vars : List GVar} {L : List (List UInt8)}
include hGT hT
theorem write_ok (hvl : vars.length ≤ 1000000) (hv : ∀ v ∈ vars, v.ok) {e : GStmt} (he : e.ok) (hk2 : e.exprs.length ≤ 2) (hE : ∀ k ∈ e.exprs, ExprR C id vars L k) (hP : ∀ p ∈ e.place.parts, ∀ k ∈ p.index, ExprR C id vars L k) {a : Int} {s : RS} {lx px : AV} {H : AH} {Q : Post} (h : RunM H id vars L s lx px)
  (hQ : ∀ H', KeepC id H H' → RunM H' id vars L (wrR vars e.place e.exprs e.order a s) lx px → Q (.tup []) H') : ACall C K.f104 [.ptr id 0, .agg e.cells, .int .i64 a] H Q := by
 obtain ⟨hpl, ⟨hkl, hkk⟩, _, _⟩ := GStmt.ok_parts he
 refine S.cl_f104 hT ?_
 unfold S.f104
 simp only [st_box, DoH_some, st_addr, st_l5, Do_of]
 refine place_ok hGT hT hvl hv hpl hP h fun H6 k6 h6 => ?_
 unfold wrR at hQ
 have kp1 := plR_kp vars e.place a s
 generalize plR vars e.place a s = pz at *
 obtain ⟨s1, z⟩ := pz
 dsimp only at hQ h6 kp1 ⊢
 simp only [aextract, List.getElem?_cons_zero, List.getElem?_cons_succ, Do_of, abox, if_true, DoH_some, aun_not, Gd_true]
 rw [store_new H6 _ (z.getD spotZ).cells 6 rfl rfl rfl]
 simp only [Do_of]
 have k7 := k6.trans (KeepC.push id H6 (.row (z.getD spotZ).cells))
 have h7 := h6.keep (KeepC.push id H6 (.row (z.getD spotZ).cells)) (h6.row.push _)
 have w7 := At.new H6 (.row (z.getD spotZ).cells)
 have n6 := h6.row.1
 generalize H6.push (.row (z.getD spotZ).cells) = H7 at *
 cases z with
 | none =>
  rw [if_pos (show (!(none : Option GSpot).isSome) = true from rfl)]
  exact hQ H7 k7 h7
 | some sp =>
  rw [if_neg (show ¬ (!(some sp).isSome) = true from fun h => by cases h)]
  dsimp only [Option.getD] at w7 ⊢
  dsimp only at hQ
  refine inner_val hGT hT hpl _ _ ?_
  simp only [abin_add, Do_of, spot_all w7, st_l4, st_l7]
  rw [show IntKind.wrap .i64 (a + cntP e.place) = w64 (a + cntP e.place) from rfl]
  generalize w64 (a + cntP e.place) = a1 at *
  refine values_ok hGT hT hk2 hkk hE h7 fun H8 k8 h8 => ?_
  have w8 := k8.2 _ _ (by omega) w7
  have k8' := k7.trans k8
  simp only [spot_all w8, true_and]
  refine exprs_val hGT hT hkl hkk _ _ ?_
  unfold wrT at hQ
  have kp2 := kp1.trans (kidsR_kp vars e.exprs a1 s1)
  generalize kidsR vars e.exprs a1 s1 = kz at *
  obtain ⟨s2, vs⟩ := kz
  dsimp only at hQ h8 kp2 ⊢
  simp only [spot_all w8, true_and, abin_add, Do_of]
  rw [show IntKind.wrap .i64 (IntKind.wrap .i64 (a1 + cntEs e.exprs 0) + 1) = w64 (w64 (a1 + cntEs e.exprs 0) + 1) from rfl]
  generalize w64 (w64 (a1 + cntEs e.exprs 0) + 1) = site at *
  have hbw : abuild [.int .i64 0, .int .i64 0, .int .i64 0, .int .i64 0, .int .i64 0, .int .i64 0, .bool false, .int .i64 0, .int .i64 0, .int .i64 0, .int .i64 0, .int .u64 0, .int .u64 0] [(0, 1, (.int .i64 2)), (3, 6, .agg sp.cells), (9, 1, .int .i64 e.order), (11, 2, .agg [.int .u64 (vs.getD 0 0), .int .u64 (vs.getD 1 0)]), (1, 1, .int .i64 site)] = some (.agg (WantM.cells ⟨2, site, 0, sp, e.order, 0, vs.getD 0 0, vs.getD 1 0⟩)) := rfl
  rw [hbw]
  simp only [Do_of, abox, if_true, DoH_some]
  rw [store_new H8 _ (WantM.cells ⟨2, site, 0, sp, e.order, 0, vs.getD 0 0, vs.getD 1 0⟩) 13 rfl rfl rfl]
  refine ⟨spot_all (w8.push _), ?_⟩
  have k9 := KeepC.push id H8 (.row (WantM.cells ⟨2, site, 0, sp, e.order, 0, vs.getD 0 0, vs.getD 1 0⟩))
  have w9 := w8.push (.row (WantM.cells ⟨2, site, 0, sp, e.order, 0, vs.getD 0 0, vs.getD 1 0⟩))
  have x9 := At.new H8 (.row (WantM.cells ⟨2, site, 0, sp, e.order, 0, vs.getD 0 0, vs.getD 1 0⟩))
  have h9 := h8.keep k9 (h8.row.push _)
  have n8 := h8.row.1
  have n8w := w8.1
  simp only [Do_of]
  generalize H8.push (.row (WantM.cells ⟨2, site, 0, sp, e.order, 0, vs.getD 0 0, vs.getD 1 0⟩)) = H9 at *
  have hk8 := k8'.1
  have ia : ∀ m : Nat, aiaddr (some 2) 1 (.ptr m 11) (.int .i64 0) = some (.ptr m 11) := fun m => rfl
  have fin : ∀ H10 (s3 : RS) (d : Int), KeepC id H H10 → At H10 id (.row (rmC vars s3 lx px)) → Kp s s3 → s3.ok → At H10 H6.n (.row sp.cells) → At H10 H8.n (.row (WantM.cells ⟨2, site, 0, sp, e.order, 0, d, vs.getD 1 0⟩)) → (∀ H', KeepC id H H' → RunM H' id vars L (s3.ask ⟨2, site, 0, sp, e.order, 0, oand d (omask (w64 (8 * sp.len))), vs.getD 1 0⟩).1 lx px → Q (.tup []) H') → S.f104_k1 (ACall C) (.ptr id 0) (.ptr H6.n 0) (.ptr H8.n 0) Q [] H10 := by
   intro H10 s3 d k10 r10 kp3 ok3 w10 x10 hq
   have ld : aload H10 1 false (.ptr H8.n 11) = some (.int .u64 d) := by rw [x10.load]; rfl
   unfold S.f104_k1
   simp only [afaddr, Nat.zero_add, Do_of, ia, ld, spot_l1 w10, abin_mul]
   refine omask_val hGT hT _ _ _ ?_
   simp only [ld, true_and, abin_and, Do_of, ia]
   rw [x10.store, if_pos ⟨rfl, rfl, rfl, (by decide : 11 + 1 ≤ 13)⟩]
   simp only [Do_of]
   have x11 : At (H10.set H8.n (.row (WantM.cells ⟨2, site, 0, sp, e.order, 0, oand d (omask (w64 (8 * sp.len))), vs.getD 1 0⟩))) H8.n (.row (WantM.cells ⟨2, site, 0, sp, e.order, 0, oand d (omask (w64 (8 * sp.len))), vs.getD 1 0⟩)) := x10.set _
   change Do (aload (H10.set H8.n (.row (WantM.cells ⟨2, site, 0, sp, e.order, 0, oand d (omask (w64 (8 * sp.len))), vs.getD 1 0⟩))) 13 true (.ptr H8.n 0)) _
   have k11 := k10.setL (i := H8.n) (by omega) (.row (WantM.cells ⟨2, site, 0, sp, e.order, 0, oand d (omask (w64 (8 * sp.len))), vs.getD 1 0⟩))
   have r11 := r10.set_ne (i := H8.n) (by omega) (.row (WantM.cells ⟨2, site, 0, sp, e.order, 0, oand d (omask (w64 (8 * sp.len))), vs.getD 1 0⟩))
   rw [want_load x11]
   simp only [Do_of]
   have h11 := h.next k11 r11 kp3 ok3
   refine ask_ok hGT hT r11 _ fun H12 k12 a12 => ?_
   exact hq H12 (k11.trans k12) (h11.next k12 a12 (Kp.ask _ _) (ok3.ask _).1)
  simp only [afaddr, Nat.zero_add, spot_l3 w9, Do_of, Gd_true, JoinP_def]
  unfold wrO wrD at hQ
  refine ite_both (fun hb => ?_) (fun hb => ?_)
  · rw [if_pos hb, if_pos hb] at hQ
    have lsite : aload H9 1 false (.ptr H8.n 1) = some (.int .i64 site) := by rw [x9.load]; rfl
    simp only [spot_all w9, Do_of, lsite]
    have hbw2 : abuild [.int .i64 0, .int .i64 0, .int .i64 0, .int .i64 0, .int .i64 0, .int .i64 0, .bool false, .int .i64 0, .int .i64 0, .int .i64 0, .int .i64 0, .int .u64 0, .int .u64 0] [(0, 1, (.int .i64 1)), (3, 6, .agg sp.cells), (1, 1, .int .i64 site)] = some (.agg (WantM.cells ⟨1, site, 0, sp, 0, 0, 0, 0⟩)) := rfl
    rw [hbw2]
    simp only [Do_of]
    refine ask_ok hGT hT h9.row _ fun H10 k10 a10 => ?_
    have oa := h9.ok.ask ⟨1, site, 0, sp, 0, 0, 0, 0⟩
    have w10 := k10.2 _ _ (by omega) w9
    have x10 := k10.2 _ _ (by omega) x9
    have kp3 := kp2.trans (Kp.ask s2 ⟨1, site, 0, sp, 0, 0, 0, 0⟩)
    have k10' := (k8'.trans k9).trans k10
    generalize s2.ask ⟨1, site, 0, sp, 0, 0, 0, 0⟩ = g at *
    rw [store_new H10 _ [.int .u64 g.2.1, .int .u64 g.2.2] 2 rfl rfl rfl]
    simp only [Do_of]
    have y11 := At.new H10 (.row [.int .u64 g.2.1, .int .u64 g.2.2])
    rw [show aiaddr (some 2) 1 (.ptr H10.n 0) (.int .i64 0) = some (.ptr H10.n 0) from rfl]
    simp only [Do_of]
    rw [show aload (H10.push (.row [.int .u64 g.2.1, .int .u64 g.2.2])) 1 false (.ptr H10.n 0) = some (.int .u64 g.2.1) by rw [y11.load]; rfl]
    have w11 := w10.push (.row [.int .u64 g.2.1, .int .u64 g.2.2])
    have x11 := x10.push (.row [.int .u64 g.2.1, .int .u64 g.2.2])
    have a11 := a10.push (.row [.int .u64 g.2.1, .int .u64 g.2.2])
    have k11 := k10'.pushL (.row [.int .u64 g.2.1, .int .u64 g.2.2])
    generalize H10.push (.row [.int .u64 g.2.1, .int .u64 g.2.2]) = H11 at *
    have ld : aload H11 1 false (.ptr H8.n 11) = some (.int .u64 (vs.getD 0 0)) := by rw [x11.load]; rfl
    simp only [Do_of, spot_l4 w11, spot_l5 w11, ia, ld]
    refine oput_val hGT hT _ _ _ _ _ _ ?_
    rw [x11.store, if_pos ⟨rfl, rfl, rfl, (by decide : 11 + 1 ≤ 13)⟩]
    simp only [Do_of]
    exact fin _ g.1 (oput g.2.1 sp.bit sp.width (vs.getD 0 0)) (k11.setL (by omega) _) (a11.set_ne (by omega) _) kp3 oa.1 (w11.set_ne (by omega) _) (x11.set _) hQ
  · rw [if_neg hb, if_neg hb] at hQ
    exact fin _ s2 (vs.getD 0 0) (k8'.trans k9) h9.row kp2 h9.ok w9 x9 hQ
end
end Rb

namespace Rb
open Go
section
variable {C : Ctx} (hGT : GTok C) (hT : Cl (ACall C) S.tab_Chk) {id : Nat} {vars : List GVar} {L : List (List UInt8)}
include hGT hT
theorem expr_ok (hvl : vars.length ≤ 1000000) (hv : ∀ v ∈ vars, v.ok) : ∀ e : GExpr, e.ok → wfE L e → ExprR C id vars L e := by
 refine GExpr.ind fun e ihk ihp he hwf => ?_
 obtain ⟨⟨hkl, hkk⟩, hpl⟩ := GExpr.ok_parts he
 have hpp := GPlace.ok_parts hpl
 obtain ⟨w1, w2, w3, w4, w5⟩ := (wfE_eq L e).1 hwf
 have hK : ∀ k ∈ e.kids, ExprR C id vars L k := fun k hk => ihk k hk (hkk k hk) (wfEs_iff L |>.1 w5 k hk)
 intro a s lx px H Q h hQ
 refine S.cl_f109 hT ?_
 unfold S.f109
 simp only [ex_box, DoH_some]
 refine burn_ok hGT hT h.row fun H1 k1 r1 => ?_
 have h1 := h.next k1 r1 (Kp.burn s) h.ok.burn
 rw [exR_eq] at hQ
 generalize hsb : s.burn = sb at *
 simp only [anilck, afaddr, Nat.zero_add, rm_stop r1, Do_of, Gd_true, ex_l0, abin_eql]
 change if sb.stop = true then _ else _
 refine ite_both (fun hs => ?_) (fun hs => ?_)
 · rw [if_pos hs] at hQ
   exact hQ H1 k1 h1
 have hs' : sb.stop = false := by simpa using hs
 rw [if_neg hs] at hQ
 simp only [afaddr, Do_of, ex_l0, abin_eql, Gd_true, ex_l1, ex_l2]
 refine ite_both (fun hc => ?_) (fun hc => ?_)
 · rw [if_pos (by simpa using hc)] at hQ
   exact hQ H1 k1 h1
 have c1 : ¬ e.kind = 1 := by simpa using hc
 rw [if_neg c1] at hQ
 refine ite_both (fun hc => ?_) (fun hc => ?_)
 · have c2 : e.kind = 2 := by simpa using hc
   rw [if_pos c2] at hQ
   obtain ⟨i, hi⟩ := has_idx (L := sb.locs) (name := e.name) (by rw [h1.nm hs']; exact w1 c2)
   obtain ⟨l, hl1, hl2, hl3, hl4⟩ := get_of hi
   refine find_ok hGT hT r1 h1.loc h1.len hi fun j cs m hlx hj hat hcl hlm htk => ?_
   simp only [anilck, Do_of]
   rw [hat.load, show takeCells cs (i * 2 + 1) 1 false = some (.int .u64 l.2) from by
     have := (locs_at htk hl1).2
     have hlt := (List.getElem?_eq_some_iff.1 this).1
     unfold takeCells
     rw [if_pos (by omega)]
     simpa using this]
   simp only [Do_of]
   rw [hl3] at hQ
   exact hQ H1 k1 h1
 have c2 : ¬ e.kind = 2 := by simpa using hc
 rw [if_neg c2] at hQ
 refine ite_both (fun hc => ?_) (fun hc => ?_)
 · have c3 : e.kind = 3 := by simpa using hc
   rw [if_pos c3] at hQ
   match hkd : e.kids, w2 c3 with
   | [x, y], _ =>
    rw [hkd] at hQ hK hkk
    have hx := hkk x (by simp)
    have hy := hkk y (by simp)
    have ad0 : aiaddr none 8 (lstA GExpr.cells [x, y]) (.int .i64 0) = _ := lstA_addr (i := 0) (by simp)
    have ad1 : aiaddr none 8 (lstA GExpr.cells [x, y]) (.int .i64 1) = _ := lstA_addr (i := 1) (by simp)
    have ld0 : ∀ H, aload H 8 true (elA GExpr.cells 8 [x, y] 0) = _ := fun H => elA_load GExpr.len (by decide) H (show [x, y][0]? = some x from rfl)
    have ld1 : ∀ H, aload H 8 true (elA GExpr.cells 8 [x, y] 1) = _ := fun H => elA_load GExpr.len (by decide) H (show [x, y][1]? = some y from rfl)
    have sl1 : aslice 8 (lstA GExpr.cells [x, y]) none (some (.int .i64 1)) none = some (lstA GExpr.cells [x]) := lstA_take GExpr.len [x, y] (k := 1) (by simp)
    have hsuf : ∀ H, aload H 1 false (.fptr (e.cells.drop 7)) = some (lstA GExpr.cells [x, y]) := fun H => by rw [ex_l7, hkd]
    simp only [ex_addr, hsuf, Do_of, ad0, ld0]
    refine hK x (by simp) a sb lx px H1 _ h1 fun H2 k2 h2 => ?_
    simp only [hsuf, Do_of, ad1, ld1, sl1]
    refine exprs_val hGT hT (l := [x]) (by simp) (fun k hk => by rw [List.mem_singleton.1 hk]; exact hx) _ _ ?_
    simp only [hsuf, ld1, true_and, abin_add, Do_of]
    rw [show cntEs [x] 0 = cntE x 0 by rw [cntEs, cntEs]]
    refine hK y (by simp) _ _ lx px H2 _ h2 fun H3 k3 h3 => ?_
    simp only [ex_addr, ex_l3, Do_of]
    have hyo := (exR_okM vars y hy (w64 (a + cntE x 0)) (exR vars x a sb).1 h2.ok).2
    refine operate_val hGT hT _ _ hyo _ _ ?_
    refine hQ H3 ((k1.trans k2).trans k3) ?_
    show RunM H3 id vars L (kidsR vars [x, y] a sb).1 lx px
    rw [kidsR, kidsR, kidsR]
    exact h3
 have c3 : ¬ e.kind = 3 := by simpa using hc
 rw [if_neg c3] at hQ
 simp only [ex_all, Do_of]
 have hP : ∀ p ∈ e.place.parts, ∀ k ∈ p.index, ExprR C id vars L k := fun p hp k hk => ihp p hp k hk ((hpp.2 p hp).2 k hk) (wfEs_iff L |>.1 ((wfP_eq L e.place).1 (w4 ⟨c1, c2, c3⟩) p hp) k hk)
 refine access_ok hGT hT hvl hv he w3 hK hP h1 fun H2 k2 h2 => ?_
 exact hQ H2 (k1.trans k2) h2
end
end Rb

namespace Rb
open Go
theorem put_len (s : RS) (x : List UInt8) (v : Int) : (s.put x v).locs.length = s.locs.length := by
 unfold RS.put
 split
 · exact List.length_set
 · rfl
section
variable (vars : List GVar)
theorem ldR_lo (name name2 : List UInt8) (place : GPlace) (order a : Int) (s : RS) : s.locs.length ≤ (ldR vars name name2 place order a s).locs.length := by
 unfold ldR
 have hp := plR_kp vars place a s
 split
 · rw [hp.locs]; exact Nat.le_refl _
 · rename_i sp hsp
   have hk := hp.trans (Kp.ask (plR vars place a s).1 ⟨1, w64 (w64 (a + cntP place) + 1), 0, sp, order, 0, 0, 0⟩)
   unfold ldU
   split
   · rw [hk.locs]; exact Nat.le_refl _
   · rw [put_len, put_len, hk.locs]; exact Nat.le_refl _
theorem whR_lo {cond : RS → RS × Int} {body : RS → RS} (hc : ∀ s, (cond s).1.locs = s.locs) (hb : ∀ s, s.locs.length ≤ (body s).locs.length) : ∀ (c : Nat) (s : RS), s.locs.length ≤ (whR cond body c s).locs.length
 | 0, s => Nat.le_refl _
 | c + 1, s => by
  unfold whR
  split
  · have := whR_lo hc hb c (body (cond s).1)
    have h2 := hb (cond s).1
    rw [hc] at h2
    omega
  · rw [hc]; exact Nat.le_refl _
variable (c : Nat)
mutual
theorem stR_lo : ∀ (x : GStmt) (a : Int) (s : RS), s.locs.length ≤ (stR vars c x a s).locs.length
 | .mk kind line name name2 order place exprs thn els, a, s => by
  rw [stR]
  have hf := firstR_kp vars exprs a s
  split
  · rw [(wrR_kp vars place exprs order a s).locs]; exact Nat.le_refl _
  · split
    · exact ldR_lo vars name name2 place order a s
    · split
      · rw [(Kp.ask _ _).locs]; exact Nat.le_refl _
      · split
        · refine whR_lo (fun s => (firstR_kp vars exprs a s).locs) (fun s1 => ?_) c s
          have := blR_lo thn (w64 (a + cntEs exprs 0)) s1.locs.length s1 (Nat.le_refl _)
          exact this
        · split
          · rw [hf.locs]; exact Nat.le_refl _
          · split
            · show _ ≤ (List.length (_ ++ _))
              rw [List.length_append, hf.locs]; omega
            · split
              · rw [put_len, hf.locs]; exact Nat.le_refl _
              · split
                · show _ ≤ (firstR vars exprs a s).1.locs.length
                  rw [hf.locs]; exact Nat.le_refl _
                · split
                  · have := blR_lo thn (w64 (a + cntEs exprs 0)) (firstR vars exprs a s).1.locs.length (firstR vars exprs a s).1 (Nat.le_refl _)
                    rw [hf.locs] at this ⊢
                    exact this
                  · have := blR_lo els (w64 (w64 (a + cntEs exprs 0) + cntSs thn 0)) (firstR vars exprs a s).1.locs.length (firstR vars exprs a s).1 (Nat.le_refl _)
                    rw [hf.locs] at this ⊢
                    exact this
theorem blR_lo : ∀ (l : List GStmt) (a : Int) (n : Nat) (s : RS), n ≤ s.locs.length → n ≤ (blR vars c l a n s).locs.length
 | [], a, n, s, h => by
  rw [blR]
  show n ≤ (s.locs.take n).length
  rw [List.length_take]; omega
 | x :: r, a, n, s, h => by
  rw [blR]
  split
  · exact h
  · refine blR_lo r _ n _ ?_
    have := stR_lo x a ({ s with line := x.line } : RS).burn
    rw [(Kp.burn _).locs] at this
    exact Nat.le_trans h this
end
end
def scp (L : List (List UInt8)) (x : GStmt) : List (List UInt8) := if x.kind = 1 then L ++ [x.name] else L
mutual
def wfS (L : List (List UInt8)) : GStmt → Prop
 | .mk kind line name name2 order place exprs thn els => (kind = 2 → name ∈ L) ∧ (kind = 5 → name ∈ L ∧ name2 ∈ L) ∧ (3 ≤ kind ∧ kind ≤ 6 → wfP L place) ∧ exprs.length ≤ 2 ∧ (¬ (3 ≤ kind ∧ kind ≤ 7) → 1 ≤ exprs.length) ∧ wfEs L exprs ∧ wfB L thn ∧ wfB L els
def wfB (L : List (List UInt8)) : List GStmt → Prop
 | [] => True
 | x :: r => wfS L x ∧ wfB (scp L x) r
end
theorem wfS_eq (L : List (List UInt8)) (x : GStmt) : wfS L x ↔ (x.kind = 2 → x.name ∈ L) ∧ (x.kind = 5 → x.name ∈ L ∧ x.name2 ∈ L) ∧ (3 ≤ x.kind ∧ x.kind ≤ 6 → wfP L x.place) ∧ x.exprs.length ≤ 2 ∧ (¬ (3 ≤ x.kind ∧ x.kind ≤ 7) → 1 ≤ x.exprs.length) ∧ wfEs L x.exprs ∧ wfB L x.thn ∧ wfB L x.els := by cases x; rw [wfS]
def FrS (id : Nat) (H H' : AH) : Prop := H.n ≤ H'.n ∧ ∀ j o, j < id → At H j o → At H' j o
theorem FrS.refl (id : Nat) (H : AH) : FrS id H H := ⟨Nat.le_refl _, fun _ _ _ h => h⟩
theorem FrS.trans {id : Nat} {a b c : AH} (h : FrS id a b) (k : FrS id b c) : FrS id a c := ⟨Nat.le_trans h.1 k.1, fun j o hj ho => k.2 j o hj (h.2 j o hj ho)⟩
theorem KeepC.fr {id : Nat} {a b : AH} (h : KeepC id a b) : FrS id a b := ⟨h.1, fun j o hj ho => h.2 j o (Nat.ne_of_lt hj) ho⟩
theorem FrS.set {id j : Nat} {a : AH} (hj : id ≤ j) (x : AObj) : FrS id a (a.set j x) := ⟨Nat.le_refl _, fun i o hi ho => ho.set_ne (by omega) x⟩
structure RunS (H : AH) (id : Nat) (vars : List GVar) (L : List (List UInt8)) (s : RS) (lx px : AV) : Prop where
 m : RunM H id vars L s lx px
 p : OwnT (id + 1) H 1 px s.pr.length (s.pr.map (AV.int .u64))
 lj : ∀ j c d e, lx = .row j c d e → id < j
theorem OwnT.keepC {id : Nat} {H H' : AH} {sz len : Nat} {x : AV} {cells : List AV} (h : OwnT (id + 1) H sz x len cells) (k : KeepC id H H') : OwnT (id + 1) H' sz x len cells := by
 obtain ⟨tk, hx, hc, ht⟩ := h
 refine ⟨tk, hx, hc, ?_⟩
 rcases ht with ht | ht | ⟨t, h1, h2, h3⟩
 · exact .inl ht
 · exact .inr (.inl ht)
 · exact .inr (.inr ⟨t, h1, h2, k.2 t _ (by omega) h3⟩)
theorem RunS.kp {H H' : AH} {id : Nat} {vars : List GVar} {L L' : List (List UInt8)} {s s' : RS} {lx px : AV} (h : RunS H id vars L s lx px) (k : KeepC id H H') (h' : RunM H' id vars L' s' lx px) (hp : s'.pr = s.pr) : RunS H' id vars L' s' lx px :=
 ⟨h', by rw [hp]; exact OwnT.keepC h.p k, h.lj⟩
theorem RunM.over {H : AH} {id : Nat} {vars : List GVar} {L L' : List (List UInt8)} {s : RS} {lx px : AV} (h : RunM H id vars L s lx px) (hs : s.stop = true) : RunM H id vars L' s lx px := ⟨h.row, h.loc, h.ok, h.len, fun e => (by rw [hs] at e; cases e), h.fl, h.pl⟩
theorem RunS.over {H : AH} {id : Nat} {vars : List GVar} {L L' : List (List UInt8)} {s : RS} {lx px : AV} (h : RunS H id vars L s lx px) (hs : s.stop = true) : RunS H id vars L' s lx px := ⟨h.m.over hs, h.p, h.lj⟩
end Rb

namespace Rb
open Go
theorem map_set1 {L : List (List UInt8 × Int)} {i : Nat} {l : List UInt8 × Int} (hi : L[i]? = some l) (v : Int) : (L.set i (l.1, v)).map (·.1) = L.map (·.1) := by
 apply List.ext_getElem?
 intro q
 rw [List.getElem?_map, List.getElem?_map, List.getElem?_set]
 split
 · rename_i h
   subst h
   rw [hi]
   split
   · rfl
   · rename_i h; exact absurd (List.getElem?_eq_some_iff.1 hi).1 h
 · rfl
theorem idx_names (L : List (List UInt8 × Int)) (n : List UInt8) : L.findIdx? (fun l => l.1 == n) = (L.map (·.1)).findIdx? (fun x => x == n) := by
 rw [List.findIdx?_map]; rfl
theorem put_run {H : AH} {id : Nat} {vars : List GVar} {L : List (List UInt8)} {s : RS} {lx px : AV} (h : RunS H id vars L s lx px) {j m : Nat} {cs : List AV} (hlx : lx = .row j 0 s.locs.length 2) (hj : j ≠ id) (hat : At H j (.row cs)) (hcl : cs.length = m * 2) (hlm : s.locs.length ≤ m) (htk : cs.take (s.locs.length * 2) = s.locs.flatMap locC)
  {name : List UInt8} {i : Nat} (hi : s.locs.findIdx? (fun l => l.1 == name) = some i) {v : Int} (hv : u64ok v) :
  ∃ H', astore H 1 (.ptr j (i * 2 + 1)) (.int .u64 v) = some H' ∧ FrS id H H' ∧ RunS H' id vars L (s.put name v) lx px ∧ (∀ q o, q ≠ j → At H q o → At H' q o) ∧ (s.put name v).locs.map (·.1) = s.locs.map (·.1) ∧ ∃ cs', At H' j (.row cs') ∧ cs'.length = m * 2 ∧ (s.put name v).locs.length ≤ m ∧ cs'.take ((s.put name v).locs.length * 2) = (s.put name v).locs.flatMap locC := by
 obtain ⟨l, hl1, hl2, hl3, hl4⟩ := get_of hi
 obtain ⟨e1, e2⟩ := LocV.put hj hat hcl hlm htk hl1 v
 have hlj := h.lj j 0 s.locs.length 2 hlx
 have hm := map_set1 hl1 v
 have hrow : ∀ o, At H id o → At (H.set j (.row (cs.set (i * 2 + 1) (.int .u64 v)))) id o := fun o ho => ho.set_ne (Ne.symm hj) _
 refine ⟨_, e1, FrS.set (Nat.le_of_lt hlj) _, ⟨⟨?_, ?_, h.m.ok.put name hv, ?_, ?_, ?_, ?_⟩, ?_, h.lj⟩, fun q o hq ho => ho.set_ne hq _, ?_, cs.set (i * 2 + 1) (.int .u64 v), hat.set _, by simpa using hcl, by rw [put_len]; exact hlm, ?_⟩
 · rw [hl4]; exact hrow _ h.m.row
 · rw [hl4, hlx]; exact e2
 · rw [put_len]; exact h.m.len
 · rw [(put_same s name v).2.2.1, hl4]
   intro hs
   show (s.locs.set i (l.1, v)).map (·.1) = L
   rw [hm]; exact h.m.nm hs
 · rw [(put_same s name v).2.2.1, (put_same s name v).2.1, (put_same s name v).1, put_len]; exact h.m.fl
 · rw [(put_same s name v).1]; exact h.m.pl
 · rw [(put_same s name v).1]
   exact h.p.frame (fun t x y ht => ht.set_ne (fun e => by subst e; have := ht.2.symm.trans hat.2; cases this) _)
 · rw [hl4]; exact hm
 · rw [put_len, hl4]
   show (cs.set (i * 2 + 1) (.int .u64 v)).take (s.locs.length * 2) = (s.locs.set i (l.1, v)).flatMap locC
   rw [List.take_set, htk, locs_set1 s.locs i l v hl1]
section
variable {C : Ctx} (hGT : GTok C) (hT : Cl (ACall C) S.tab_Chk) {id : Nat} {vars : List GVar} {L : List (List UInt8)}
include hGT hT
theorem load2_ok (hvl : vars.length ≤ 1000000) (hv : ∀ v ∈ vars, v.ok) {e : GStmt} (he : e.ok) (hk : e.kind = 5) (hN : e.name ∈ L ∧ e.name2 ∈ L) (hP : ∀ p ∈ e.place.parts, ∀ k ∈ p.index, ExprR C id vars L k) {a : Int} {s : RS} {lx px : AV} {H : AH} {Q : Post} (h : RunS H id vars L s lx px)
  (hQ : ∀ H', FrS id H H' → RunS H' id vars L (ldR vars e.name e.name2 e.place e.order a s) lx px → Q (.tup []) H') : S.f77_k4 (ACall C) (.ptr id 0) (.int .i64 a) (.fptr e.cells) (.int .i64 e.kind) Q [.bool false] H := by
 obtain ⟨hpl, _, _, _⟩ := GStmt.ok_parts he
 unfold S.f77_k4
 simp only [sl_zero, Gd_true, abin_eql, Do_of, hk]
 rw [if_neg (by decide), if_pos (by decide)]
 simp only [st_addr, st_l5, Do_of]
 refine place_ok hGT hT hvl hv hpl hP h.m fun H6 k6 h6 => ?_
 unfold ldR at hQ
 have kp1 := plR_kp vars e.place a s
 generalize plR vars e.place a s = pz at *
 obtain ⟨s1, z⟩ := pz
 dsimp only at hQ h6 kp1 ⊢
 simp only [aextract, List.getElem?_cons_zero, List.getElem?_cons_succ, Do_of, abox, if_true, DoH_some, Gd_true]
 rw [store_new H6 _ (z.getD spotZ).cells 6 rfl rfl rfl]
 simp only [Do_of]
 have k7 := k6.trans (KeepC.push id H6 (.row (z.getD spotZ).cells))
 have h7 := h6.keep (KeepC.push id H6 (.row (z.getD spotZ).cells)) (h6.row.push _)
 have w7 := At.new H6 (.row (z.getD spotZ).cells)
 have n6 := h6.row.1
 generalize H6.push (.row (z.getD spotZ).cells) = H7 at *
 cases z with
 | none =>
  rw [if_neg (show ¬ (none : Option GSpot).isSome = true from fun h => by cases h)]
  exact hQ H7 k7.fr (h.kp k7 h7 kp1.pr)
 | some sp =>
  rw [if_pos (show (some sp).isSome = true from rfl)]
  dsimp only [Option.getD] at w7 ⊢
  dsimp only at hQ
  simp only [spot_all w7, st_l4, st_l5, Do_of]
  refine inner_val hGT hT hpl _ _ ?_
  simp only [abin_add, Do_of, spot_all w7, st_l4, true_and]
  rw [show IntKind.wrap .i64 (IntKind.wrap .i64 (a + cntP e.place) + 1) = w64 (w64 (a + cntP e.place) + 1) from rfl]
  generalize w64 (w64 (a + cntP e.place) + 1) = site at *
  have hbw : abuild [.int .i64 0, .int .i64 0, .int .i64 0, .int .i64 0, .int .i64 0, .int .i64 0, .bool false, .int .i64 0, .int .i64 0, .int .i64 0, .int .i64 0, .int .u64 0, .int .u64 0] [(0, 1, (.int .i64 1)), (3, 6, .agg sp.cells), (9, 1, .int .i64 e.order), (1, 1, .int .i64 site)] = some (.agg (WantM.cells ⟨1, site, 0, sp, e.order, 0, 0, 0⟩)) := rfl
  rw [hbw]
  simp only [Do_of]
  refine ask_ok hGT hT h7.row _ fun H8 k8 a8 => ?_
  have oa := h7.ok.ask ⟨1, site, 0, sp, e.order, 0, 0, 0⟩
  have kp2 := kp1.trans (Kp.ask s1 ⟨1, site, 0, sp, e.order, 0, 0, 0⟩)
  have h8 := h7.next k8 a8 (Kp.ask _ _) oa.1
  have w8 := k8.2 _ _ (by omega) w7
  have k8' := k7.trans k8
  generalize s1.ask ⟨1, site, 0, sp, e.order, 0, 0, 0⟩ = g at *
  rw [store_new H8 _ [.int .u64 g.2.1, .int .u64 g.2.2] 2 rfl rfl rfl]
  refine ⟨spot_all (w8.push _), ?_⟩
  have y9 := At.new H8 (.row [.int .u64 g.2.1, .int .u64 g.2.2])
  have k9 := k8'.trans (KeepC.push id H8 (.row [.int .u64 g.2.1, .int .u64 g.2.2]))
  have h9 := h8.keep (KeepC.push id H8 (.row [.int .u64 g.2.1, .int .u64 g.2.2])) (h8.row.push _)
  have hloc8 := h8.loc
  generalize hH9 : H8.push (.row [.int .u64 g.2.1, .int .u64 g.2.2]) = H9 at *
  have s9 := h.kp k9 h9 kp2.pr
  have y0 : aload H9 1 false (.ptr H8.n 0) = some (.int .u64 g.2.1) := by rw [y9.load]; rfl
  have y1 : aload H9 1 false (.ptr H8.n 1) = some (.int .u64 g.2.2) := by rw [y9.load]; rfl
  have ia0 : aiaddr (some 2) 1 (.ptr H8.n 0) (.int .i64 0) = some (.ptr H8.n 0) := rfl
  have ia1 : aiaddr (some 2) 1 (.ptr H8.n 0) (.int .i64 1) = some (.ptr H8.n 1) := rfl
  simp only [Do_of, anilck, afaddr, Nat.zero_add, rm_stop h9.row, aun_not, Gd_true]
  unfold ldU at hQ
  refine ite_both (fun hs => ?_) (fun hs => ?_)
  · have hs' : g.1.stop = false := by simpa using hs
    rw [if_neg (by rw [hs']; decide)] at hQ
    simp only [st_l2, st_l3, Do_of, ia0, ia1, y0, y1]
    have hnm := h9.nm hs'
    obtain ⟨i1, hi1⟩ := has_idx (L := g.1.locs) (name := e.name) (by rw [hnm]; exact hN.1)
    obtain ⟨i2, hi2⟩ := has_idx (L := g.1.locs) (name := e.name2) (by rw [hnm]; exact hN.2)
    refine find_ok hGT hT h9.row h9.loc h9.len hi1 fun j cs m hlx hj hat hcl hlm htk => ?_
    simp only [y0, y1, st_l3, true_and]
    refine find_ok hGT hT h9.row h9.loc h9.len hi2 fun j' cs' m' hlx' hj' hat' hcl' hlm' htk' => ?_
    have hjj : j' = j := by rw [hlx] at hlx'; simp only [AV.row.injEq] at hlx'; exact hlx'.1.symm
    subst hjj
    have hyj : H8.n ≠ j' := by
     intro e'
     subst e'
     rcases hloc8 with ⟨q1, _⟩ | ⟨q, _, _, q1, _, q3, _⟩
     · rw [q1] at hlx; cases hlx
     · rw [q1] at hlx
       simp only [AV.row.injEq] at hlx
       have := q3.1
       omega
    simp only [y0, y1, true_and, anilck, Do_of]
    obtain ⟨Ha, ea, fa, ra, na, ma, csa, a1, a2, a3, a4⟩ := put_run s9 hlx hj hat hcl hlm htk hi1 (v := g.2.1) oa.2.1
    rw [ea]
    simp only [Do_of]
    have y1' : aload Ha 1 false (.ptr H8.n 1) = some (.int .u64 g.2.2) := by rw [(na _ _ hyj y9).load]; rfl
    refine ⟨y1', ?_⟩
    have hi2' : (g.1.put e.name g.2.1).locs.findIdx? (fun l => l.1 == e.name2) = some i2 := by
     rw [idx_names, ma, ← idx_names]; exact hi2
    obtain ⟨Hb, eb, fb, rb, _⟩ := put_run ra (by rw [put_len]; exact hlx) hj a1 a2 a3 a4 hi2' (v := g.2.2) oa.2.2
    rw [eb]
    simp only [Do_of]
    exact hQ Hb (k9.fr.trans (fa.trans fb)) rb
  · have hs' : g.1.stop = true := by simpa using hs
    rw [if_pos hs'] at hQ
    exact hQ H9 k9.fr s9
end
end Rb

namespace Rb
open Go
theorem aslice_row {j n m : Nat} (h : n ≤ m) : aslice 2 (.row j 0 m 2) none (some (.int .i64 n)) none = some (.row j 0 n 2) := by
 simp only [aslice, abound]
 rw [if_pos (by omega)]
 simp only [Int.toNat_natCast]
 rw [if_pos ⟨Nat.zero_le _, h, trivial⟩, if_pos (.inl trivial)]
 simp
theorem LocV.take {H : AH} {id : Nat} {L : List (List UInt8 × Int)} {x : AV} (h : LocV H id L x) {n : Nat} (hn : n ≤ L.length) : ∃ x', aslice 2 x none (some (.int .i64 n)) none = some x' ∧ LocV H id (L.take n) x' ∧ x'.known = true ∧ x'.cells = [x'] ∧ x'.scalar = true ∧ ∀ j c d e, x' = .row j c d e → ∃ c' d' e', x = .row j c' d' e' := by
 rcases h with ⟨rfl, rfl⟩ | ⟨j, cs, m, rfl, h2, h3, h4, h5, h6⟩
 · have : n = 0 := by simpa using hn
   subst this
   exact ⟨.lst .nil 0 [], rfl, .inl ⟨rfl, rfl⟩, rfl, rfl, rfl, fun j c d e h => by cases h⟩
 · have hl : (L.take n).length = n := by rw [List.length_take]; omega
   refine ⟨.row j 0 n 2, aslice_row hn, .inr ⟨j, cs, m, by rw [hl], h2, h3, h4, by omega, ?_⟩, rfl, rfl, rfl, fun q c d e h => ?_⟩
   · rw [hl, ← fl_take (cells := locC) (sz := 2) (fun _ => rfl), ← h6, List.take_take, Nat.min_eq_left (by omega)]
   · simp only [AV.row.injEq] at h
     exact ⟨0, L.length, 2, by rw [h.1]⟩
def StmtR (C : Ctx) (id : Nat) (vars : List GVar) (c : Nat) (x : GStmt) : Prop :=
 ∀ (L : List (List UInt8)), wfS L x → ∀ (a : Int) (s : RS) (lx px : AV) (H : AH) (Q : Post), RunS H id vars L s lx px → (∀ lx' px' H', FrS id H H' → RunS H' id vars (scp L x) (stR vars c x a s) lx' px' → Q (.tup []) H') → ACall C K.f77 [.ptr id 0, .agg x.cells, .int .i64 a] H Q
def BlockR (C : Ctx) (id : Nat) (vars : List GVar) (c : Nat) (l : List GStmt) : Prop :=
 ∀ (L : List (List UInt8)), wfB L l → ∀ (a : Int) (s : RS) (lx px : AV) (H : AH) (Q : Post), RunS H id vars L s lx px → (∀ lx' px' H', FrS id H H' → RunS H' id vars L (blR vars c l a s.locs.length s) lx' px' → Q (.tup []) H') → ACall C K.f48 [.ptr id 0, lstA GStmt.cells l, .int .i64 a] H Q
section
variable {C : Ctx} (hGT : GTok C) (hT : Cl (ACall C) S.tab_Chk) {id : Nat} {vars : List GVar} {c : Nat}
include hGT hT
theorem block_of {l : List GStmt} (hl : l.length ≤ 9223372036854775807) (ho : ∀ x ∈ l, x.ok) (hS : ∀ x ∈ l, StmtR C id vars c x) : BlockR C id vars c l := by
 intro L hwf a s lx px H Q h hQ
 refine S.cl_f48 hT ?_
 unfold S.f48
 have hlen : alen false lx = some (.int .i64 s.locs.length) := by
  rcases h.m.loc with ⟨rfl, e⟩ | ⟨j, cs, m, rfl, _⟩
  · rw [e]; rfl
  · rfl
 simp only [anilck, afaddr, Nat.zero_add, rm_locs h.m.row, Do_of, hlen, lstA_len']
 have main : ∀ (r : List GStmt) (k : Nat) (a' : Int) (L' : List (List UInt8)) (s' : RS) (lx' px' : AV) (H5 : AH), l.drop k = r → wfB L' r → RunS H5 id vars L' s' lx' px' → FrS id H H5 → s.locs.length ≤ s'.locs.length → (s'.stop = false → s.stop = false ∧ L <+: L') →
   blR vars c r a' s.locs.length s' = blR vars c l a s.locs.length s →
   LoopP (S.f48_l2 (ACall C) (.ptr id 0) (lstA GStmt.cells l) (.int .i64 s.locs.length) (.int .i64 l.length) Q) ([.int .i64 a', .int .i64 k], H5) := by
  intro r
  induction r with
  | nil =>
   intro k a' L' s' lx' px' H5 hd hw' h5 f5 hn hst he
   have hle := drop_nil_le hd
   refine LoopP.step ?_
   simp only [S.f48_l2, sl_zero, sl_succ, abin_lss, Do_of, Gd_true, JoinP_def, S.f48_k1]
   rw [if_neg (by simp only [decide_eq_true_eq]; omega)]
   simp only [anilck, afaddr, Nat.zero_add, rm_locs h5.m.row, Do_of]
   obtain ⟨x', e1, e2, e3, e4, e5, e6⟩ := h5.m.loc.take hn
   rw [e1]
   simp only [Do_of]
   rw [rm_slocs h5.m.row e3 e4 e5]
   simp only [Do_of]
   rw [blR] at he
   refine hQ x' px' _ (f5.trans (KeepC.set id _ _).fr) ?_
   rw [← he]
   refine ⟨⟨h5.m.row.set _, e2.keep (KeepC.set id _ _), ⟨h5.m.ok.ans, fun l hl => h5.m.ok.locs l (List.mem_of_mem_take hl)⟩, ?_, fun hs => ?_, fun hs => ?_, h5.m.pl⟩, OwnT.keepC h5.p (KeepC.set id _ _), fun j c' d e q => ?_⟩
   · show (s'.locs.take s.locs.length).length ≤ _
     rw [List.length_take]; have := h.m.len; omega
   · obtain ⟨hs0, t, ht⟩ := hst hs
     show (s'.locs.take s.locs.length).map (·.1) = L
     have n1 := h.m.nm hs0
     have n2 := h5.m.nm hs
     rw [List.map_take, n2, ← ht, ← n1]
     rw [List.take_left' (by simp)]
   · have := h5.m.fl hs
     refine ⟨this.1, ?_, this.2.2⟩
     show s'.fuel + ((s'.locs.take s.locs.length).length : Nat) ≤ _
     rw [List.length_take]; omega
   · obtain ⟨c2, d2, e2', q2⟩ := e6 j c' d e q
     exact h5.lj j c2 d2 e2' q2
  | cons x r ih =>
   intro k a' L' s' lx' px' H5 hd hw' h5 f5 hn hst he
   obtain ⟨hlt, hx, hd'⟩ := drop_cons_lt hd
   have hmem := List.mem_of_getElem? hx
   rw [wfB] at hw'
   rw [blR] at he
   refine LoopP.step ?_
   simp only [S.f48_l2, sl_zero, sl_succ, abin_lss, Do_of, Gd_true]
   rw [if_pos (by simp only [decide_eq_true_eq]; omega), lstA_addr hlt]
   simp only [Do_of]
   rw [elA_load GStmt.len (by decide) _ hx]
   simp only [Do_of, DoH_some, abox, if_true]
   rw [store_new _ _ _ 10 x.len x.scalar rfl]
   have q6 := At.new H5 (.row x.cells)
   have k6 := KeepC.push id H5 (.row x.cells)
   have h6 := h5.kp k6 (h5.m.keep k6 (h5.m.row.push _)) rfl
   have n5 := h5.m.row.1
   simp only [Do_of, anilck, afaddr, Nat.zero_add]
   generalize H5.push (.row x.cells) = H6 at *
   rw [rm_stop h6.m.row]
   simp only [Do_of, Gd_true]
   refine ite_both (fun hs => ?_) (fun hs => ?_)
   · rw [if_pos hs] at he
     refine hQ lx' px' H6 (f5.trans k6.fr) ?_
     rw [← he]
     exact h6.over hs
   rw [if_neg hs] at he
   have hs' : s'.stop = false := by simpa using hs
   rw [sr_l1 q6]
   simp only [Do_of]
   rw [rm_sline h6.m.row]
   simp only [Do_of]
   have k7 := KeepC.set id H6 (.row (rmC vars { s' with line := x.line } lx' px'))
   have r7 := h6.m.row.set (.row (rmC vars { s' with line := x.line } lx' px'))
   have q7 := q6.set_ne (Nat.ne_of_gt n5) (.row (rmC vars { s' with line := x.line } lx' px'))
   have h7 : RunS (H6.set id (.row (rmC vars { s' with line := x.line } lx' px'))) id vars L' { s' with line := x.line } lx' px' :=
    ⟨⟨r7, h6.m.loc.keep k7, ⟨h6.m.ok.ans, h6.m.ok.locs⟩, h6.m.len, h6.m.nm, h6.m.fl, h6.m.pl⟩, OwnT.keepC h6.p k7, h6.lj⟩
   refine burn_ok hGT hT r7 fun H8 k8 r8 => ?_
   have h8 := h7.kp k8 (h7.m.next k8 r8 (Kp.burn _) h7.m.ok.burn) (Kp.burn _).pr
   have q8 := k8.2 _ _ (Nat.ne_of_gt n5) q7
   rw [sr_all q8]
   simp only [Do_of]
   have lo : s'.locs.length ≤ (stR vars c x a' ({ s' with line := x.line } : RS).burn).locs.length := by
    have := stR_lo vars c x a' ({ s' with line := x.line } : RS).burn
    rw [(Kp.burn _).locs] at this
    exact this
   refine hS x hmem L' hw'.1 a' _ lx' px' H8 _ h8 fun lx9 px9 H9 f9 h9 => ?_
   have hw : IntKind.wrap .i64 ((k : Int) + 1) = ((k + 1 : Nat) : Int) := by rw [wrap_i64 (by omega) (by omega)]; simp
   simp only [abin_add, Do_of, hw, lstA_one GStmt.len hx]
   refine stmts_val hGT hT (l := [x]) (by simp) (fun y hy => by rw [List.mem_singleton.1 hy]; exact ho x hmem) _ _ ?_
   simp only [abin_add, Do_of, hw]
   rw [show cntSs [x] 0 = cntS x 0 by rw [cntSs, cntSs]]
   refine ih (k + 1) _ (scp L' x) _ lx9 px9 H9 hd' hw'.2 h9 (((f5.trans k6.fr).trans (k7.fr.trans k8.fr)).trans f9) (Nat.le_trans hn lo) (fun hs9 => ?_) he
   have z := hst hs'
   exact ⟨z.1, z.2.trans (by unfold scp; split; exact List.prefix_append _ _; exact List.prefix_refl _)⟩
 exact main l 0 a L s lx px H rfl hwf h (FrS.refl id H) (Nat.le_refl _) (fun e => ⟨e, List.prefix_refl _⟩) rfl
end
end Rb

namespace Rb
open Go
theorem stR_eq (vars : List GVar) (c : Nat) (x : GStmt) (a : Int) (s : RS) : stR vars c x a s =
  if x.kind = 3 ∨ x.kind = 4 ∨ x.kind = 6 then wrR vars x.place x.exprs x.order a s
  else if x.kind = 5 then ldR vars x.name x.name2 x.place x.order a s
  else if x.kind = 7 then (s.ask ⟨4, w64 (a + 1), 0, spotZ, x.order, 0, 0, 0⟩).1
  else if x.kind = 9 then whR (firstR vars x.exprs a) (fun s1 => { blR vars c x.thn (w64 (a + cntEs x.exprs 0)) s1.locs.length s1 with line := x.line }) c s
  else if (firstR vars x.exprs a s).1.stop = true then (firstR vars x.exprs a s).1
  else if x.kind = 1 then { (firstR vars x.exprs a s).1 with locs := (firstR vars x.exprs a s).1.locs ++ [(x.name, (firstR vars x.exprs a s).2)] }
  else if x.kind = 2 then (firstR vars x.exprs a s).1.put x.name (firstR vars x.exprs a s).2
  else if x.kind = 10 then { (firstR vars x.exprs a s).1 with pr := (firstR vars x.exprs a s).1.pr ++ [(firstR vars x.exprs a s).2] }
  else if (firstR vars x.exprs a s).2 ≠ 0 then blR vars c x.thn (w64 (a + cntEs x.exprs 0)) (firstR vars x.exprs a s).1.locs.length (firstR vars x.exprs a s).1
  else blR vars c x.els (w64 (w64 (a + cntEs x.exprs 0) + cntSs x.thn 0)) (firstR vars x.exprs a s).1.locs.length (firstR vars x.exprs a s).1 := by cases x; rw [stR]
section
variable {C : Ctx} (hGT : GTok C) (hT : Cl (ACall C) S.tab_Chk) {id : Nat} {vars : List GVar} {L : List (List UInt8)} {c : Nat}
include hGT hT
theorem value_ok {x : GStmt} (hx : x.ok) {e0 : GExpr} {et : List GExpr} (hex : x.exprs = e0 :: et) (hE : ExprR C id vars L e0) (hthn : BlockR C id vars c x.thn) (hels : BlockR C id vars c x.els) (hwT : wfB L x.thn) (hwE : wfB L x.els) (hN : x.kind = 2 → x.name ∈ L)
  (hk : ¬ (x.kind = 3 ∨ x.kind = 4 ∨ x.kind = 6) ∧ x.kind ≠ 5 ∧ x.kind ≠ 7 ∧ x.kind ≠ 9) {a : Int} {s : RS} {lx px : AV} {H : AH} {Q : Post} (h : RunS H id vars L s lx px)
  (hQ : ∀ lx' px' H', FrS id H H' → RunS H' id vars (scp L x) (stR vars c x a s) lx' px' → Q (.tup []) H') : ACall C K.f111 [.ptr id 0, .agg x.cells, .int .i64 a] H Q := by
 obtain ⟨hpl, ⟨hkl, hkk⟩, ⟨htl, htt⟩, _⟩ := GStmt.ok_parts hx
 obtain ⟨n1, n2, n3, n4⟩ := hk
 rw [stR_eq, if_neg n1, if_neg n2, if_neg n3, if_neg n4] at hQ
 have e0ok : e0.ok := hkk e0 (by rw [hex]; exact List.mem_cons_self ..)
 refine S.cl_f111 hT ?_
 unfold S.f111
 have had : aiaddr none 8 (lstA GExpr.cells (e0 :: et)) (.int .i64 0) = _ := lstA_addr (i := 0) (by simp)
 have hld : ∀ H, aload H 8 true (elA GExpr.cells 8 (e0 :: et) 0) = _ := fun H => elA_load GExpr.len (by decide) H (show (e0 :: et)[0]? = some e0 from rfl)
 have hl7 : ∀ H, aload H 1 false (.fptr (x.cells.drop 7)) = some (lstA GExpr.cells (e0 :: et)) := fun H => by rw [st_l7, hex]
 simp only [st_box, DoH_some, st_addr, hl7, Do_of, had, hld]
 rw [show firstR vars x.exprs a s = exR vars e0 a s by rw [hex]; rfl] at hQ
 have kp := exR_kp vars e0 a s
 have hdec := exR_dec vars e0 a s
 have hvo := exR_okM vars e0 e0ok a s h.m.ok
 refine hE a s lx px H _ h.m fun H1 k1 m1 => ?_
 have h1 := h.kp k1 m1 kp.pr
 have hfl : (exR vars e0 a s).1.stop = false → (exR vars e0 a s).1.fuel + (exR vars e0 a s).1.locs.length + 1 ≤ 1000000 ∧ (exR vars e0 a s).1.fuel + (exR vars e0 a s).1.pr.length + 1 ≤ 1000000 := by
  intro hs
  have f0 := h.m.fl (kp.stop hs)
  have := hdec f0.1 (by omega) hs
  rw [kp.locs, kp.pr]
  omega
 generalize exR vars e0 a s = g at *
 obtain ⟨s1, v⟩ := g
 dsimp only at *
 rw [show lstA GExpr.cells (e0 :: et) = lstA GExpr.cells x.exprs by rw [hex]]
 refine exprs_val hGT hT hkl hkk _ _ ?_
 simp only [abin_add, Do_of, anilck, afaddr, Nat.zero_add, rm_stop m1.row, Gd_true]
 refine ite_both (fun hs => ?_) (fun hs => ?_)
 · rw [if_pos hs] at hQ
   exact hQ lx px H1 k1.fr (h1.over hs)
 have hs' : s1.stop = false := by simpa using hs
 rw [if_neg hs] at hQ
 have hfl := hfl hs'
 simp only [st_l0, Do_of, abin_eql, Gd_true]
 refine ite_both (fun hc => ?_) (fun hc => ?_)
 · have c1 : x.kind = 1 := by simpa using hc
   rw [if_pos c1] at hQ
   simp only [rm_locs m1.row, Do_of, st_l2]
   rw [show abuild [.str [], .int .u64 0] [(0, 1, .str x.name), (1, 1, .int .u64 v)] = some (.agg [.str x.name, .int .u64 v]) from rfl]
   simp only [Do_of]
   rw [show abslice H1 false 2 1 [.str [], .int .u64 0] [(0, 2, .agg [.str x.name, .int .u64 v])] = some (.lst .full 1 [.str x.name, .int .u64 v], H1) from rfl]
   simp only [DoH_some]
   refine m1.loc.app m1.row.1 m1.len x.name v fun x' H2 z1 z2 z3 z4 z5 z6 z7 z8 z9 => ?_
   have r2 := z2 id _ (Nat.le_refl _) (fun c d e q => absurd (h1.lj id c d e q) (Nat.lt_irrefl _)) m1.row
   rw [rm_slocs r2 z5 z6 z7]
   simp only [Do_of]
   refine hQ x' px _ ⟨Nat.le_trans k1.1 z1, fun j o hj ho => ?_⟩ ⟨⟨r2.set _, z3.keep (KeepC.set id _ _), ⟨m1.ok.ans, fun l hl => ?_⟩, ?_, fun _ => ?_, fun _ => ?_, m1.pl⟩, OwnT.keepC (h1.p.frame fun t p q ht => z9 t _ (fun cs e => by cases e) ht) (KeepC.set id _ _), fun j c d e q => ?_⟩
   · exact (z2 j o (Nat.le_of_lt hj) (fun c d e q => absurd (h1.lj j c d e q) (by omega)) (k1.fr.2 j o hj ho)).set_ne (Nat.ne_of_lt hj) _
   · rcases List.mem_append.1 hl with hl | hl
     · exact m1.ok.locs l hl
     · rw [List.mem_singleton.1 hl]; exact hvo.2
   · show (s1.locs ++ [(x.name, v)]).length ≤ _
     rw [List.length_append, List.length_singleton]; have := (m1.fl hs').1; omega
   · show (s1.locs ++ [(x.name, v)]).map (·.1) = _
     unfold scp
     rw [if_pos c1, List.map_append, m1.nm hs']; rfl
   · have := m1.fl hs'
     refine ⟨this.1, ?_, this.2.2⟩
     show s1.fuel + ((s1.locs ++ [(x.name, v)]).length : Nat) ≤ _
     rw [List.length_append, List.length_singleton]; omega
   · rcases z8 j c d e q with ⟨c2, d2, e2, q2⟩ | q2
     · exact h1.lj j c2 d2 e2 q2
     · have := m1.row.1; omega
 have c1 : ¬ x.kind = 1 := by simpa using hc
 have hsc : scp L x = L := by unfold scp; rw [if_neg c1]
 rw [if_neg c1, hsc] at hQ
 refine ite_both (fun hc => ?_) (fun hc => ?_)
 · have c2 : x.kind = 2 := by simpa using hc
   rw [if_pos c2] at hQ
   obtain ⟨i, hi⟩ := has_idx (L := s1.locs) (name := x.name) (by rw [m1.nm hs']; exact hN c2)
   simp only [st_l2, Do_of]
   refine find_ok hGT hT m1.row m1.loc m1.len hi fun j cs m hlx hj hat hcl hlm htk => ?_
   simp only [anilck, Do_of]
   obtain ⟨Ha, ea, fa, ra, _⟩ := put_run h1 hlx hj hat hcl hlm htk hi hvo.2
   rw [ea]
   simp only [Do_of]
   exact hQ lx px Ha (k1.fr.trans fa) ra
 have c2 : ¬ x.kind = 2 := by simpa using hc
 rw [if_neg c2] at hQ
 refine ite_both (fun hc => ?_) (fun hc => ?_)
 · have c3 : x.kind = 10 := by simpa using hc
   rw [if_pos c3] at hQ
   simp only [rm_pr m1.row, Do_of]
   rw [show abslice H1 false 1 1 [.int .u64 0] [(0, 1, .int .u64 v)] = some (.lst .full 1 [.int .u64 v], H1) from rfl]
   simp only [DoH_some]
   have f1 := m1.fl hs'
   refine h1.p.app (Nat.succ_le_of_lt m1.row.1) (m := 1) (news := [.int .u64 v]) rfl rfl rfl (by decide) (by omega) (by omega) fun px' H2 hp2 lf => ?_
   have r2 := lf.row m1.row
   obtain ⟨tk, hpx, hpc, hpt⟩ := hp2
   rw [rm_spr r2 (by rw [hpx]; rfl) (by rw [hpx]; rfl) (by rw [hpx]; rfl)]
   simp only [Do_of]
   have kk : KeepC id H2 (H2.set id (.row (rmC vars s1 lx px'))) := KeepC.set id _ _
   refine hQ lx px' _ (k1.fr.trans (FrS.trans ⟨lf.1, fun j o hj ho => lf.2 j o ho (.inl (by omega))⟩ kk.fr)) ⟨⟨r2.set _, ?_, ⟨m1.ok.ans, m1.ok.locs⟩, m1.len, fun _ => m1.nm hs', fun _ => ?_, by show (s1.pr ++ [v]).length ≤ _; rw [List.length_append, List.length_singleton]; have := f1.1; omega⟩, ?_, h1.lj⟩
   · refine LocV.keep ?_ kk
     rcases m1.loc with q | ⟨j, cs, m, q1, q2, q3, q4⟩
     · exact .inl q
     · exact .inr ⟨j, cs, m, q1, q2, lf.row q3, q4⟩
   · refine ⟨f1.1, f1.2.1, ?_⟩
     show s1.fuel + ((s1.pr ++ [v]).length : Nat) ≤ _
     rw [List.length_append, List.length_singleton]; omega
   · refine OwnT.keepC ?_ kk
     show OwnT (id + 1) H2 1 px' (s1.pr ++ [v]).length ((s1.pr ++ [v]).map (AV.int .u64))
     rw [List.length_append, List.map_append]
     exact ⟨tk, hpx, hpc, hpt⟩
 have c3 : ¬ x.kind = 10 := by simpa using hc
 rw [if_neg c3] at hQ
 simp only [abin_neq, Do_of, Gd_true]
 refine ite_both (fun hc => ?_) (fun hc => ?_)
 · have c4 : v ≠ 0 := by simpa using hc
   rw [if_pos c4] at hQ
   simp only [st_l8, Do_of]
   refine hthn L hwT _ s1 lx px H1 _ h1 fun lx' px' H2 f2 h2 => ?_
   exact hQ lx' px' H2 (k1.fr.trans f2) h2
 · have c4 : ¬ v ≠ 0 := by simpa using hc
   rw [if_neg c4] at hQ
   simp only [st_l8, st_l9, Do_of]
   refine stmts_val hGT hT htl htt _ _ ?_
   simp only [st_l9, true_and, abin_add, Do_of]
   refine hels L hwE _ s1 lx px H1 _ h1 fun lx' px' H2 f2 h2 => ?_
   exact hQ lx' px' H2 (k1.fr.trans f2) h2
end
end Rb

namespace Rb
open Go
section
variable {C : Ctx} (hGT : GTok C) (hT : Cl (ACall C) S.tab_Chk) {id : Nat} {vars : List GVar} {L : List (List UInt8)} {c : Nat}
include hGT hT
theorem while_ok {x : GStmt} (hx : x.ok) {e0 : GExpr} {et : List GExpr} (hex : x.exprs = e0 :: et) (hE : ExprR C id vars L e0) (hthn : BlockR C id vars c x.thn) (hwT : wfB L x.thn)
  {a : Int} {Q : Post} {s0 : RS} {H0 : AH} (hQ : ∀ lx' px' H', FrS id H0 H' → RunS H' id vars L (whR (firstR vars x.exprs a) (fun s1 => { blR vars c x.thn (w64 (a + cntEs x.exprs 0)) s1.locs.length s1 with line := x.line }) c s0) lx' px' → Q (.tup []) H') :
  ∀ (n : Nat) (s : RS) (lx px : AV) (H : AH), 1 ≤ n → (s.stop = false → s.fuel < n) → RunS H id vars L s lx px → FrS id H0 H →
   whR (firstR vars x.exprs a) (fun s1 => { blR vars c x.thn (w64 (a + cntEs x.exprs 0)) s1.locs.length s1 with line := x.line }) n s = whR (firstR vars x.exprs a) (fun s1 => { blR vars c x.thn (w64 (a + cntEs x.exprs 0)) s1.locs.length s1 with line := x.line }) c s0 →
   LoopP (S.f77_l3 (ACall C) (.ptr id 0) (.int .i64 a) (.fptr x.cells) Q) ([], H) := by
 obtain ⟨hpl, ⟨hkl, hkk⟩, ⟨htl, htt⟩, _⟩ := GStmt.ok_parts hx
 have had : aiaddr none 8 (lstA GExpr.cells (e0 :: et)) (.int .i64 0) = _ := lstA_addr (i := 0) (by simp)
 have hld : ∀ H, aload H 8 true (elA GExpr.cells 8 (e0 :: et) 0) = _ := fun H => elA_load GExpr.len (by decide) H (show (e0 :: et)[0]? = some e0 from rfl)
 have hl7 : ∀ H, aload H 1 false (.fptr (x.cells.drop 7)) = some (lstA GExpr.cells (e0 :: et)) := fun H => by rw [st_l7, hex]
 have hf : ∀ s, firstR vars x.exprs a s = exR vars e0 a s := fun s => by rw [hex]; rfl
 intro n
 induction n with
 | zero => intro s lx px H h1; omega
 | succ n ih =>
  intro s lx px H h1 hfu h fr he
  rw [whR, hf] at he
  refine LoopP.step ?_
  simp only [S.f77_l3, st_addr, hl7, Do_of, had, hld]
  have kp := exR_kp vars e0 a s
  have hdec := exR_dec vars e0 a s
  refine hE a s lx px H _ h.m fun H1 k1 m1 => ?_
  have h1' := h.kp k1 m1 kp.pr
  have hfl : (exR vars e0 a s).1.stop = false → 0 ≤ (exR vars e0 a s).1.fuel ∧ (exR vars e0 a s).1.fuel < n ∧ 1 ≤ n := by
   intro hs
   have f0 := h.m.fl (kp.stop hs)
   have f1 := hdec f0.1 (by omega) hs
   have f2 := hfu (kp.stop hs)
   have f3 := kp.fu f0.1 (by omega) hs
   exact ⟨f3.1, by omega, by omega⟩
  generalize exR vars e0 a s = g at *
  obtain ⟨s1, v⟩ := g
  dsimp only at *
  have stop : ¬ (v ≠ 0 ∧ s1.stop = false) → Q (.tup []) H1 := by
   intro hn
   rw [if_neg hn] at he
   refine hQ lx px H1 (fr.trans k1.fr) ?_
   rw [← he]; exact h1'
  simp only [abin_neq, Do_of, Gd3_true]
  refine ite_both (fun hc => ?_) (fun hc => ?_)
  · have hv : v ≠ 0 := by simpa using hc
    simp only [anilck, afaddr, Nat.zero_add, rm_stop m1.row, Do_of, aun_not, JoinP_def, S.f77_k2, sl_zero, Gd_true]
    refine ite_both (fun hs => ?_) (fun hs => ?_)
    · have hs' : s1.stop = false := by simpa using hs
      rw [if_pos ⟨hv, hs'⟩] at he
      simp only [S.f77_k1, st_addr, st_l8, hl7, Do_of]
      rw [show lstA GExpr.cells (e0 :: et) = lstA GExpr.cells x.exprs by rw [hex]]
      refine exprs_val hGT hT hkl hkk _ _ ?_
      simp only [st_l8, true_and, abin_add, Do_of]
      have kb := blR_ks vars c x.thn (w64 (a + cntEs x.exprs 0)) s1.locs.length s1 hs'
      refine hthn L hwT _ s1 lx px H1 _ h1' fun lx2 px2 H2 f2 h2 => ?_
      simp only [st_l1, Do_of, anilck, afaddr, Nat.zero_add]
      rw [rm_sline h2.m.row]
      simp only [Do_of]
      obtain ⟨q1, q2, q3⟩ := hfl hs'
      have m1fl := m1.fl hs'
      generalize blR vars c x.thn (w64 (a + cntEs x.exprs 0)) s1.locs.length s1 = s2 at *
      have k3 := KeepC.set id H2 (.row (rmC vars { s2 with line := x.line } lx2 px2))
      refine ih { s2 with line := x.line } lx2 px2 _ q3 (fun hs2 => ?_) ⟨⟨h2.m.row.set _, h2.m.loc.keep k3, ⟨h2.m.ok.ans, h2.m.ok.locs⟩, h2.m.len, h2.m.nm, h2.m.fl, h2.m.pl⟩, OwnT.keepC h2.p k3, h2.lj⟩ ((fr.trans k1.fr).trans (f2.trans k3.fr)) he
      have := kb.2 q1 (by omega) hs2
      show s2.fuel < n
      omega
    · exact stop fun q => hs (by rw [q.2]; rfl)
  · simp only [JoinP_def, S.f77_k2, sl_zero, Gd_true]
    rw [if_neg (by decide)]
    exact stop fun q => hc (by simpa using q.1)
theorem stmt_of (hvl : vars.length ≤ 1000000) (hv : ∀ v ∈ vars, v.ok) (hc0 : 1000000 < c) {x : GStmt} (hx : x.ok) (hthn : BlockR C id vars c x.thn) (hels : BlockR C id vars c x.els) : StmtR C id vars c x := by
 intro L hwf a s lx px H Q h hQ
 obtain ⟨w1, w2, w3, w4, w5, w6, w7, w8⟩ := (wfS_eq L x).1 hwf
 obtain ⟨hpl, ⟨hkl, hkk⟩, _, _⟩ := GStmt.ok_parts hx
 have hpp := GPlace.ok_parts hpl
 have hE : ∀ k ∈ x.exprs, ExprR C id vars L k := fun k hk => expr_ok hGT hT hvl hv k (hkk k hk) (wfEs_iff L |>.1 w6 k hk)
 have hP : 3 ≤ x.kind ∧ x.kind ≤ 6 → ∀ p ∈ x.place.parts, ∀ k ∈ p.index, ExprR C id vars L k := fun hk p hp k hki => expr_ok hGT hT hvl hv k ((hpp.2 p hp).2 k hki) (wfEs_iff L |>.1 ((wfP_eq L x.place).1 (w3 hk) p hp) k hki)
 refine S.cl_f77 hT ?_
 unfold S.f77
 have wr : (x.kind = 3 ∨ x.kind = 4 ∨ x.kind = 6) → S.f77_k4 (ACall C) (.ptr id 0) (.int .i64 a) (.fptr x.cells) (.int .i64 x.kind) Q [.bool true] H := by
  intro hk
  have hsc : scp L x = L := by unfold scp; rw [if_neg (by omega)]
  rw [stR_eq, if_pos hk, hsc] at hQ
  unfold S.f77_k4
  simp only [sl_zero, Gd_true, if_true, st_all, Do_of]
  refine write_ok hGT hT hvl hv hx w4 hE (hP (by omega)) h.m fun H1 k1 h1 => ?_
  exact hQ lx px H1 k1.fr (h.kp k1 h1 (wrR_kp vars x.place x.exprs x.order a s).pr)
 simp only [st_box, DoH_some, st_addr, st_l0, Do_of, abin_eql, Gd_true, JoinP_def]
 refine ite_both (fun hc => ?_) (fun hc => ?_)
 · rw [hc]; exact wr (.inl (by simpa using hc))
 have k3 : ¬ x.kind = 3 := by simpa using hc
 refine ite_both (fun hc => ?_) (fun hc => ?_)
 · rw [hc]; exact wr (.inr (.inl (by simpa using hc)))
 have k4 : ¬ x.kind = 4 := by simpa using hc
 by_cases k6 : x.kind = 6
 · rw [show (x.kind == 6) = true by simpa using k6]
   exact wr (.inr (.inr k6))
 rw [show (x.kind == 6) = false by simpa using k6]
 have hnw : ¬ (x.kind = 3 ∨ x.kind = 4 ∨ x.kind = 6) := by omega
 by_cases k5 : x.kind = 5
 · have hsc : scp L x = L := by unfold scp; rw [if_neg (by omega)]
   rw [stR_eq, if_neg hnw, if_pos k5, hsc] at hQ
   exact load2_ok hGT hT hvl hv hx k5 (w2 k5) (hP (by omega)) h fun H' f h' => hQ lx px H' f h'
 unfold S.f77_k4
 simp only [sl_zero, Gd_true, abin_eql, Do_of]
 rw [if_neg (by decide), if_neg (by simpa using k5)]
 refine ite_both (fun hc => ?_) (fun hc => ?_)
 · have k7 : x.kind = 7 := by simpa using hc
   have hsc : scp L x = L := by unfold scp; rw [if_neg (by omega)]
   rw [stR_eq, if_neg hnw, if_neg k5, if_pos k7, hsc] at hQ
   simp only [st_addr, st_l4, abin_add, Do_of]
   have hbw : abuild [.int .i64 0, .int .i64 0, .int .i64 0, .int .i64 0, .int .i64 0, .int .i64 0, .bool false, .int .i64 0, .int .i64 0, .int .i64 0, .int .i64 0, .int .u64 0, .int .u64 0] [(0, 1, (.int .i64 4)), (9, 1, .int .i64 x.order), (1, 1, .int .i64 (IntKind.wrap .i64 (a + 1)))] = some (.agg (WantM.cells ⟨4, w64 (a + 1), 0, spotZ, x.order, 0, 0, 0⟩)) := rfl
   rw [hbw]
   simp only [Do_of]
   refine ask_ok hGT hT h.m.row _ fun H1 k1 a1 => ?_
   exact hQ lx px H1 k1.fr (h.kp k1 (h.m.next k1 a1 (Kp.ask _ _) (h.m.ok.ask _).1) (Kp.ask _ _).pr)
 have k7 : ¬ x.kind = 7 := by simpa using hc
 obtain ⟨e0, et, hex⟩ : ∃ e0 et, x.exprs = e0 :: et := by
  have := w5 (by omega)
  cases hh : x.exprs with
  | nil => rw [hh] at this; simp at this
  | cons e0 et => exact ⟨e0, et, rfl⟩
 have hE0 := hE e0 (by rw [hex]; exact List.mem_cons_self ..)
 refine ite_both (fun hc => ?_) (fun hc => ?_)
 · have k9 : x.kind = 9 := by simpa using hc
   have hsc : scp L x = L := by unfold scp; rw [if_neg (by omega)]
   rw [stR_eq, if_neg hnw, if_neg k5, if_neg k7, if_pos k9, hsc] at hQ
   exact while_ok hGT hT hx hex hE0 hthn w7 (H0 := H) (s0 := s) hQ c s lx px H (by omega) (fun hs => by have := (h.m.fl hs).2.1; omega) h (FrS.refl id H) rfl
 have k9 : ¬ x.kind = 9 := by simpa using hc
 simp only [st_all, Do_of]
 exact value_ok hGT hT hx hex hE0 hthn hels w7 w8 w1 ⟨hnw, k5, k7, k9⟩ h hQ
theorem stmt_ok (hvl : vars.length ≤ 1000000) (hv : ∀ v ∈ vars, v.ok) (hc0 : 1000000 < c) : ∀ x : GStmt, x.ok → StmtR C id vars c x := by
 refine GStmt.ind fun x ihT ihE hx => ?_
 obtain ⟨_, _, ⟨t1, t2⟩, ⟨e1, e2⟩⟩ := GStmt.ok_parts hx
 exact stmt_of hGT hT hvl hv hc0 hx (block_of hGT hT t1 t2 fun y hy => ihT y hy (t2 y hy)) (block_of hGT hT e1 e2 fun y hy => ihE y hy (e2 y hy))
theorem block_ok (hvl : vars.length ≤ 1000000) (hv : ∀ v ∈ vars, v.ok) (hc0 : 1000000 < c) {l : List GStmt} (hl : l.length ≤ 9223372036854775807) (ho : ∀ x ∈ l, x.ok) : BlockR C id vars c l :=
 block_of hGT hT hl ho fun x hx => stmt_ok hGT hT hvl hv hc0 x (ho x hx)
end
end Rb

namespace Rb
open Go
theorem nd_zero {s : CSt} {ok : Bool} {e : Int} (h : (s.need ok e).fkind = 0) (he : e ≠ 0) : s.fkind = 0 ∧ ok = true := by
 unfold CSt.need at h
 split at h
 · exact absurd h he
 · rename_i q
   refine ⟨h, ?_⟩
   cases ok
   · exact absurd ⟨rfl, h⟩ q
   · rfl
theorem need_locals (s : CSt) (ok : Bool) (e : Int) : (s.need ok e).locals = s.locals := by unfold CSt.need; split <;> rfl
theorem has_mem {s : CSt} {x : List UInt8} (h : s.has x = true) : x ∈ s.locals := by
 unfold CSt.has at h
 obtain ⟨y, hy, e⟩ := List.any_eq_true.1 h
 have : x = y := by simpa using e
 rw [this]; exact hy
theorem headE_zero {s : CSt} {d : Int} {e : GExpr} (h : (headE s d e).fkind = 0) : s.fkind = 0 ∧ formedM e = true := by
 unfold headE at h
 have h1 := nd_zero h (by decide)
 have h2 := nd_zero h1.1 (by decide)
 have h3 := nd_zero h2.1 (by decide)
 exact ⟨h3.1, h2.2⟩
theorem headE_locals (s : CSt) (d : Int) (e : GExpr) : (headE s d e).locals = s.locals := by unfold headE; rw [need_locals, need_locals, need_locals]
theorem headS_zero {s : CSt} {d : Int} {e : GStmt} (h : (headS s d e).fkind = 0) : s.fkind = 0 ∧ formM e = true := by
 unfold headS at h
 have h1 := nd_zero h (by decide)
 have h2 := nd_zero h1.1 (by decide)
 have h3 := nd_zero h2.1 (by decide)
 exact ⟨h3.1, h2.2⟩
theorem headS_locals (s : CSt) (d : Int) (e : GStmt) : (headS s d e).locals = s.locals := by unfold headS; rw [need_locals, need_locals, need_locals]
section
variable (vars : List GVar)
theorem placeS_locals (s : CSt) (k : Int) (x : GPlace) : (placeS vars s k x).locals = s.locals := by unfold placeS; dsimp only; rw [need_locals, need_locals]
theorem formed_kids {kind n : Int} {name : List UInt8} {op order : Int} {place : GPlace} {kids : List GExpr} (h : formedM (.mk kind n name op order place kids) = true) : 1 ≤ kind ∧ kind ≤ 8 ∧ kids.length ≤ 2 ∧ (kind = 3 → kids.length = 2) := by
 unfold formedM at h
 simp only [Bool.and_eq_true, decide_eq_true_eq] at h
 obtain ⟨⟨⟨⟨⟨⟨h1, h2⟩, _⟩, _⟩, _⟩, _⟩, h7⟩ := h
 have h7 : ((kids.length : Int)) = (kidsM kind).1 := by simpa using h7
 have h1 : 1 ≤ kind := h1
 have h2 : kind ≤ 8 := h2
 unfold kidsM at h7
 refine ⟨h1, h2, ?_, fun e => ?_⟩
 · split at h7
   · dsimp only at h7; omega
   · split at h7
     · dsimp only at h7; omega
     · split at h7
       · dsimp only at h7; omega
       · split at h7
         · dsimp only at h7; omega
         · dsimp only at h7; omega
 · rw [if_pos e] at h7; dsimp only at h7; omega
mutual
theorem exM_wf : ∀ (e : GExpr) (s : CSt) (d : Int), (exM vars s d e).fkind = 0 → s.fkind = 0 ∧ (exM vars s d e).locals = s.locals ∧ wfE s.locals e
 | .mk kind n name op order place kids, s, d, h => by
  rw [exM] at h ⊢
  by_cases hh : (headE s d (.mk kind n name op order place kids)).fkind ≠ 0
  · rw [if_pos hh] at h; exact absurd h hh
  · rw [if_neg hh] at h ⊢
    have hz : (headE s d (.mk kind n name op order place kids)).fkind = 0 := by simpa using hh
    have hl := headE_locals s d (.mk kind n name op order place kids)
    obtain ⟨z1, z2⟩ := headE_zero hz
    obtain ⟨f1, f2, f3, f4⟩ := formed_kids z2
    obtain ⟨e1, e2, e3⟩ := exsM_wf kids _ d h
    rw [e2]
    rw [wfE]
    by_cases hk : kind ≥ 4
    · rw [if_pos hk, if_neg (show ¬ kind = 2 by omega)] at e1 e2 e3 ⊢
      obtain ⟨p1, p2, p3⟩ := plM_wf place _ _ d e1
      rw [p2, hl] at e3 ⊢
      rw [hl] at p3
      exact ⟨z1, rfl, fun e => absurd e (by omega), f4, f3, fun _ => p3, e3⟩
    · rw [if_neg hk] at e1 e2 e3 ⊢
      by_cases h2 : kind = 2
      · rw [if_pos h2] at e1 e2 e3 ⊢
        rw [need_locals, hl] at e3 ⊢
        have := has_mem (nd_zero e1 (by decide)).2
        rw [hl] at this
        exact ⟨z1, rfl, fun _ => this, f4, f3, fun q => absurd q (by omega), e3⟩
      · rw [if_neg h2, hl] at e3 ⊢
        exact ⟨z1, rfl, fun e => absurd e h2, f4, f3, fun q => absurd q (by omega), e3⟩
theorem exsM_wf : ∀ (l : List GExpr) (s : CSt) (d : Int), (exsM vars s d l).fkind = 0 → s.fkind = 0 ∧ (exsM vars s d l).locals = s.locals ∧ wfEs s.locals l
 | [], s, d, h => by rw [exsM] at h ⊢; exact ⟨h, rfl, trivial⟩
 | e :: r, s, d, h => by
  rw [exsM] at h ⊢
  obtain ⟨e1, e2, e3⟩ := exsM_wf r _ d h
  by_cases hs : s.fkind ≠ 0
  · rw [if_pos hs] at e1; exact absurd e1 hs
  · rw [if_neg hs] at e1 e2 e3 ⊢
    obtain ⟨q1, q2, q3⟩ := exM_wf e s _ e1
    rw [e2, q2]
    rw [q2] at e3
    rw [wfEs]
    exact ⟨q1, rfl, q3, e3⟩
theorem plM_wf : ∀ (x : GPlace) (s : CSt) (k d : Int), (plM vars s k d x).fkind = 0 → s.fkind = 0 ∧ (plM vars s k d x).locals = s.locals ∧ wfP s.locals x
 | .mk var parts, s, k, d, h => by
  rw [plM] at h ⊢
  by_cases hs : s.fkind ≠ 0
  · rw [if_pos hs] at h; exact absurd h hs
  · rw [if_neg hs] at h ⊢
    obtain ⟨e1, e2, e3⟩ := ptsM_wf parts _ d h
    rw [placeS_locals] at e2 e3
    rw [wfP]
    exact ⟨by simpa using hs, e2, e3⟩
theorem ptsM_wf : ∀ (l : List GPart) (s : CSt) (d : Int), (ptsM vars s d l).fkind = 0 → s.fkind = 0 ∧ (ptsM vars s d l).locals = s.locals ∧ wfPs s.locals l
 | [], s, d, h => by rw [ptsM] at h ⊢; exact ⟨h, rfl, trivial⟩
 | p :: r, s, d, h => by
  rw [ptsM] at h ⊢
  obtain ⟨e1, e2, e3⟩ := ptsM_wf r _ d h
  obtain ⟨q1, q2, q3⟩ := ptM_wf p s d e1
  rw [e2, q2]
  rw [q2] at e3
  rw [wfPs]
  exact ⟨q1, rfl, q3, e3⟩
theorem ptM_wf : ∀ (p : GPart) (s : CSt) (d : Int), (ptM vars s d p).fkind = 0 → s.fkind = 0 ∧ (ptM vars s d p).locals = s.locals ∧ wfR s.locals p
 | .mk field index, s, d, h => by
  rw [ptM] at h ⊢
  rw [wfR]
  exact idxM_wf index s d h
theorem idxM_wf : ∀ (l : List GExpr) (s : CSt) (d : Int), (idxM vars s d l).fkind = 0 → s.fkind = 0 ∧ (idxM vars s d l).locals = s.locals ∧ wfEs s.locals l
 | [], s, d, h => by rw [idxM] at h ⊢; exact ⟨h, rfl, trivial⟩
 | e :: r, s, d, h => by
  rw [idxM] at h ⊢
  obtain ⟨e1, e2, e3⟩ := idxM_wf r _ d h
  obtain ⟨q1, q2, q3⟩ := exM_wf e s _ e1
  rw [e2, q2]
  rw [q2] at e3
  rw [wfEs]
  exact ⟨q1, rfl, q3, e3⟩
end
variable (kw : List UInt8 → Bool)
theorem front_wf {s : CSt} {d : Int} {x : GStmt} (h : (frontS vars kw s d x).fkind = 0) : s.fkind = 0 ∧ (frontS vars kw s d x).locals = s.locals ∧ (x.kind = 2 → x.name ∈ s.locals) ∧ (3 ≤ x.kind ∧ x.kind ≤ 6 → wfP s.locals x.place) := by
 unfold frontS at h ⊢
 by_cases h1 : x.kind = 1
 · rw [if_pos h1] at h ⊢
   rw [need_locals, need_locals, need_locals]
   have z1 := nd_zero h (by decide)
   have z2 := nd_zero z1.1 (by decide)
   have z3 := nd_zero z2.1 (by decide)
   exact ⟨z3.1, rfl, fun e => by omega, fun e => by omega⟩
 · rw [if_neg h1] at h ⊢
   by_cases h2 : x.kind = 2
   · rw [if_pos h2] at h ⊢
     rw [need_locals]
     have z1 := nd_zero h (by decide)
     exact ⟨z1.1, rfl, fun _ => has_mem z1.2, fun e => by omega⟩
   · rw [if_neg h2] at h ⊢
     by_cases h3 : x.kind = 3 ∨ x.kind = 4 ∨ x.kind = 5 ∨ x.kind = 6
     · rw [if_pos h3] at h ⊢
       obtain ⟨p1, p2, p3⟩ := plM_wf vars x.place s _ d h
       exact ⟨p1, p2, fun e => absurd e h2, fun _ => p3⟩
     · rw [if_neg h3] at h ⊢
       exact ⟨h, rfl, fun e => absurd e h2, fun e => by omega⟩
theorem rear_wf {s : CSt} {x : GStmt} (h : (rearS s x).fkind = 0) : s.fkind = 0 ∧ (rearS s x).locals = scp s.locals x ∧ (x.kind = 5 → x.name ∈ s.locals ∧ x.name2 ∈ s.locals) := by
 unfold rearS at h ⊢
 unfold scp
 by_cases h1 : x.kind = 1
 · rw [if_pos h1] at h ⊢
   rw [if_pos h1]
   exact ⟨h, rfl, fun e => by omega⟩
 · rw [if_neg h1] at h ⊢
   rw [if_neg h1]
   by_cases h5 : x.kind = 5
   · rw [if_pos h5] at h ⊢
     rw [need_locals, need_locals, need_locals]
     have z1 := nd_zero h (by decide)
     have z2 := nd_zero z1.1 (by decide)
     have z3 := nd_zero z2.1 (by decide)
     refine ⟨z3.1, rfl, fun _ => ⟨has_mem z3.2, ?_⟩⟩
     exact has_mem z2.2
   · rw [if_neg h5] at h ⊢
     exact ⟨h, rfl, fun e => absurd e h5⟩
theorem form_parts {x : GStmt} (h : formM x = true) : 1 ≤ x.kind ∧ x.kind ≤ 10 ∧ x.exprs.length ≤ 2 ∧ (¬ (3 ≤ x.kind ∧ x.kind ≤ 7) → 1 ≤ x.exprs.length) ∧ (x.kind = 1 → x.thn = [] ∧ x.els = []) := by
 unfold formM at h
 simp only [Bool.and_eq_true, decide_eq_true_eq, Bool.or_eq_true, beq_iff_eq] at h
 obtain ⟨⟨⟨⟨⟨⟨⟨h1, h2⟩, _⟩, _⟩, _⟩, h6⟩, h7⟩, h8⟩ := h
 unfold hasM at h6 h7 h8
 refine ⟨h1, h2, ?_, fun e => ?_, fun e => ?_⟩
 · repeat' split at h6
   all_goals (dsimp only at h6; omega)
 · repeat' split at h6
   all_goals (dsimp only at h6; omega)
 · rw [if_pos (.inl e)] at h7 h8
   simp at h7 h8
   exact ⟨h7, h8⟩
theorem body_wf {s : CSt} {d : Int} {x : GStmt} (h : (bodyS vars kw s d x).fkind = 0) : s.fkind = 0 ∧ (bodyS vars kw s d x).locals = scp s.locals x ∧ formM x = true ∧ (x.kind = 2 → x.name ∈ s.locals) ∧ (x.kind = 5 → x.name ∈ s.locals ∧ x.name2 ∈ s.locals) ∧ (3 ≤ x.kind ∧ x.kind ≤ 6 → wfP s.locals x.place) ∧ wfEs s.locals x.exprs := by
 unfold bodyS at h ⊢
 obtain ⟨r1, r2, r3⟩ := rear_wf h
 obtain ⟨e1, e2, e3⟩ := exsM_wf vars x.exprs _ d r1
 obtain ⟨f1, f2, f3, f4⟩ := front_wf vars kw e1
 obtain ⟨z1, z2⟩ := headS_zero f1
 rw [f2, headS_locals] at e2 e3
 rw [headS_locals] at f3 f4
 rw [e2] at r2 r3
 exact ⟨z1, r2, z2, f3, r3, f4, e3⟩
theorem scp_take (L : List (List UInt8)) (x : GStmt) {n : Nat} (h : n ≤ L.length) : (scp L x).take n = L.take n ∧ n ≤ (scp L x).length := by
 unfold scp
 split
 · exact ⟨by rw [List.take_append_of_le_length h], by rw [List.length_append]; omega⟩
 · exact ⟨rfl, h⟩
mutual
theorem stM_wf : ∀ (x : GStmt) (s : CSt) (d : Int), (stM vars kw s d x).fkind = 0 → s.fkind = 0 ∧ (stM vars kw s d x).locals = scp s.locals x ∧ wfS s.locals x
 | .mk kind line name name2 order place exprs thn els, s, d, h => by
  rw [stM] at h ⊢
  obtain ⟨b1, b2, b3⟩ := blM_wf els _ _ _ (Nat.le_refl _) h
  obtain ⟨a1, a2, a3⟩ := blM_wf thn _ _ _ (Nat.le_refl _) b1
  have b2' := b2.trans (show (List.take _ _) = _ from List.take_length)
  obtain ⟨c1, c2, c3, c4, c5, c6, c7⟩ := body_wf vars kw a1
  have a2' : (blM vars kw (bodyS vars kw s d (.mk kind line name name2 order place exprs thn els)) (bodyS vars kw s d (.mk kind line name name2 order place exprs thn els)).locals.length (w64 (d + 1)) thn).locals = scp s.locals (.mk kind line name name2 order place exprs thn els) := by
   rw [a2, List.take_length, c2]
  have b3' : wfB (blM vars kw (bodyS vars kw s d (.mk kind line name name2 order place exprs thn els)) (bodyS vars kw s d (.mk kind line name name2 order place exprs thn els)).locals.length (w64 (d + 1)) thn).locals els := b3
  rw [a2'] at b3'
  rw [c2] at a3
  obtain ⟨g1, g2, g3, g4, g5⟩ := form_parts c3
  refine ⟨c1, b2'.trans a2', ?_⟩
  rw [wfS]
  refine ⟨c4, c5, c6, g3, g4, c7, ?_, ?_⟩
  · by_cases hk : kind = 1
    · have : thn = [] := (g5 hk).1
      subst this
      rw [wfB]; trivial
    · have e : scp s.locals (.mk kind line name name2 order place exprs thn els) = s.locals := by unfold scp; rw [if_neg hk]
      rw [e] at a3; exact a3
  · by_cases hk : kind = 1
    · have : els = [] := (g5 hk).2
      subst this
      rw [wfB]; trivial
    · have e : scp s.locals (.mk kind line name name2 order place exprs thn els) = s.locals := by unfold scp; rw [if_neg hk]
      rw [e] at b3'; exact b3'
theorem blM_wf : ∀ (l : List GStmt) (s : CSt) (n : Nat) (d : Int), n ≤ s.locals.length → (blM vars kw s n d l).fkind = 0 → s.fkind = 0 ∧ (blM vars kw s n d l).locals = s.locals.take n ∧ wfB s.locals l
 | [], s, n, d, hn, h => by rw [blM] at h ⊢; rw [wfB]; exact ⟨h, rfl, trivial⟩
 | x :: r, s, n, d, hn, h => by
  rw [blM] at h ⊢
  by_cases hs : s.fkind ≠ 0
  · rw [if_pos hs, blM_bad vars kw hs] at h; exact absurd h hs
  · rw [if_neg hs] at h ⊢
    have hz : (stM vars kw (s.at x.line) d x).fkind = 0 := by
     by_cases q : (stM vars kw (s.at x.line) d x).fkind = 0
     · exact q
     · rw [blM_bad vars kw q] at h; exact absurd h q
    obtain ⟨q1, q2, q3⟩ := stM_wf x (s.at x.line) d hz
    have q2 : (stM vars kw (s.at x.line) d x).locals = scp s.locals x := q2
    obtain ⟨t1, t2⟩ := scp_take s.locals x hn
    obtain ⟨r1, r2, r3⟩ := blM_wf r (stM vars kw (s.at x.line) d x) n d (by rw [q2]; exact t2) h
    rw [q2] at r2 r3
    rw [wfB]
    exact ⟨by simpa using hs, r2.trans t1, q3, r3⟩
end
theorem prog_wf {p : GProg} (h : (progM kw p).2 = 0) : p.vars.length ≤ 32 ∧ ∀ t ∈ p.threads, wfB [] t := by
 unfold progM at h
 split at h
 · cases h
 · rename_i h1
   split at h
   · rename_i h2; exact absurd h h2
   · rw [thrsM_zero] at h
     refine ⟨by omega, fun t ht => ?_⟩
     exact (blM_wf p.vars kw t s0 0 1 (Nat.le_refl _) (h t ht)).2.2
end
end Rb

namespace Rb
open Go
structure RS.A (d : Int) (rest : List (Int × Int)) (s1 s2 : RS) : Prop where
 eq : s2 = { s1 with fuel := s1.fuel + d, ans := s1.ans ++ rest }
 d0 : 0 ≤ d
 fu : s1.stop = false → 0 ≤ s1.fuel ∧ s1.fuel + d ≤ 1000000
 em : s1.empty = true → s1.stop = true
structure RS.D (d : Int) (rest : List (Int × Int)) (s1 s2 : RS) : Prop where
 st : s1.stop = true
 pr : s1.pr <+: s2.pr
 em : s1.empty = true → 0 < d
 an : s1.empty = false → rest ≠ []
theorem RS.D.right {d : Int} {rest : List (Int × Int)} {s1 s2 s3 : RS} (h : RS.D d rest s1 s2) (hp : s2.pr <+: s3.pr) : RS.D d rest s1 s3 := ⟨h.st, h.pr.trans hp, h.em, h.an⟩
theorem RS.A.stop {d : Int} {rest : List (Int × Int)} {s1 s2 : RS} (h : RS.A d rest s1 s2) : s2.stop = s1.stop := by rw [h.eq]
theorem RS.A.locs {d : Int} {rest : List (Int × Int)} {s1 s2 : RS} (h : RS.A d rest s1 s2) : s2.locs = s1.locs := by rw [h.eq]
def Sm (d : Int) (rest : List (Int × Int)) (X : Prop) (s1 s2 : RS) : Prop := (RS.A d rest s1 s2 ∧ X) ∨ RS.D d rest s1 s2
section
variable {d : Int} {rest : List (Int × Int)}
theorem sm_burn {s1 s2 : RS} (h : RS.A d rest s1 s2) : Sm d rest True s1.burn s2.burn := by
 have he := h.eq
 cases hs : s1.stop with
 | true =>
  left
  have e1 : s1.burn = s1 := by unfold RS.burn; rw [if_pos hs]
  have e2 : s2.burn = s2 := by unfold RS.burn; rw [if_pos (by rw [h.stop]; exact hs)]
  rw [e1, e2]; exact ⟨h, trivial⟩
 | false =>
  obtain ⟨f0, f1⟩ := h.fu hs
  have hd := h.d0
  by_cases hf : s1.fuel < 1
  · have e1 : s1.burn = { s1 with stop := true, empty := true, fuel := w64 (s1.fuel - 1) } := by
      unfold RS.burn; rw [if_neg (by rw [hs]; decide), if_pos hf]
    by_cases hz : d = 0
    · left
      refine ⟨⟨?_, hd, fun e => (by rw [e1] at e; cases e), fun _ => (by rw [e1])⟩, trivial⟩
      rw [e1]
      unfold RS.burn
      rw [he]
      dsimp only
      rw [if_neg (by rw [hs]; decide), if_pos (by omega), hz, Int.add_zero, Int.add_zero]
    · right
      rw [e1]
      refine ⟨rfl, ?_, fun _ => (by omega), fun e => (by cases e)⟩
      rw [(Kp.burn s2).pr, he]
      exact List.prefix_refl _
  · left
    have e1 : s1.burn = { s1 with fuel := w64 (s1.fuel - 1) } := by
     unfold RS.burn; rw [if_neg (by rw [hs]; decide), if_neg hf]
    have w1 : w64 (s1.fuel - 1) = s1.fuel - 1 := w64_dec f0 (by omega)
    have w2 : w64 (s1.fuel + d - 1) = s1.fuel + d - 1 := w64_dec (by omega) f1
    refine ⟨⟨?_, hd, fun _ => ?_, fun e => ?_⟩, trivial⟩
    · rw [e1]
      unfold RS.burn
      rw [he]
      dsimp only
      rw [if_neg (by rw [hs]; decide), if_neg (by omega), w1, w2, show s1.fuel + d - 1 = s1.fuel - 1 + d by omega]
    · rw [e1]
      show 0 ≤ w64 (s1.fuel - 1) ∧ w64 (s1.fuel - 1) + d ≤ 1000000
      rw [w1]; omega
    · rw [e1] at e ⊢
      exact h.em e
theorem sm_ask {s1 s2 : RS} (h : RS.A d rest s1 s2) (w : WantM) : Sm d rest ((s1.ask w).2 = (s2.ask w).2) (s1.ask w).1 (s2.ask w).1 := by
 have he := h.eq
 cases hs : s1.stop with
 | true =>
  left
  have e1 : s1.ask w = (s1, 0, 0) := by unfold RS.ask; rw [if_pos hs]
  have e2 : s2.ask w = (s2, 0, 0) := by unfold RS.ask; rw [if_pos (by rw [h.stop]; exact hs)]
  rw [e1, e2]; exact ⟨h, rfl⟩
 | false =>
  have hem : s1.empty = false := by
   cases e : s1.empty with
   | false => rfl
   | true => rw [h.em e] at hs; cases hs
  have hs2 : s2.stop = false := by rw [h.stop]; exact hs
  cases ha : s1.ans with
  | nil =>
   have e1 : s1.ask w = ({ s1 with want := { w with line := s1.line }, stop := true }, 0, 0) := by unfold RS.ask; rw [if_neg (by rw [hs]; decide), ha]
   cases hr : rest with
   | nil =>
    left
    have ha2 : s2.ans = [] := by rw [he]; simp [ha, hr]
    have e2 : s2.ask w = ({ s2 with want := { w with line := s2.line }, stop := true }, 0, 0) := by unfold RS.ask; rw [if_neg (by rw [hs2]; decide), ha2]
    rw [e1, e2]
    refine ⟨⟨?_, h.d0, fun e => (by cases e), fun _ => rfl⟩, rfl⟩
    rw [he, hr]
   | cons y r =>
    right
    rw [e1]
    refine ⟨rfl, ?_, fun e => (by rw [show s1.empty = true from e] at hem; cases hem), fun _ e => (by cases e)⟩
    rw [(Kp.ask s2 w).pr, he]
    exact List.prefix_refl _
  | cons x r =>
   left
   have e1 : s1.ask w = ({ s1 with ans := r }, x.1, x.2) := by unfold RS.ask; rw [if_neg (by rw [hs]; decide), ha]
   have ha2 : s2.ans = x :: (r ++ rest) := by rw [he]; simp [ha]
   have e2 : s2.ask w = ({ s2 with ans := r ++ rest }, x.1, x.2) := by unfold RS.ask; rw [if_neg (by rw [hs2]; decide), ha2]
   rw [e1, e2]
   refine ⟨⟨?_, h.d0, h.fu, h.em⟩, rfl⟩
   rw [he]
variable (vars : List GVar)
mutual
theorem exR_sm : ∀ (e : GExpr) (a : Int) (s1 s2 : RS), RS.A d rest s1 s2 → Sm d rest ((exR vars e a s1).2 = (exR vars e a s2).2) (exR vars e a s1).1 (exR vars e a s2).1
 | .mk kind n name op order place kids, a, s1, s2, h => by
  have kp := exR_kp vars (.mk kind n name op order place kids) a s2
  rcases sm_burn h with ⟨hb, _⟩ | hb
  · rw [exR, exR]
    have hst := hb.stop
    by_cases hs : s1.burn.stop = true
    · rw [if_pos hs, if_pos (show s2.burn.stop = true by rw [hst]; exact hs)]
      exact .inl ⟨hb, rfl⟩
    rw [if_neg hs, if_neg (show ¬ s2.burn.stop = true by rw [hst]; exact hs)]
    by_cases k1 : kind = 1
    · rw [if_pos k1, if_pos k1]; exact .inl ⟨hb, rfl⟩
    rw [if_neg k1, if_neg k1]
    by_cases k2 : kind = 2
    · rw [if_pos k2, if_pos k2]
      refine .inl ⟨hb, ?_⟩
      show s1.burn.get name = s2.burn.get name
      unfold RS.get
      rw [hb.locs]
    rw [if_neg k2, if_neg k2]
    by_cases k3 : kind = 3
    · rw [if_pos k3, if_pos k3]
      rcases kidsR_sm kids a _ _ hb with ⟨h1, h2⟩ | h1
      · exact .inl ⟨h1, by show operM op _ _ = operM op _ _; rw [h2]⟩
      · exact .inr h1
    rw [if_neg k3, if_neg k3]
    rcases plR_sm place a _ _ hb with ⟨h1, h2⟩ | h1
    · rw [← h2]
      cases hp : (plR vars place a s1.burn).2 with
      | none => exact .inl ⟨h1, rfl⟩
      | some sp =>
       dsimp only
       rcases kidsR_sm kids (w64 (a + cntP place)) _ _ h1 with ⟨g1, g2⟩ | g1
       · rw [← g2]
         rcases sm_ask g1 (accW kind order sp (w64 (a + cntP place)) kids (kidsR vars kids (w64 (a + cntP place)) (plR vars place a s1.burn).1).2) with ⟨q1, q2⟩ | q1
         · exact .inl ⟨q1, by unfold bitV; rw [q2]⟩
         · exact .inr q1
       · right
         have e1 := (Kp.ask (kidsR vars kids (w64 (a + cntP place)) (plR vars place a s1.burn).1).1 (accW kind order sp (w64 (a + cntP place)) kids (kidsR vars kids (w64 (a + cntP place)) (plR vars place a s1.burn).1).2)).st g1.st
         show RS.D d rest (bitV sp _).1 (bitV sp _).1
         unfold bitV
         rw [e1]
         refine g1.right ?_
         rw [(Kp.ask _ _).pr]
         exact List.prefix_refl _
    · right
      have e1 : ∀ sp, (bitV sp ((kidsR vars kids (w64 (a + cntP place)) (plR vars place a s1.burn).1).1.ask (accW kind order sp (w64 (a + cntP place)) kids (kidsR vars kids (w64 (a + cntP place)) (plR vars place a s1.burn).1).2))).1 = (plR vars place a s1.burn).1 := fun sp => ((kidsR_kp vars kids _ _).trans (Kp.ask _ _)).st h1.st
      have e2 : ∀ sp, (bitV sp ((kidsR vars kids (w64 (a + cntP place)) (plR vars place a s2.burn).1).1.ask (accW kind order sp (w64 (a + cntP place)) kids (kidsR vars kids (w64 (a + cntP place)) (plR vars place a s2.burn).1).2))).1.pr = (plR vars place a s2.burn).1.pr := fun sp => ((kidsR_kp vars kids _ _).trans (Kp.ask _ _)).pr
      generalize (plR vars place a s1.burn).2 = o1
      generalize (plR vars place a s2.burn).2 = o2
      cases o1 <;> cases o2 <;> dsimp only
      · exact h1
      · exact h1.right (by rw [e2]; exact List.prefix_refl _)
      · rw [e1]; exact h1
      · rw [e1]; exact h1.right (by rw [e2]; exact List.prefix_refl _)
  · right
    have e1 : (exR vars (.mk kind n name op order place kids) a s1).1 = s1.burn := by rw [exR, if_pos hb.st]
    rw [e1]
    exact hb.right (by rw [kp.pr, (Kp.burn s2).pr]; exact List.prefix_refl _)
theorem kidsR_sm : ∀ (l : List GExpr) (a : Int) (s1 s2 : RS), RS.A d rest s1 s2 → Sm d rest ((kidsR vars l a s1).2 = (kidsR vars l a s2).2) (kidsR vars l a s1).1 (kidsR vars l a s2).1
 | [], a, s1, s2, h => by rw [kidsR, kidsR]; exact .inl ⟨h, rfl⟩
 | x :: r, a, s1, s2, h => by
  rw [kidsR, kidsR]
  rcases exR_sm x a s1 s2 h with ⟨h1, h2⟩ | h1
  · rcases kidsR_sm r (w64 (a + cntE x 0)) _ _ h1 with ⟨g1, g2⟩ | g1
    · exact .inl ⟨g1, by show _ :: _ = _ :: _; rw [h2, g2]⟩
    · exact .inr g1
  · right
    show RS.D d rest (kidsR vars r _ _).1 (kidsR vars r _ _).1
    rw [(kidsR_kp vars r _ _).st h1.st]
    exact h1.right (by rw [(kidsR_kp vars r _ _).pr]; exact List.prefix_refl _)
theorem plR_sm : ∀ (x : GPlace) (a : Int) (s1 s2 : RS), RS.A d rest s1 s2 → Sm d rest ((plR vars x a s1).2 = (plR vars x a s2).2) (plR vars x a s1).1 (plR vars x a s2).1
 | .mk var parts, a, s1, s2, h => by
  rw [plR, plR]
  rcases ptsR_sm (.mk var parts) parts 0 a [] s1 s2 h with ⟨h1, h2⟩ | h1
  · exact .inl ⟨h1, by show Option.map _ _ = Option.map _ _; rw [h2]⟩
  · exact .inr h1
theorem ptsR_sm (x : GPlace) : ∀ (l : List GPart) (k : Nat) (a : Int) (idx : List Int) (s1 s2 : RS), RS.A d rest s1 s2 → Sm d rest ((ptsR vars x l k a idx s1).2 = (ptsR vars x l k a idx s2).2) (ptsR vars x l k a idx s1).1 (ptsR vars x l k a idx s2).1
 | [], k, a, idx, s1, s2, h => by rw [ptsR, ptsR]; exact .inl ⟨h, rfl⟩
 | p :: r, k, a, idx, s1, s2, h => by
  rw [ptsR, ptsR]
  have hp := ptR_sm p a s1 s2 h
  cases h1 : ptR vars p a s1 with
  | none =>
   rw [h1] at hp
   rw [hp]
   exact ptsR_sm x r (k + 1) a idx s1 s2 h
  | some q1 =>
   rw [h1] at hp
   obtain ⟨q2, e2, hq⟩ := hp
   rw [e2]
   dsimp only
   rcases hq with ⟨g1, g2⟩ | g1
   · have hst := g1.stop
     by_cases hs : q1.1.stop = true
     · rw [if_pos hs, if_pos (show q2.1.stop = true by rw [hst]; exact hs)]
       exact .inl ⟨g1, rfl⟩
     rw [if_neg hs, if_neg (show ¬ q2.1.stop = true by rw [hst]; exact hs), ← g2]
     split
     · exact .inl ⟨⟨by rw [g1.eq], g1.d0, fun e => (by cases e), fun _ => rfl⟩, rfl⟩
     · exact ptsR_sm x r (k + 1) _ _ _ _ g1
   · right
     rw [if_pos g1.st]
     refine g1.right ?_
     split
     · exact List.prefix_refl _
     · split
       · exact List.prefix_refl _
       · rw [(ptsR_kp vars x r _ _ _ _).pr]; exact List.prefix_refl _
theorem ptR_sm : ∀ (p : GPart) (a : Int) (s1 s2 : RS), RS.A d rest s1 s2 → match ptR vars p a s1 with
  | none => ptR vars p a s2 = none
  | some q1 => ∃ q2, ptR vars p a s2 = some q2 ∧ Sm d rest (q1.2 = q2.2) q1.1 q2.1
 | .mk field index, a, s1, s2, h => by
  rw [ptR, ptR]
  exact hdR_sm index a s1 s2 h
theorem hdR_sm : ∀ (l : List GExpr) (a : Int) (s1 s2 : RS), RS.A d rest s1 s2 → match hdR vars l a s1 with
  | none => hdR vars l a s2 = none
  | some q1 => ∃ q2, hdR vars l a s2 = some q2 ∧ Sm d rest (q1.2 = q2.2) q1.1 q2.1
 | [], a, s1, s2, h => by rw [hdR, hdR]
 | e :: r, a, s1, s2, h => by
  rw [hdR, hdR]
  exact ⟨_, rfl, exR_sm e a s1 s2 h⟩
end
end
end Rb

namespace Rb
open Go
section
variable {d : Int} {rest : List (Int × Int)}
theorem RS.D.step {s1 s2 t1 t2 : RS} (h : RS.D d rest s1 s2) (k1 : Ks s1 t1) (k2 : Ks s2 t2) : RS.D d rest t1 t2 := by
 rw [k1.st h.st]
 exact h.right k2.pr
theorem RS.A.upd {s1 s2 : RS} (h : RS.A d rest s1 s2) (f : RS → RS) (hf : ∀ (s : RS) (g : Int) (a : List (Int × Int)), f { s with fuel := g, ans := a } = { f s with fuel := g, ans := a }) (h1 : ∀ s, (f s).fuel = s.fuel ∧ (f s).ans = s.ans ∧ (f s).stop = s.stop ∧ (f s).empty = s.empty) : RS.A d rest (f s1) (f s2) := by
 obtain ⟨e1, e2, e3, e4⟩ := h1 s1
 refine ⟨?_, h.d0, fun e => by rw [e3] at e; rw [e1]; exact h.fu e, fun e => by rw [e4] at e; rw [e3]; exact h.em e⟩
 rw [h.eq, hf, e1, e2]
variable (vars : List GVar)
theorem firstR_sm (l : List GExpr) (a : Int) (s1 s2 : RS) (h : RS.A d rest s1 s2) : Sm d rest ((firstR vars l a s1).2 = (firstR vars l a s2).2) (firstR vars l a s1).1 (firstR vars l a s2).1 := by
 unfold firstR
 cases l with
 | nil => exact .inl ⟨h, rfl⟩
 | cons e r => exact exR_sm vars e a s1 s2 h
theorem wrO_sm (sp : GSpot) (site : Int) {s1 s2 : RS} (h : RS.A d rest s1 s2) : Sm d rest ((wrO sp site s1).2 = (wrO sp site s2).2) (wrO sp site s1).1 (wrO sp site s2).1 := by
 unfold wrO
 split
 · exact sm_ask h _
 · exact .inl ⟨h, rfl⟩
theorem wrT_sm (exprs : List GExpr) (order a1 : Int) (sp : GSpot) {s1 s2 : RS} (h : RS.A d rest s1 s2) : Sm d rest True (wrT vars exprs order a1 sp s1) (wrT vars exprs order a1 sp s2) := by
 unfold wrT
 rcases kidsR_sm vars exprs a1 s1 s2 h with ⟨h1, h2⟩ | h1
 · rw [← h2]
   rcases wrO_sm sp (w64 (w64 (a1 + cntEs exprs 0) + 1)) h1 with ⟨g1, g2⟩ | g1
   · rw [← g2]
     rcases sm_ask g1 ⟨2, w64 (w64 (a1 + cntEs exprs 0) + 1), 0, sp, order, 0, wrD sp (wrO sp (w64 (w64 (a1 + cntEs exprs 0) + 1)) (kidsR vars exprs a1 s1).1).2.1 ((kidsR vars exprs a1 s1).2.getD 0 0), (kidsR vars exprs a1 s1).2.getD 1 0⟩ with ⟨q1, _⟩ | q1
     · exact .inl ⟨q1, trivial⟩
     · exact .inr q1
   · exact .inr (g1.step (Kp.ask _ _).ks (Kp.ask _ _).ks)
 · exact .inr (h1.step ((wrO_kp _ _ _).trans (Kp.ask _ _)).ks ((wrO_kp _ _ _).trans (Kp.ask _ _)).ks)
theorem wrR_sm (place : GPlace) (exprs : List GExpr) (order a : Int) {s1 s2 : RS} (h : RS.A d rest s1 s2) : Sm d rest True (wrR vars place exprs order a s1) (wrR vars place exprs order a s2) := by
 unfold wrR
 rcases plR_sm vars place a s1 s2 h with ⟨h1, h2⟩ | h1
 · rw [← h2]
   cases hp : (plR vars place a s1).2 with
   | none => exact .inl ⟨h1, trivial⟩
   | some sp => exact wrT_sm vars exprs order _ sp h1
 · right
   generalize (plR vars place a s1).2 = o1
   generalize (plR vars place a s2).2 = o2
   cases o1 <;> cases o2 <;> dsimp only
   · exact h1
   · exact h1.step (Ks.refl _) (wrT_kp vars _ _ _ _ _).ks
   · exact h1.step (wrT_kp vars _ _ _ _ _).ks (Ks.refl _)
   · exact h1.step (wrT_kp vars _ _ _ _ _).ks (wrT_kp vars _ _ _ _ _).ks
theorem put_upd (x : List UInt8) (v : Int) {s1 s2 : RS} (h : RS.A d rest s1 s2) : RS.A d rest (s1.put x v) (s2.put x v) := by
 refine h.upd (fun s => s.put x v) (fun s g a => ?_) (fun s => ?_)
 · show RS.put _ x v = _
   unfold RS.put
   dsimp only
   cases List.findIdx? (fun l => l.fst == x) s.locs <;> rfl
 · have e := put_same s x v
   exact ⟨e.2.1, e.2.2.2.1, e.2.2.1, e.2.2.2.2.2.2.2⟩
theorem ldU_sm (name name2 : List UInt8) {s1 s2 : RS} {g1 g2 : RS × Int × Int} (h : RS.A d rest g1.1 g2.1) (hv : g1.2 = g2.2) : Sm d rest True (ldU name name2 g1) (ldU name name2 g2) := by
 unfold ldU
 have hst := h.stop
 by_cases hs : g1.1.stop = true
 · rw [if_pos hs, if_pos (show g2.1.stop = true by rw [hst]; exact hs)]
   exact .inl ⟨h, trivial⟩
 · rw [if_neg hs, if_neg (show ¬ g2.1.stop = true by rw [hst]; exact hs), ← hv]
   exact .inl ⟨put_upd _ _ (put_upd _ _ h), trivial⟩
theorem ldR_sm (name name2 : List UInt8) (place : GPlace) (order a : Int) {s1 s2 : RS} (h : RS.A d rest s1 s2) : Sm d rest True (ldR vars name name2 place order a s1) (ldR vars name name2 place order a s2) := by
 unfold ldR
 rcases plR_sm vars place a s1 s2 h with ⟨h1, h2⟩ | h1
 · rw [← h2]
   cases hp : (plR vars place a s1).2 with
   | none => exact .inl ⟨h1, trivial⟩
   | some sp =>
    dsimp only
    rcases sm_ask h1 ⟨1, w64 (w64 (a + cntP place) + 1), 0, sp, order, 0, 0, 0⟩ with ⟨q1, q2⟩ | q1
    · exact ldU_sm name name2 (s1 := s1) (s2 := s2) q1 q2
    · exact .inr (q1.step (ldU_ks name name2 (Kp.refl _)) (ldU_ks name name2 (Kp.refl _)))
 · right
   generalize (plR vars place a s1).2 = o1
   generalize (plR vars place a s2).2 = o2
   cases o1 <;> cases o2 <;> dsimp only
   · exact h1
   · exact h1.step (Ks.refl _) (ldU_ks name name2 (Kp.ask _ _))
   · exact h1.step (ldU_ks name name2 (Kp.ask _ _)) (Ks.refl _)
   · exact h1.step (ldU_ks name name2 (Kp.ask _ _)) (ldU_ks name name2 (Kp.ask _ _))
theorem whR_sm {cond : RS → RS × Int} {body : RS → RS} (hc : ∀ s, Kp s (cond s).1) (hb : ∀ s, s.stop = false → Ks s (body s)) (sc : ∀ s1 s2, RS.A d rest s1 s2 → Sm d rest ((cond s1).2 = (cond s2).2) (cond s1).1 (cond s2).1)
  (sb : ∀ s1 s2, s1.stop = false → RS.A d rest s1 s2 → Sm d rest True (body s1) (body s2)) : ∀ (c : Nat) (s1 s2 : RS), RS.A d rest s1 s2 → Sm d rest True (whR cond body c s1) (whR cond body c s2)
 | 0, s1, s2, h => .inl ⟨h, trivial⟩
 | c + 1, s1, s2, h => by
  have whD : ∀ {t1 t2 : RS}, RS.D d rest t1 t2 → RS.D d rest (whR cond body c t1) (whR cond body c t2) := fun h => h.step (whR_ks hc hb c _) (whR_ks hc hb c _)
  rw [whR, whR]
  rcases sc s1 s2 h with ⟨h1, h2⟩ | h1
  · have hst := h1.stop
    by_cases hs : (cond s1).2 ≠ 0 ∧ (cond s1).1.stop = false
    · rw [if_pos hs, if_pos (show (cond s2).2 ≠ 0 ∧ (cond s2).1.stop = false by rw [← h2, hst]; exact hs)]
      rcases sb _ _ hs.2 h1 with ⟨g1, _⟩ | g1
      · exact whR_sm hc hb sc sb c _ _ g1
      · exact .inr (whD g1)
    · rw [if_neg hs, if_neg (show ¬ ((cond s2).2 ≠ 0 ∧ (cond s2).1.stop = false) by rw [← h2, hst]; exact hs)]
      exact .inl ⟨h1, trivial⟩
  · right
    rw [if_neg (fun e => by rw [h1.st] at e; cases e.2)]
    refine h1.right ?_
    split
    · rename_i hs
      exact ((hb _ hs.2).trans (whR_ks hc hb c _)).pr
    · exact List.prefix_refl _
variable (c : Nat)
theorem blR_stop (l : List GStmt) (a : Int) (n : Nat) (s : RS) (h : s.stop = true) : (blR vars c l a n s).pr = s.pr ∧ (blR vars c l a n s).stop = true ∧ (blR vars c l a n s).empty = s.empty := by
 cases l with
 | nil => rw [blR]; exact ⟨rfl, h, rfl⟩
 | cons y t => rw [blR, if_pos h]; exact ⟨rfl, h, rfl⟩
theorem blR_D (l : List GStmt) (a : Int) (n m : Nat) {s1 s2 : RS} (h : RS.D d rest s1 s2) : RS.D d rest (blR vars c l a n s1) (blR vars c l a m s2) := by
 obtain ⟨e1, e2, e3⟩ := blR_stop vars c l a n s1 h.st
 refine ⟨e2, ?_, by rw [e3]; exact h.em, by rw [e3]; exact h.an⟩
 rw [e1]
 cases hs : s2.stop with
 | true => rw [(blR_stop vars c l a m s2 hs).1]; exact h.pr
 | false => exact h.pr.trans (blR_ks vars c l a m s2 hs).1
mutual
theorem stR_sm : ∀ (x : GStmt) (a : Int) (s1 s2 : RS), RS.A d rest s1 s2 → Sm d rest True (stR vars c x a s1) (stR vars c x a s2)
 | .mk kind line name name2 order place exprs thn els, a, s1, s2, h => by
  have ks2 := stR_ks vars c (.mk kind line name name2 order place exprs thn els) a s2
  by_cases k3 : kind = 3 ∨ kind = 4 ∨ kind = 6
  · rw [stR, stR, if_pos k3, if_pos k3]
    exact wrR_sm vars place exprs order a h
  by_cases k5 : kind = 5
  · rw [stR, stR, if_neg k3, if_neg k3, if_pos k5, if_pos k5]
    exact ldR_sm vars name name2 place order a h
  by_cases k7 : kind = 7
  · rw [stR, stR, if_neg k3, if_neg k3, if_neg k5, if_neg k5, if_pos k7, if_pos k7]
    rcases sm_ask h ⟨4, w64 (a + 1), 0, spotZ, order, 0, 0, 0⟩ with ⟨q1, _⟩ | q1
    · exact .inl ⟨q1, trivial⟩
    · exact .inr q1
  by_cases k9 : kind = 9
  · rw [stR, stR, if_neg k3, if_neg k3, if_neg k5, if_neg k5, if_neg k7, if_neg k7, if_pos k9, if_pos k9]
    refine whR_sm (firstR_kp vars exprs a) (fun s hs => ?_) (fun t1 t2 ht => firstR_sm vars exprs a t1 t2 ht) (fun t1 t2 hts ht => ?_) c s1 s2 h
    · have hb := blR_ks vars c thn (w64 (a + cntEs exprs 0)) s.locs.length s hs
      exact ⟨hb.1, fun e => (by rw [hs] at e; cases e), hb.2⟩
    · rw [ht.locs]
      rcases blR_sm thn (w64 (a + cntEs exprs 0)) t1.locs.length t1 t2 ht with ⟨q1, _⟩ | q1
      · exact .inl ⟨q1.upd (fun s => { s with line := line }) (fun _ _ _ => rfl) (fun _ => ⟨rfl, rfl, rfl, rfl⟩), trivial⟩
      · exact .inr ⟨q1.st, q1.pr, q1.em, q1.an⟩
  rcases firstR_sm vars exprs a s1 s2 h with ⟨h1, h2⟩ | h1
  · rw [stR, stR, if_neg k3, if_neg k3, if_neg k5, if_neg k5, if_neg k7, if_neg k7, if_neg k9, if_neg k9]
    have hst := h1.stop
    by_cases hs : (firstR vars exprs a s1).1.stop = true
    · rw [if_pos hs, if_pos (show (firstR vars exprs a s2).1.stop = true by rw [hst]; exact hs)]
      exact .inl ⟨h1, trivial⟩
    rw [if_neg hs, if_neg (show ¬ (firstR vars exprs a s2).1.stop = true by rw [hst]; exact hs), ← h2]
    by_cases k1 : kind = 1
    · rw [if_pos k1, if_pos k1]
      exact .inl ⟨h1.upd (fun s => { s with locs := s.locs ++ [(name, (firstR vars exprs a s1).2)] }) (fun _ _ _ => rfl) (fun _ => ⟨rfl, rfl, rfl, rfl⟩), trivial⟩
    rw [if_neg k1, if_neg k1]
    by_cases k2 : kind = 2
    · rw [if_pos k2, if_pos k2]
      exact .inl ⟨put_upd _ _ h1, trivial⟩
    rw [if_neg k2, if_neg k2]
    by_cases k10 : kind = 10
    · rw [if_pos k10, if_pos k10]
      exact .inl ⟨h1.upd (fun s => { s with pr := s.pr ++ [(firstR vars exprs a s1).2] }) (fun _ _ _ => rfl) (fun _ => ⟨rfl, rfl, rfl, rfl⟩), trivial⟩
    rw [if_neg k10, if_neg k10, h1.locs]
    by_cases hv : (firstR vars exprs a s1).2 ≠ 0
    · rw [if_pos hv, if_pos hv]
      exact blR_sm thn _ _ _ _ h1
    · rw [if_neg hv, if_neg hv]
      exact blR_sm els _ _ _ _ h1
  · right
    have e1 : stR vars c (.mk kind line name name2 order place exprs thn els) a s1 = (firstR vars exprs a s1).1 := by
     rw [stR, if_neg k3, if_neg k5, if_neg k7, if_neg k9, if_pos h1.st]
    rw [e1]
    refine ⟨h1.st, ?_, h1.em, h1.an⟩
    rw [(firstR_kp vars exprs a s1).pr]
    have : s1.pr = s2.pr := by rw [h.eq]
    rw [this]
    exact ks2.pr
theorem blR_sm : ∀ (l : List GStmt) (a : Int) (n : Nat) (s1 s2 : RS), RS.A d rest s1 s2 → Sm d rest True (blR vars c l a n s1) (blR vars c l a n s2)
 | [], a, n, s1, s2, h => by
  rw [blR, blR]
  exact .inl ⟨h.upd (fun s => { s with locs := s.locs.take n }) (fun _ _ _ => rfl) (fun _ => ⟨rfl, rfl, rfl, rfl⟩), trivial⟩
 | x :: r, a, n, s1, s2, h => by
  rw [blR, blR]
  have hst := h.stop
  by_cases hs : s1.stop = true
  · rw [if_pos hs, if_pos (show s2.stop = true by rw [hst]; exact hs)]
    exact .inl ⟨h, trivial⟩
  · rw [if_neg hs, if_neg (show ¬ s2.stop = true by rw [hst]; exact hs)]
    have hl := h.upd (fun s => { s with line := x.line }) (fun _ _ _ => rfl) (fun _ => ⟨rfl, rfl, rfl, rfl⟩)
    rcases sm_burn hl with ⟨hb, _⟩ | hb
    · rcases stR_sm x a _ _ hb with ⟨g1, _⟩ | g1
      · exact blR_sm r _ n _ _ g1
      · exact .inr (blR_D vars c r _ n n g1)
    · exact .inr (blR_D vars c r _ n n (hb.step (stR_ks vars c x a _) (stR_ks vars c x a _)))
end
end
theorem next_fuel (vars : List GVar) (c : Nat) (l : List GStmt) (ans : List (Int × Int)) {f d : Int} (h0 : 0 ≤ f) (hd : 0 ≤ d) (h1 : f + d ≤ 1000000) (he : (nextR vars c l ans f).2.2.2 = 0) : nextR vars c l ans (f + d) = nextR vars c l ans f := by
 have hA : RS.A d [] (RS.init ans f) (RS.init ans (f + d)) := ⟨by simp [RS.init], hd, fun _ => ⟨h0, h1⟩, fun e => (by cases e)⟩
 have hem : (blR vars c l 0 0 (RS.init ans f)).empty = false := by
  unfold nextR at he
  dsimp only at he
  cases e : (blR vars c l 0 0 (RS.init ans f)).empty with
  | false => rfl
  | true => rw [if_pos e] at he; cases he
 rcases blR_sm vars c l 0 0 _ _ hA with ⟨g, _⟩ | g
 · unfold nextR
   dsimp only
   rw [g.eq]
 · exact absurd rfl (g.an hem)
theorem next_ans (vars : List GVar) (c : Nat) (l : List GStmt) (ans rest : List (Int × Int)) {f : Int} (h0 : 0 ≤ f) (h1 : f ≤ 1000000) (he : (nextR vars c l (ans ++ rest) f).2.2.2 = 0) : (nextR vars c l ans f).2.2.2 = 0 ∧ (nextR vars c l ans f).2.2.1 <+: (nextR vars c l (ans ++ rest) f).2.2.1 := by
 have hA : RS.A 0 rest (RS.init ans f) (RS.init (ans ++ rest) f) := ⟨by simp [RS.init], Int.le_refl _, fun _ => ⟨h0, (by show f + 0 ≤ 1000000; omega)⟩, fun e => (by cases e)⟩
 have hem : (blR vars c l 0 0 (RS.init (ans ++ rest) f)).empty = false := by
  unfold nextR at he
  dsimp only at he
  cases e : (blR vars c l 0 0 (RS.init (ans ++ rest) f)).empty with
  | false => rfl
  | true => rw [if_pos e] at he; cases he
 have val : ∀ s : RS, s.empty = false → (if s.empty = true then (wantZ, (0 : Int), ([] : List Int), (16 : Int)) else if s.stop = false then (s.want, 1, s.pr, 0) else (s.want, s.fin, s.pr, 0)).2.2 = (s.pr, 0) := by
  intro s hs
  rw [if_neg (by rw [hs]; decide)]
  split <;> rfl
 have e1 : ∀ a, (blR vars c l 0 0 (RS.init a f)).empty = false → (nextR vars c l a f).2.2 = ((blR vars c l 0 0 (RS.init a f)).pr, 0) := fun a h => val _ h
 rcases blR_sm vars c l 0 0 _ _ hA with ⟨g, _⟩ | g
 · have hem1 : (blR vars c l 0 0 (RS.init ans f)).empty = false := by
     have := g.eq
     rw [this] at hem
     exact hem
   rw [e1 _ hem1, e1 _ hem, g.eq]
   exact ⟨rfl, List.prefix_refl _⟩
 · have hem1 : (blR vars c l 0 0 (RS.init ans f)).empty = false := by
     cases e : (blR vars c l 0 0 (RS.init ans f)).empty with
     | false => rfl
     | true => exact absurd (g.em e) (by decide)
   rw [e1 _ hem1, e1 _ hem]
   exact ⟨rfl, g.pr⟩
end Rb

namespace Rb
open Go
def nextP (kw : List UInt8 → Bool) (c : Nat) (p : GProg) (n : Int) (ans : List (Int × Int)) (fuel : Int) : WantM × Int × List Int × Int :=
 if (progM kw p).2 ≠ 0 then (wantZ, 0, [], (progM kw p).2)
 else if n < 0 ∨ n ≥ p.threads.length then (wantZ, 0, [], 1)
 else match p.threads[n.toNat]? with
 | some t => nextR p.vars c t ans fuel
 | none => (wantZ, 0, [], 1)
section
variable {C : Ctx} (hGT : GTok C) (hT : Cl (ACall C) S.tab_Chk) {kw : List UInt8 → Bool} (hkw : ∀ x, Val (ACall C) K.f72 [.str x] (.bool (kw x)))
include hGT hT
theorem next_ok {c : Nat} (hc : 1000000 < c) {p : GProg} (hp : p.ok) (hvl : p.vars.length ≤ 1000000) {k : Nat} {t : List GStmt} (ht : p.threads[k]? = some t) (hwf : wfB [] t) {ans : List (Int × Int)} (ha : ∀ x ∈ ans, u64ok x.1 ∧ u64ok x.2) {fuel : Int} (f0 : 0 ≤ fuel) (f1 : fuel ≤ 1000000) {H : AH} {Q : Post}
  (hQ : ∀ ox H', FrS H.n H H' → U64s ox (nextR p.vars c t ans fuel).2.2.1 → (nextR p.vars c t ans fuel).2.2.1.length ≤ 1000000 → Q (.tup [.agg (nextR p.vars c t ans fuel).1.cells, .int .i64 (nextR p.vars c t ans fuel).2.1, ox, .int .i64 (nextR p.vars c t ans fuel).2.2.2]) H') : ACall C K.f19 [.agg p.cells, .int .i64 k, lstA ansC ans, .int .i64 fuel] H Q := by
 obtain ⟨⟨hvm, hv⟩, htl, hth⟩ := hp
 obtain ⟨hlen, hst⟩ := hth t (List.mem_of_getElem? ht)
 have hlt := (List.getElem?_eq_some_iff.1 ht).1
 refine S.cl_f19 hT ?_
 unfold S.f19
 have hbox : aboxv H false 2 (.agg p.cells) = some (.fptr p.cells, H) := by unfold aboxv; rw [if_pos ⟨rfl, rfl⟩]; rfl
 have pl0 : ∀ H, aload H 1 false (.fptr (p.cells.drop 0)) = some (lstA GVar.cells p.vars) := fun _ => rfl
 have pl1 : ∀ H, aload H 1 false (.fptr (p.cells.drop 1)) = some (lstA thrCells p.threads) := fun _ => rfl
 have hab : abuild [.lst .nil 0 [], .lst .nil 0 [], .lst .nil 0 [], .lst .nil 0 [], .int .i64 0, .int .i64 0, .int .i64 0, .int .i64 0, .int .i64 0, .int .i64 0, .int .i64 0, .int .i64 0, .int .i64 0, .bool false, .int .i64 0, .int .i64 0, .int .i64 0, .int .i64 0, .int .u64 0, .int .u64 0, .bool false, .bool false] [(0, 1, lstA GVar.cells p.vars), (1, 1, lstA ansC ans), (5, 1, .int .i64 fuel)] = some (.agg (rmC p.vars (RS.init ans fuel) (.lst .nil 0 []) (.lst .nil 0 []))) := rfl
 simp only [hbox, DoH_some, abox, if_true, afaddr, Do_of, pl0, hab]
 have x1 := At.new H (.row wantZ.cells)
 have fr1 : FrS H.n H (H.push (.row wantZ.cells)) := ⟨Nat.le_succ _, fun j o _ h => h.push _⟩
 have n1 : (H.push (.row wantZ.cells)).n = H.n + 1 := rfl
 change DoH (aboxv (H.push (.row wantZ.cells)) true 22 _) _
 generalize H.push (.row wantZ.cells) = H1 at *
 have hb : aboxv H1 true 22 (.agg (rmC p.vars (RS.init ans fuel) (.lst .nil 0 []) (.lst .nil 0 []))) = some (.ptr H1.n 0, H1.push (.row (rmC p.vars (RS.init ans fuel) (.lst .nil 0 []) (.lst .nil 0 [])))) := by unfold aboxv; rw [if_pos ⟨rfl, rfl⟩]; rfl
 rw [hb]
 simp only [DoH_some, pl1, Do_of]
 have r2 := At.new H1 (.row (rmC p.vars (RS.init ans fuel) (.lst .nil 0 []) (.lst .nil 0 [])))
 have x2 := x1.push (.row (rmC p.vars (RS.init ans fuel) (.lst .nil 0 []) (.lst .nil 0 [])))
 have fr2 := fr1.trans (show FrS H.n H1 (H1.push (.row (rmC p.vars (RS.init ans fuel) (.lst .nil 0 []) (.lst .nil 0 [])))) from ⟨Nat.le_succ _, fun j o _ h => h.push _⟩)
 generalize H1.push (.row (rmC p.vars (RS.init ans fuel) (.lst .nil 0 []) (.lst .nil 0 []))) = H2 at *
 rw [lstA_addr hlt]
 simp only [Do_of]
 have hld : aload H2 1 false (elA thrCells 1 p.threads k) = some (lstA GStmt.cells t) := one_load (c := fun l => lstA GStmt.cells l) H2 ht
 rw [hld]
 simp only [Do_of]
 have hm := i64max
 have h2 : RunS H2 H1.n p.vars [] (RS.init ans fuel) (.lst .nil 0 []) (.lst .nil 0 []) :=
  ⟨⟨r2, .inl ⟨rfl, rfl⟩, ⟨ha, fun l hl => by cases hl⟩, by show ([] : List (List UInt8 × Int)).length ≤ _; simp, fun _ => rfl, fun _ => ⟨f0, by show fuel + ((0 : Nat) : Int) ≤ _; simpa using f1, by show fuel + ((0 : Nat) : Int) ≤ _; simpa using f1⟩, by show ([] : List Int).length ≤ _; simp⟩, OwnT.nil _ _ _, fun j c d e q => by cases q⟩
 refine block_ok hGT hT hvl hv hc (by omega) hst [] hwf 0 _ _ _ H2 _ h2 fun lx px H3 f3 h3 => ?_
 have x3 := f3.2 H.n _ (by omega) x2
 have fr3 : FrS H.n H H3 := fr2.trans ⟨f3.1, fun j o hj h => f3.2 j o (by omega) h⟩
 have hnx : nextR p.vars c t ans fuel = (if (blR p.vars c t 0 0 (RS.init ans fuel)).empty = true then (wantZ, 0, [], 16) else if (blR p.vars c t 0 0 (RS.init ans fuel)).stop = false then ((blR p.vars c t 0 0 (RS.init ans fuel)).want, 1, (blR p.vars c t 0 0 (RS.init ans fuel)).pr, 0) else ((blR p.vars c t 0 0 (RS.init ans fuel)).want, (blR p.vars c t 0 0 (RS.init ans fuel)).fin, (blR p.vars c t 0 0 (RS.init ans fuel)).pr, 0)) := rfl
 rw [hnx] at hQ
 have h3 : RunS H3 H1.n p.vars [] (blR p.vars c t 0 0 (RS.init ans fuel)) lx px := h3
 generalize blR p.vars c t 0 0 (RS.init ans fuel) = s at *
 simp only [anilck, afaddr, Nat.zero_add, rm_empty h3.m.row, Do_of, Gd_true]
 refine ite_both (fun he => ?_) (fun he => ?_)
 · rw [if_pos he] at hQ
   rw [show abuild [.int .i64 0, .int .i64 0, .int .i64 0, .int .i64 0, .int .i64 0, .int .i64 0, .bool false, .int .i64 0, .int .i64 0, .int .i64 0, .int .i64 0, .int .u64 0, .int .u64 0] [] = some (.agg wantZ.cells) from rfl]
   simp only [Do_of]
   rw [x3.store, if_pos ⟨rfl, rfl, rfl, (by decide : 0 + 13 ≤ 13)⟩]
   simp only [Do_of]
   have x4 : At (H3.set H.n (.row wantZ.cells)) H.n (.row wantZ.cells) := x3.set _
   change Do (aload (H3.set H.n (.row wantZ.cells)) 13 true (.ptr H.n 0)) _
   rw [want_load x4]
   simp only [Do_of]
   exact hQ _ _ (fr3.trans (FrS.set (Nat.le_refl _) _)) ⟨.nil, rfl⟩ (by simp)
 rw [if_neg he] at hQ
 obtain ⟨tk, hpx, _, _⟩ := h3.p
 have fin : ∀ (H4 : AH) (fn : Int), FrS H.n H H4 → At H4 H1.n (.row (rmC p.vars { s with fin := fn } lx px)) → At H4 H.n (.row wantZ.cells) → (∀ ox H', FrS H.n H H' → U64s ox s.pr → s.pr.length ≤ 1000000 → Q (.tup [.agg s.want.cells, .int .i64 fn, ox, .int .i64 0]) H') → S.f19_k1 (ACall C) (.ptr H.n 0) (.ptr H1.n 0) Q [] H4 := by
  intro H4 fn f4 r4 x4 hq
  unfold S.f19_k1
  simp only [anilck, afaddr, Nat.zero_add, rm_want r4, rm_fin r4, rm_pr r4, Do_of]
  rw [x4.store, if_pos ⟨rfl, rfl, rfl, (by decide : 0 + 13 ≤ 13)⟩]
  simp only [Do_of]
  have x5 : At (H4.set H.n (.row s.want.cells)) H.n (.row s.want.cells) := x4.set _
  have r5 := r4.set_ne (i := H.n) (by omega) (.row s.want.cells)
  change aload (H4.set H.n (.row s.want.cells)) 1 false (.ptr H1.n 6) = _ ∧ aload (H4.set H.n (.row s.want.cells)) 1 false (.ptr H1.n 3) = _ ∧ Do (aload (H4.set H.n (.row s.want.cells)) 13 true (.ptr H.n 0)) _
  refine ⟨rm_fin r5, rm_pr r5, ?_⟩
  rw [want_load x5]
  simp only [Do_of]
  exact hq px _ (f4.trans (FrS.set (Nat.le_refl _) _)) ⟨tk, hpx⟩ h3.m.pl
 simp only [rm_stop h3.m.row, Do_of, aun_not, Gd_true, JoinP_def]
 refine ite_both (fun hs => ?_) (fun hs => ?_)
 · have hs' : s.stop = false := by simpa using hs
   rw [if_pos hs'] at hQ
   rw [rm_sfin h3.m.row]
   simp only [Do_of]
   exact fin _ 1 (fr3.trans (FrS.set (by omega) _)) (h3.m.row.set _) (x3.set_ne (by omega) _) hQ
 · rw [if_neg (fun q => hs (by rw [q]; rfl))] at hQ
   exact fin H3 s.fin fr3 h3.m.row x3 hQ
include hkw
theorem Next_ok {c : Nat} (hc : 1000000 < c) {p : GProg} (hp : p.ok) (n : Int) {ans : List (Int × Int)} (ha : ∀ x ∈ ans, u64ok x.1 ∧ u64ok x.2) {fuel : Int} (f0 : 0 ≤ fuel) (f1 : fuel ≤ 1000000) {H : AH} {Q : Post}
  (hQ : ∀ ox H', FrS H.n H H' → U64s ox (nextP kw c p n ans fuel).2.2.1 → (nextP kw c p n ans fuel).2.2.1.length ≤ 1000000 → Q (.tup [.agg (nextP kw c p n ans fuel).1.cells, .int .i64 (nextP kw c p n ans fuel).2.1, ox, .int .i64 (nextP kw c p n ans fuel).2.2.2]) H') : ACall C K.f6 [.agg p.cells, .int .i64 n, lstA ansC ans, .int .i64 fuel] H Q := by
 have htl := hp.2.1
 have hm := i64max
 refine S.cl_f6 hT ?_
 unfold S.f6
 unfold nextP at hQ
 have hbox : aboxv H false 2 (.agg p.cells) = some (.fptr p.cells, H) := by unfold aboxv; rw [if_pos ⟨rfl, rfl⟩]; rfl
 have pl1 : ∀ H, aload H 1 false (.fptr (p.cells.drop 1)) = some (lstA thrCells p.threads) := fun _ => rfl
 have pall : ∀ H, aload H 2 true (.fptr p.cells) = some (.agg p.cells) := fun _ => takeCells_whole rfl
 have zb : abuild [.int .i64 0, .int .i64 0, .int .i64 0, .int .i64 0, .int .i64 0, .int .i64 0, .bool false, .int .i64 0, .int .i64 0, .int .i64 0, .int .i64 0, .int .u64 0, .int .u64 0] [] = some (.agg wantZ.cells) := rfl
 simp only [hbox, DoH_some, abox, if_true, afaddr, Do_of, pall]
 have x1 := At.new H (.row wantZ.cells)
 have fr1 : FrS H.n H (H.push (.row wantZ.cells)) := ⟨Nat.le_succ _, fun j o _ h => h.push _⟩
 have n1 : (H.push (.row wantZ.cells)).n = H.n + 1 := rfl
 change ACall C K.f18 _ (H.push (.row wantZ.cells)) _
 generalize H.push (.row wantZ.cells) = H1 at *
 refine prog_val hGT hT hkw p hp _ _ ?_
 simp only [progV, DoH_some]
 rw [store_new H1 _ [.int .i64 (progM kw p).1, .int .i64 (progM kw p).2] 2 rfl rfl rfl]
 have e2 := At.new H1 (.row [.int .i64 (progM kw p).1, .int .i64 (progM kw p).2])
 have x2 := x1.push (.row [.int .i64 (progM kw p).1, .int .i64 (progM kw p).2])
 have fr2 := fr1.trans (show FrS H.n H1 (H1.push (.row [.int .i64 (progM kw p).1, .int .i64 (progM kw p).2])) from ⟨Nat.le_succ _, fun j o _ h => h.push _⟩)
 have n2 : (H1.push (.row [.int .i64 (progM kw p).1, .int .i64 (progM kw p).2])).n = H1.n + 1 := rfl
 generalize H1.push (.row [.int .i64 (progM kw p).1, .int .i64 (progM kw p).2]) = H2 at *
 have l2 : ∀ H', At H' H1.n (.row [.int .i64 (progM kw p).1, .int .i64 (progM kw p).2]) → aload H' 1 false (.ptr H1.n 1) = some (.int .i64 (progM kw p).2) := fun H' ha => by rw [ha.load]; rfl
 simp only [Do_of, afaddr, Nat.zero_add, l2 H2 e2, abin_neq, Gd_true]
 have ret : ∀ (w : WantM) (H4 : AH) (K : AV → AH → Prop), FrS H.n H H4 → At H4 H.n (.row wantZ.cells) → (∀ H5, FrS H.n H H5 → (∀ o, At H4 H1.n o → At H5 H1.n o) → K (.agg w.cells) H5) → Do (astore H4 13 (.ptr H.n 0) (.agg w.cells)) fun H5 => Do (aload H5 13 true (.ptr H.n 0)) fun x => K x H5 := by
  intro w H4 K f4 x4 hk
  rw [x4.store, if_pos ⟨rfl, rfl, rfl, (by decide : 0 + 13 ≤ 13)⟩]
  simp only [Do_of]
  have x5 : At (H4.set H.n (.row w.cells)) H.n (.row w.cells) := x4.set _
  change Do (aload (H4.set H.n (.row w.cells)) 13 true (.ptr H.n 0)) _
  rw [want_load x5]
  simp only [Do_of]
  exact hk _ (f4.trans (FrS.set (Nat.le_refl _) _)) (fun o ho => ho.set_ne (by omega) _)
 refine ite_both (fun h => ?_) (fun h => ?_)
 · rw [if_pos (by simpa using h)] at hQ
   rw [zb]
   simp only [Do_of, l2 H2 e2]
   rw [x2.store, if_pos ⟨rfl, rfl, rfl, (by decide : 0 + 13 ≤ 13)⟩]
   simp only [Do_of]
   have x5 : At (H2.set H.n (.row wantZ.cells)) H.n (.row wantZ.cells) := x2.set _
   have e5 := e2.set_ne (i := H.n) (by omega) (.row wantZ.cells)
   change aload (H2.set H.n (.row wantZ.cells)) 1 false (.ptr H1.n 1) = _ ∧ Do (aload (H2.set H.n (.row wantZ.cells)) 13 true (.ptr H.n 0)) _
   refine ⟨l2 _ e5, ?_⟩
   rw [want_load x5]
   simp only [Do_of]
   exact hQ _ _ (fr2.trans (FrS.set (Nat.le_refl _) _)) ⟨.nil, rfl⟩ (by simp)
 rw [if_neg (by simpa using h)] at hQ
 have hz : (progM kw p).2 = 0 := by simpa using h
 obtain ⟨hv32, hwf⟩ := prog_wf kw hz
 have k2 : ∀ b : Bool, (b = true ↔ (n < 0 ∨ n ≥ p.threads.length)) → S.f6_k2 (ACall C) (.int .i64 n) (lstA ansC ans) (.int .i64 fuel) (.fptr p.cells) (.ptr H.n 0) Q [.bool b] H2 := by
  intro b hb
  unfold S.f6_k2
  simp only [sl_zero, Gd_true]
  refine ite_both (fun h => ?_) (fun h => ?_)
  · rw [if_pos (hb.1 h)] at hQ
    rw [zb]
    simp only [Do_of]
    refine ret wantZ H2 _ fr2 x2 fun H5 f5 _ => ?_
    exact hQ _ _ f5 ⟨.nil, rfl⟩ (by simp)
  · have hn : ¬ (n < 0 ∨ n ≥ p.threads.length) := fun q => h (hb.2 q)
    rw [if_neg hn] at hQ
    have hlt : n.toNat < p.threads.length := by omega
    have hge : p.threads[n.toNat]? = some p.threads[n.toNat] := List.getElem?_eq_getElem hlt
    rw [hge] at hQ
    dsimp only at hQ
    have hnn : n = ((n.toNat : Nat) : Int) := by omega
    simp only [JoinP_def, S.f6_k1, pall, Do_of]
    rw [hnn]
    refine next_ok hGT hT hc hp (by omega) hge (hwf _ (List.getElem_mem hlt)) ha f0 f1 fun ox H5 f5 ho hol => ?_
    simp only [aextract, List.getElem?_cons_zero, List.getElem?_cons_succ, Do_of]
    refine ret _ H5 _ (fr2.trans ⟨f5.1, fun j o hj ho => f5.2 j o (by omega) ho⟩) (f5.2 _ _ (by omega) x2) fun H6 f6 _ => ?_
    exact hQ ox H6 f6 ho hol
 simp only [abin_lss, Do_of, Gd3_false]
 refine ite_boolf (fun h => ?_) (fun h => ?_)
 · simp only [pl1, Do_of, lstA_len', abin_geq, JoinP_def]
   refine k2 _ ?_
   simp only [decide_eq_true_eq, decide_eq_false_iff_not] at h ⊢
   omega
 · refine k2 true ⟨fun _ => .inl ?_, fun _ => rfl⟩
   simpa using h
end
end Rb

namespace Rb
open Go
theorem want_eq (w : WantM) : aeqAgg true [.n, .n, .n, .n, .n, .n, .b, .n, .n, .n, .n, .n, .n] (.agg w.cells) (.agg w.cells) = some (.bool false) := by
 simp [aeqAgg, eqCells, WantM.cells, GSpot.cells]
theorem U64s.take {ax : AV} {xs : List Int} (h : U64s ax xs) {n : Nat} (hn : n ≤ xs.length) : ∃ y, aslice 1 ax none (some (.int .i64 n)) none = some y ∧ U64s y (xs.take n) := by
 obtain ⟨tk, rfl⟩ := h
 have hl : (xs.take n).length = n := by rw [List.length_take]; omega
 simp only [aslice, abound, Option.map_none]
 rw [if_pos (by omega)]
 simp only [Int.toNat_natCast]
 rw [if_pos ⟨Nat.zero_le _, hn, by simp⟩]
 by_cases e : n = xs.length
 · subst e
   rw [if_pos ⟨trivial, rfl⟩]
   exact ⟨_, rfl, tk, by rw [List.take_length]⟩
 · rw [if_neg (fun q => e q.2), if_pos trivial]
   cases tk <;> exact ⟨_, rfl, _, by rw [hl, Nat.sub_zero, Nat.zero_mul, List.drop_zero, Nat.mul_one, List.map_take]⟩
theorem u64_addr {xs : List Int} {k : Nat} {v : Int} {tk : Tok} (h : xs[k]? = some v) : ∃ p, aiaddr none 1 (.lst tk xs.length (xs.map (AV.int .u64))) (.int .i64 k) = some p ∧ ∀ H, aload H 1 false p = some (.int .u64 v) := by
 have hlt := (List.getElem?_eq_some_iff.1 h).1
 refine ⟨.fptr ((xs.map (AV.int .u64)).drop (k * 1)), ?_, fun H => ?_⟩
 · show (if 0 ≤ (k : Int) ∧ (k : Int) < (xs.length : Nat) then some (AV.fptr ((xs.map (AV.int .u64)).drop ((k : Int).toNat * 1))) else none) = _
   rw [if_pos ⟨by omega, by omega⟩, Int.toNat_natCast]
 · show takeCells ((xs.map (AV.int .u64)).drop (k * 1)) 0 1 false = _
   unfold takeCells
   rw [if_pos (by simp; omega)]
   simp [List.getElem?_drop, h]
section
variable {C : Ctx} (hGT : GTok C) (hT : Cl (ACall C) S.tab_Chk) {kw : List UInt8 → Bool} (hkw : ∀ x, Val (ACall C) K.f72 [.str x] (.bool (kw x))) (haw : Val (ACall C) K.f8 [] (.bool true))
include hGT hT
theorem Same_ok {ax bx : AV} {xs : List Int} (ha : U64s ax xs) (hb : U64s bx xs) (hl : xs.length ≤ 9223372036854775807) {H : AH} {Q : Post} (hQ : Q (.bool true) H) : ACall C K.f12 [ax, bx] H Q := by
 obtain ⟨t1, rfl⟩ := ha
 obtain ⟨t2, rfl⟩ := hb
 refine S.cl_f12 hT ?_
 unfold S.f12
 have al : ∀ tk, alen false (.lst tk xs.length (xs.map (AV.int .u64))) = some (.int .i64 xs.length) := fun _ => rfl
 simp only [al, Do_of, abin_neq, Gd_true]
 rw [if_neg (by simp)]
 have main : ∀ (r : List Int) (k : Nat), xs.drop k = r → LoopP (S.f12_l1 (ACall C) (.lst t1 xs.length (xs.map (AV.int .u64))) (.lst t2 xs.length (xs.map (AV.int .u64))) Q) ([.int .i64 k], H) := by
  intro r
  induction r with
  | nil =>
   intro k hd
   have hle := drop_nil_le hd
   refine LoopP.step ?_
   simp only [S.f12_l1, al, Do_of, sl_zero, abin_lss, Gd_true]
   rw [if_neg (by simp only [decide_eq_true_eq]; omega)]
   exact hQ
  | cons x r ih =>
   intro k hd
   obtain ⟨hlt, hx, hd'⟩ := drop_cons_lt hd
   obtain ⟨p1, e1, l1⟩ := u64_addr (tk := t1) hx
   obtain ⟨p2, e2, l2⟩ := u64_addr (tk := t2) hx
   refine LoopP.step ?_
   simp only [S.f12_l1, al, Do_of, sl_zero, abin_lss, Gd_true]
   rw [if_pos (by simp only [decide_eq_true_eq]; omega)]
   simp only [e1, e2, l1, l2, Do_of, abin_neq, Gd_true, abin_add]
   rw [if_neg (by simp), wrap_i64 (by omega) (by omega), show (k : Int) + 1 = ((k + 1 : Nat) : Int) by simp]
   exact ih (k + 1) hd'
 exact main xs 0 rfl
include hkw haw
theorem SrcFuel_spec {p : GProg} (hp : p.ok) (n : Int) {ans : List (Int × Int)} (hal : ans.length ≤ 9223372036854775807) (ha : ∀ x ∈ ans, u64ok x.1 ∧ u64ok x.2) {f m : Int} (f0 : 0 ≤ f) (f1 : f ≤ 65535) (m0 : 0 ≤ m) (m1 : m ≤ 65535) {H : AH} {Q : Post} (hQ : ∀ H', Q (.bool true) H') : S.f5 (ACall C) (.agg p.cells) (.int .i64 n) (lstA ansC ans) (.int .u16 f) (.int .u16 m) H Q := by
 have hbox : aboxv H false 2 (.agg p.cells) = some (.fptr p.cells, H) := by unfold aboxv; rw [if_pos ⟨rfl, rfl⟩]; rfl
 have pall : ∀ H, aload H 2 true (.fptr p.cells) = some (.agg p.cells) := fun _ => takeCells_whole rfl
 have ft : f.tmod 2000 = f % 2000 := Int.tmod_eq_emod_of_nonneg f0
 have mt : m.tmod 2000 = m % 2000 := Int.tmod_eq_emod_of_nonneg m0
 have wf : IntKind.wrap .i64 (f % 2000) = f % 2000 := wrap_i64 (by omega) (by omega)
 have wm : IntKind.wrap .i64 (m % 2000) = m % 2000 := wrap_i64 (by omega) (by omega)
 have ws : IntKind.wrap .i64 (f % 2000 + m % 2000) = f % 2000 + m % 2000 := wrap_i64 (by omega) (by omega)
 have F0 : 0 ≤ f % 2000 := by omega
 have F1 : f % 2000 < 2000 := by omega
 have M0 : 0 ≤ m % 2000 := by omega
 have M1 : m % 2000 < 2000 := by omega
 have zr : (2000 : Int) ≠ 0 := by decide
 unfold S.f5
 simp only [hbox, DoH_some, lstA_len', Do_of, abin_gtr, Gd_true]
 have key : ∀ A : List (Int × Int), A.length ≤ 9223372036854775807 → (∀ x ∈ A, u64ok x.1 ∧ u64ok x.2) → S.f5_k10 (ACall C) (.int .i64 n) (.int .u16 f) (.int .u16 m) (.fptr p.cells) Q [lstA ansC A] H := by
  intro A hAl hA
  unfold S.f5_k10
  simp only [pall, Do_of, abin_rem .u16 _ _ zr, aconv_int, ft, mt, wf, wm, sl_zero, abin_add, ws]
  generalize f % 2000 = F at *
  generalize m % 2000 = M at *
  refine Next_ok hGT hT hkw (c := 1000001) (by decide) hp n hA F0 (by omega) fun o1 H1 fr1 u1 l1 => ?_
  simp only [aextract, List.getElem?_cons_zero, List.getElem?_cons_succ, Do_of, abox, if_true, DoH_some]
  rw [store_new H1 _ (nextP kw 1000001 p n A F).1.cells 13 rfl rfl rfl]
  simp only [Do_of, pall]
  have w2 := At.new H1 (.row (nextP kw 1000001 p n A F).1.cells)
  generalize H1.push (.row (nextP kw 1000001 p n A F).1.cells) = H2 at *
  refine Next_ok hGT hT hkw (c := 1000001) (by decide) hp n hA (fuel := F + M) (by omega) (by omega) fun o2 H3 fr3 u2 l2 => ?_
  simp only [aextract, List.getElem?_cons_zero, List.getElem?_cons_succ, Do_of, abox, if_true, DoH_some]
  rw [store_new H3 _ (nextP kw 1000001 p n A (F + M)).1.cells 13 rfl rfl rfl]
  have w3 := fr3.2 _ _ w2.1 w2
  have v4 := At.new H3 (.row (nextP kw 1000001 p n A (F + M)).1.cells)
  have w4 := w3.push (.row (nextP kw 1000001 p n A (F + M)).1.cells)
  generalize H3.push (.row (nextP kw 1000001 p n A (F + M)).1.cells) = H4 at *
  simp only [Do_of, abin_neq, Gd_true]
  refine ite_both (fun h => ?_) (fun h => ?_)
  · have he : (nextP kw 1000001 p n A F).2.2.2 ≠ 0 := by simpa using h
    refine haw _ _ ?_
    simp only [Gd3_true, if_true, abin_eql, Do_of, Gd3_false]
    have hee : (nextP kw 1000001 p n A (F + M)).2.2.2 = 0 ∨ (nextP kw 1000001 p n A (F + M)).2.2.2 = (nextP kw 1000001 p n A F).2.2.2 := by
     unfold nextP at he ⊢
     split
     · exact .inr rfl
     · split
       · exact .inr rfl
       · rename_i q1 q2
         rw [if_neg q1, if_neg q2] at he
         cases ht : p.threads[n.toNat]? with
         | none => exact .inr rfl
         | some t =>
          rw [ht] at he
          dsimp only at he ⊢
          have two : ∀ fu, (nextR p.vars 1000001 t A fu).2.2.2 = 0 ∨ (nextR p.vars 1000001 t A fu).2.2.2 = 16 := by
           intro fu
           unfold nextR
           dsimp only
           split
           · exact .inr rfl
           · split <;> exact .inl rfl
          rcases two F with q | q
          · exact absurd q he
          · rcases two (F + M) with q' | q'
            · exact .inl q'
            · exact .inr (by rw [q, q'])
    refine ite_boolf (fun h => ?_) (fun h => ?_)
    · have h : ¬ (nextP kw 1000001 p n A (F + M)).2.2.2 = 0 := by simpa using h
      rcases hee with q | q
      · exact absurd q h
      · rw [q, show ((nextP kw 1000001 p n A F).2.2.2 == (nextP kw 1000001 p n A F).2.2.2) = true by simp]
        exact hQ _
    · exact hQ _
  · have he : (nextP kw 1000001 p n A F).2.2.2 = 0 := by simpa using h
    have hsame : nextP kw 1000001 p n A (F + M) = nextP kw 1000001 p n A F := by
     unfold nextP at he ⊢
     split
     · rfl
     · split
       · rfl
       · rename_i q1 q2
         rw [if_neg q1, if_neg q2] at he
         cases ht : p.threads[n.toNat]? with
         | none => rfl
         | some t =>
          rw [ht] at he
          exact next_fuel p.vars 1000001 t A F0 M0 (by omega) he
    have hpre : ∀ i, (nextP kw 1000001 p n (A.take i) F).2.2.2 = 0 ∧ (nextP kw 1000001 p n (A.take i) F).2.2.1 <+: (nextP kw 1000001 p n A F).2.2.1 := by
     intro i
     unfold nextP at he ⊢
     split
     · rename_i q1
       rw [if_pos q1] at he; exact absurd he q1
     · rename_i q1
       rw [if_neg q1] at he
       split
       · rename_i q2
         rw [if_pos q2] at he; cases he
       · rename_i q2
         rw [if_neg q2] at he
         cases ht : p.threads[n.toNat]? with
         | none => rw [ht] at he; cases he
         | some t =>
          rw [ht] at he
          dsimp only at he ⊢
          have := next_ans p.vars 1000001 t (A.take i) (A.drop i) (f := F) F0 (by omega) (by rw [List.take_append_drop]; exact he)
          rw [List.take_append_drop] at this
          exact this
    rw [hsame] at v4 u2 ⊢
    generalize nextP kw 1000001 p n A F = r at *
    rw [he, show ((0 : Int) != 0) = false from rfl]
    have al1 : alen false o1 = some (.int .i64 r.2.2.1.length) := by obtain ⟨tk, rfl⟩ := u1; rfl
    simp only [Gd3_false, if_true]
    rw [want_load v4]
    simp only [Do_of]
    rw [want_load w4]
    simp only [Do_of, want_eq, JoinP_def]
    unfold S.f5_k9
    simp only [sl_zero, Gd3_false, if_true, abin_neq, Do_of, JoinP_def]
    rw [show (r.2.1 != r.2.1) = false by simp]
    unfold S.f5_k8
    simp only [sl_zero, Gd3_false, if_true]
    refine Same_ok hGT hT u1 u2 (by omega) ?_
    simp only [aun_not, Do_of, JoinP_def]
    unfold S.f5_k7
    simp only [sl_zero, Gd_true]
    rw [if_neg (by decide)]
    simp only [JoinP_def]
    unfold S.f5_k6
    have main : ∀ (d i : Nat) (H5 : AH), A.length - i = d → i ≤ A.length → LoopP (S.f5_l5 (ACall C) (.int .i64 n) (.int .u16 f) (.fptr p.cells) o1 [lstA ansC A] Q) ([.int .i64 i], H5) := by
     intro d
     induction d with
     | zero =>
      intro i H5 hd hi
      refine LoopP.step ?_
      simp only [S.f5_l5, sl_zero, lstA_len', Do_of, abin_lss, Gd_true]
      rw [if_neg (by simp only [decide_eq_true_eq]; omega)]
      simp only [JoinP_def, S.f5_k4]
      exact haw _ _ (hQ _)
     | succ d ih =>
      intro i H5 hd hi
      refine LoopP.step ?_
      simp only [S.f5_l5, sl_zero, lstA_len', Do_of, abin_lss, Gd_true]
      rw [if_pos (by simp only [decide_eq_true_eq]; omega), lstA_take (cells := ansC) (sz := 2) (fun _ => rfl) A hi]
      simp only [pall, Do_of, abin_rem .u16 _ _ zr, aconv_int, ft, wf]
      refine Next_ok hGT hT hkw (c := 1000001) (by decide) hp n (ans := A.take i) (fun x hx => hA x (List.mem_of_mem_take hx)) F0 (by omega) fun o3 H6 fr6 u6 l6 => ?_
      obtain ⟨q1, q2⟩ := hpre i
      generalize nextP kw 1000001 p n (A.take i) F = r3 at *
      have al3 : alen false o3 = some (.int .i64 r3.2.2.1.length) := by obtain ⟨tk, rfl⟩ := u6; rfl
      simp only [aextract, List.getElem?_cons_zero, List.getElem?_cons_succ, Do_of, abox, if_true, DoH_some, pall, true_and]
      rw [store_new H6 _ r3.1.cells 13 rfl rfl rfl]
      simp only [Do_of, abin_neq, q1]
      rw [show ((0 : Int) != 0) = false from rfl]
      have hle := q2.length_le
      simp only [Gd3_false, if_true, al1, al3, Do_of, abin_gtr, JoinP_def, S.f5_k3, sl_zero]
      rw [show decide ((r3.2.2.1.length : Int) > (r.2.2.1.length : Int)) = false by simp; omega]
      simp only [if_true]
      obtain ⟨y, e1, e2⟩ := u1.take hle
      rw [e1]
      simp only [Do_of]
      rw [← List.prefix_iff_eq_take.1 q2] at e2
      refine Same_ok hGT hT u6 e2 (by omega) ?_
      simp only [aun_not, Do_of, JoinP_def, S.f5_k2, sl_zero, Gd_true]
      rw [if_neg (by decide)]
      simp only [JoinP_def, S.f5_k1, sl_zero, abin_add, Do_of]
      rw [wrap_i64 (by omega) (by omega), show (i : Int) + 1 = ((i + 1 : Nat) : Int) by simp]
      exact ih (i + 1) _ (by omega) (by omega)
    exact main A.length 0 H4 (by omega) (Nat.zero_le _)
 refine ite_both (fun h => ?_) (fun h => ?_)
 · have h : 30 < ans.length := by simp only [decide_eq_true_eq] at h; omega
   have := lstA_take (cells := ansC) (sz := 2) (fun _ => rfl) ans (k := 30) (by omega)
   rw [show ((30 : Nat) : Int) = 30 from rfl] at this
   rw [this]
   simp only [Do_of, JoinP_def]
   exact key _ (by rw [List.length_take]; omega) fun x hx => ha x (List.mem_of_mem_take hx)
 · simp only [JoinP_def]
   exact key ans hal ha
end
end Rb

namespace Rb
open Go
def kwTextX : List UInt8 := [118, 97, 114, 32, 116, 104, 114, 101, 97, 100, 32, 115, 116, 114, 117, 99, 116, 32, 117, 110, 105, 111, 110, 32, 112, 97, 99, 107, 101, 100, 32, 117, 56, 32, 117, 49, 54, 32, 117, 51, 50, 32, 117, 54, 52, 32, 97, 56, 32, 97, 49, 54, 32, 97, 51, 50, 32, 97, 54, 52, 32, 97, 49, 50, 56, 32, 108, 101, 116, 32, 115, 101, 116, 32, 119, 114, 105, 116, 101, 32, 115, 116, 111, 114, 101, 32, 108, 111, 97, 100, 50, 32, 115, 116, 111, 114, 101, 50, 32, 102, 101, 110, 99, 101, 32, 105, 102, 32, 101, 108, 115, 101, 32, 119, 104, 105, 108, 101, 32, 112, 114, 105, 110, 116, 32, 114, 101, 97, 100, 32, 108, 111, 97, 100, 32, 97, 100, 100, 32, 115, 119, 97, 112, 32, 99, 97, 115, 32, 114, 108, 120, 32, 97, 99, 113, 32, 114, 101, 108, 32, 115, 99]
def kwsX : List (List UInt8) := [[118, 97, 114], [116, 104, 114, 101, 97, 100], [115, 116, 114, 117, 99, 116], [117, 110, 105, 111, 110], [112, 97, 99, 107, 101, 100], [117, 56], [117, 49, 54], [117, 51, 50], [117, 54, 52], [97, 56], [97, 49, 54], [97, 51, 50], [97, 54, 52], [97, 49, 50, 56], [108, 101, 116], [115, 101, 116], [119, 114, 105, 116, 101], [115, 116, 111, 114, 101], [108, 111, 97, 100, 50], [115, 116, 111, 114, 101, 50], [102, 101, 110, 99, 101], [105, 102], [101, 108, 115, 101], [119, 104, 105, 108, 101], [112, 114, 105, 110, 116], [114, 101, 97, 100], [108, 111, 97, 100], [97, 100, 100], [115, 119, 97, 112], [99, 97, 115], [114, 108, 120], [97, 99, 113], [114, 101, 108], [115, 99]]
def kwX (s : List UInt8) : Bool := kwsX.any fun x => s == x
section
variable {C : Ctx} (hGT : GTok C) (hT : Cl (ACall C) S.tab_Chk)
include hGT hT
theorem Keyword_val (hF : ∀ (H : AH) (Q : Post), Q (.lst .dead 34 (kwsX.map .str)) H → ACall C K.f96 [.str kwTextX] H Q) (s : List UInt8) : Val (ACall C) K.f72 [.str s] (.bool (kwX s)) := by
 intro H Q hQ
 refine S.cl_f72 hT ?_
 unfold S.f72
 refine hF _ _ ?_
 refine Contains_gen hT (xs := kwsX) rfl (fun i x hx => ?_) (by decide) hQ
 have hlt := (List.getElem?_eq_some_iff.1 hx).1
 refine ⟨.fptr ((kwsX.map AV.str).drop (i * 1)), ?_, ?_⟩
 · simp only [aiaddr]
   have hl : kwsX.length = 34 := rfl
   rw [if_pos ⟨by omega, by omega⟩]
   simp
 · show takeCells _ 0 1 false = _
   unfold takeCells
   rw [if_pos (by rw [List.length_drop, List.length_map]; omega)]
   simp [hx]
end
end Rb

namespace Rb
open Go Go.RowKit Go.ChangeShapes
theorem VRs.five {F : FTab} {w : World} {G : Ghost} {c0 c1 c2 c3 c4 : AV} {V0 V1 V2 V3 V4 : Value} (h0 : VR F w G c0 V0) (h1 : VR F w G c1 V1) (h2 : VR F w G c2 V2) (h3 : VR F w G c3 V3) (h4 : VR F w G c4 V4) : VRs F w G [c0, c1, c2, c3, c4] #[V0, V1, V2, V3, V4] := ⟨rfl, fun j c' V' hc hV => by
  rcases j with _ | _ | _ | _ | _ | j
  · simp at hc hV; subst hc; subst hV; exact h0
  · simp at hc hV; subst hc; subst hV; exact h1
  · simp at hc hV; subst hc; subst hV; exact h2
  · simp at hc hV; subst hc; subst hV; exact h3
  · simp at hc hV; subst hc; subst hV; exact h4
  · simp at hc⟩
section
variable {H : Type} {enc : TypeId × Value → H} {P : Program} {w : World} {base : Nat} {sp spare : Nat → Bool} {held : Bool} {F : FTab}
theorem trodAll_five {t0 t1 t2 t3 t4 : TypeId} {args : Array Value} {ds : List (DataW H)} {ps : List MemPlace} (h : DataW.TrodAll enc P w base spare held [t0, t1, t2, t3, t4] args.toList ds ps) :
  ∃ v0 v1 v2 v3 v4 d0 d1 d2 d3 d4 p0 p1 p2 p3 p4, args = #[v0, v1, v2, v3, v4] ∧ ds = [d0, d1, d2, d3, d4] ∧ ps = p0 ++ p1 ++ p2 ++ p3 ++ p4 ∧ DataW.Trod enc P w base spare held t0 v0 d0 p0 ∧ DataW.Trod enc P w base spare held t1 v1 d1 p1 ∧ DataW.Trod enc P w base spare held t2 v2 d2 p2 ∧ DataW.Trod enc P w base spare held t3 v3 d3 p3 ∧ DataW.Trod enc P w base spare held t4 v4 d4 p4 := by
 obtain ⟨v0, vs0, d0, e0, p0, q0, hargs, rfl, rfl, h0, r0⟩ := trodAll_cons h
 obtain ⟨v1, vs1, d1, e1, p1, q1, rfl, rfl, rfl, h1, r1⟩ := trodAll_cons r0
 obtain ⟨v2, vs2, d2, e2, p2, q2, rfl, rfl, rfl, h2, r2⟩ := trodAll_cons r1
 obtain ⟨v3, vs3, d3, e3, p3, q3, rfl, rfl, rfl, h3, r3⟩ := trodAll_cons r2
 obtain ⟨v4, vs4, d4, e4, p4, q4, rfl, rfl, rfl, h4, r4⟩ := trodAll_cons r3
 obtain ⟨rfl, rfl, rfl⟩ := trodAll_nil r4
 exact ⟨v0, v1, v2, v3, v4, d0, d1, d2, d3, d4, p0, p1, p2, p3, p4, by cases args; simp_all, rfl, by simp, h0, h1, h2, h3, h4⟩
theorem Dec.pair {n : Nat} {t e : TypeId} (ht : P.underlying t = some (.array 2 e)) (he : P.underlying e = some (.int .u64)) (hs : P.cellsOf e = 1) (hz : P.cellsOf t = 2) : Dec F enc P w sp held n t ansC (fun x => u64ok x.1 ∧ u64ok x.2) := by
 intro fuel hf cs d ps hd hwt
 obtain ⟨xs, m, rfl, hdx, hlen, hxl, hfs⟩ := DataW.trod_array ht hd
 have h0 := hfs 0 (by decide)
 have h1 := hfs 1 (by decide)
 rw [List.getElem?_eq_getElem (by omega), hs] at h0 h1
 obtain ⟨z0, c0, _, w0⟩ := DataW.trod_int he h0
 obtain ⟨z1, c1, _, w1⟩ := DataW.trod_int he h1
 rw [hz] at hlen
 match cs, hlen with
 | [x, y], _ =>
  have e0 : x = .int .u64 z0 := by simpa using c0
  have e1 : y = .int .u64 z1 := by simpa using c1
  subst e0
  subst e1
  have k0 : u64ok z0 := by
   have : IntKind.min .u64 ≤ z0 ∧ z0 ≤ IntKind.max .u64 := by simpa [Lit.wf] using w0
   simpa [u64ok, IntKind.min, IntKind.max, IntKind.signed, IntKind.bits] using this
  have k1 : u64ok z1 := by
   have : IntKind.min .u64 ≤ z1 ∧ z1 ≤ IntKind.max .u64 := by simpa [Lit.wf] using w1
   simpa [u64ok, IntKind.min, IntKind.max, IntKind.signed, IntKind.bits] using this
  exact ⟨(z0, z1), ⟨k0, k1⟩, VRs.two (.int _ _) (.int _ _)⟩
end
end Rb

namespace Go.Proofs.YtggbkidckoecfaaGreatDoor.rb
open Rb
theorem awake19 : Val (ACall C) K.f8 [] (.bool true) := fun H Q hQ => RbM19_rootok0 K.f8 [] (.bool true) rfl H Q hQ
theorem fieldsOK (H : AH) (Q : Post) (hQ : Q (.lst .dead 34 (kwsX.map .str)) H) : ACall C K.f96 [.str kwTextX] H Q := RbM190_ok K.f96 [.str kwTextX] _ (by kernel_rfl) H Q hQ
theorem kwOK (s : List UInt8) : Val (ACall C) K.f72 [.str s] (.bool (kwX s)) := Keyword_val gtC cl_Chk fieldsOK s
theorem srcFuel.any (p : GProg) (hp : p.ok) (n : Int) (_ : (0 : Int) ≤ 0) (_ : (0 : Int) ≤ 0) (ans : List (Int × Int)) (hal : ans.length ≤ maxLen) (ha : ∀ x ∈ ans, u64ok x.1 ∧ u64ok x.2) (f : Int) (f0 : 0 ≤ f) (f1 : f ≤ 65535) (m : Int) (m0 : 0 ≤ m) (m1 : m ≤ 65535) : ACall C K.f5 [.agg p.cells, .int .i64 n, lstA ansC ans, .int .u16 f, .int .u16 m] AH.mt (fun v _ => v = .bool true) :=
 S.cl_f5 cl_Chk (SrcFuel_spec gtC cl_Chk kwOK awake19 hp n (by rw [← i64max]; exact hal) ha f0 f1 m0 m1 fun _ => rfl)
end Go.Proofs.YtggbkidckoecfaaGreatDoor.rb

namespace Go.Proofs.YtggbkidckoecfaaGreatDoor.rb
open Rb Go.ChangeShapes Go.WideShapes Go.ChangeAt Go.RowKit
theorem own : ownKnob Tryz.prog.godebug = none := by kernel_rfl
theorem laidOut : laidOutB Tryz.prog = true := by kernel_rfl
theorem cellsU : Tryz.prog.cellsOf 5 = 1 := by kernel_rfl
def laidVars : List (String × DataW Unit) := Rows.srcNextsRow.laid
theorem gT0 : Tryz.prog.globalNamed "strings.asciiSpace" = some 0 := by kernel_rfl
theorem gTType0 : (Tryz.prog.globals[0]?).map (·.type) = some 215 := by kernel_rfl
theorem cellsT0 : Tryz.prog.cellsOf 215 = 256 := by kernel_rfl
theorem tab_eq0 : (Rows.laid_strings_asciiSpace : DataW Unit) = Go.Lib.tabData .u8 Go.Lib.asciiSpaceTab := by kernel_rfl
theorem tab_mem0 : (("strings.asciiSpace", Go.Lib.tabData .u8 Go.Lib.asciiSpaceTab) : String × DataW Unit) ∈ laidVars := by
 rw [← tab_eq0]; exact .tail _ (.tail _ (.tail _ (.tail _ (.tail _ (.tail _ (.head _))))))
set_option maxRecDepth 100000 in
theorem tab_of0 {W : World} (h : laidMet Tryz.prog laidVars W) : Go.Lib.TabIs Tryz.prog W "strings.asciiSpace" .u8 Go.Lib.asciiSpaceTab := by
 obtain ⟨g', t', cs, fuel, p, hg', ht', hvar, hd⟩ := Go.Lib.laidMet.reads h tab_mem0
 obtain rfl := Option.some.inj (gT0.symm.trans hg')
 obtain rfl := Option.some.inj (gTType0.symm.trans ht')
 unfold Go.Lib.TabIs
 rw [hvar, ← Go.Lib.cells_of_tab Tryz.underlying215 Tryz.underlying5 cellsU cellsT0 hd]
theorem gT1 : Tryz.prog.globalNamed "internal/strconv.uint64pow10" = some 5 := by kernel_rfl
theorem gTType1 : (Tryz.prog.globals[5]?).map (·.type) = some 314 := by kernel_rfl
theorem cellsT1 : Tryz.prog.cellsOf 314 = 20 := by kernel_rfl
theorem tab_eq1 : (Rows.laid_internal_strconv_uint64pow10 : DataW Unit) = Go.Lib.tabData .u64 tenTab := by kernel_rfl
theorem tab_mem1 : (("internal/strconv.uint64pow10", Go.Lib.tabData .u64 tenTab) : String × DataW Unit) ∈ laidVars := by
 rw [← tab_eq1]; exact .tail _ (.tail _ (.head _))
set_option maxRecDepth 100000 in
theorem tab_of1 {W : World} (h : laidMet Tryz.prog laidVars W) : Go.Lib.TabIs Tryz.prog W "internal/strconv.uint64pow10" .u64 tenTab := by
 obtain ⟨g', t', cs, fuel, p, hg', ht', hvar, hd⟩ := Go.Lib.laidMet.reads h tab_mem1
 obtain rfl := Option.some.inj (gT1.symm.trans hg')
 obtain rfl := Option.some.inj (gTType1.symm.trans ht')
 unfold Go.Lib.TabIs
 rw [hvar, ← Go.Lib.cells_of_tab Tryz.underlying314 Tryz.underlying12 (by kernel_rfl) cellsT1 hd]
theorem gT2 : Tryz.prog.globalNamed "math/bits.deBruijn64tab" = some 7 := by kernel_rfl
theorem gTType2 : (Tryz.prog.globals[7]?).map (·.type) = some 319 := by kernel_rfl
theorem cellsT2 : Tryz.prog.cellsOf 319 = 64 := by kernel_rfl
theorem tab_eq2 : (Rows.laid_math_bits_deBruijn64tab : DataW Unit) = Go.Lib.tabData .u8 deB64 := by kernel_rfl
theorem tab_mem2 : (("math/bits.deBruijn64tab", Go.Lib.tabData .u8 deB64) : String × DataW Unit) ∈ laidVars := by
 rw [← tab_eq2]; exact .tail _ (.head _)
set_option maxRecDepth 100000 in
theorem tab_of2 {W : World} (h : laidMet Tryz.prog laidVars W) : Go.Lib.TabIs Tryz.prog W "math/bits.deBruijn64tab" .u8 deB64 := by
 obtain ⟨g', t', cs, fuel, p, hg', ht', hvar, hd⟩ := Go.Lib.laidMet.reads h tab_mem2
 obtain rfl := Option.some.inj (gT2.symm.trans hg')
 obtain rfl := Option.some.inj (gTType2.symm.trans ht')
 unfold Go.Lib.TabIs
 rw [hvar, ← Go.Lib.cells_of_tab Tryz.underlying319 Tryz.underlying5 cellsU cellsT2 hd]
theorem gok0 {W : World} (h : laidMet Tryz.prog laidVars W) : GOK C W (Ghost.mt (allFz W)) := by
 intro g l hg
 change gt g = some l at hg
 unfold gt at hg
 split at hg
 · rename_i e
   subst e
   cases hg
   rw [asciiSpace_eq]
   exact fptr_of_tab fun i hi => (tab_of0 h).cell gT0 i hi
 · split at hg
   · rename_i e
     subst e
     cases hg
     rw [(show pow10tab = tenTab.map (AV.int .u64) from rfl)]
     exact fptr_of_tab fun i hi => (tab_of1 h).cell gT1 i hi
   · split at hg
     · rename_i e
       subst e
       cases hg
       rw [(show deBruijn64tab = deB64.map (AV.int .u8) from rfl)]
       exact fptr_of_tab fun i hi => (tab_of2 h).cell gT2 i hi
     · cases hg
theorem gok {W : World} (h : laidMet Tryz.prog laidVars W) : GOX C W (Ghost.mt (allFz W)) AH.mt := by
 refine ⟨gok0 h, fun g l hg _ => ⟨?_, fun i hi => by cases hi⟩⟩
 change gt g = some l at hg
 unfold gt at hg
 split at hg
 · rename_i e
   subst e
   cases hg
   obtain ⟨cs, t, fr, h1, h2⟩ := size_of_var gT0 (tab_of0 h)
   exact ⟨cs, t, fr, h1, h2.trans (by kernel_rfl)⟩
 · split at hg
   · rename_i e
     subst e
     cases hg
     obtain ⟨cs, t, fr, h1, h2⟩ := size_of_var gT1 (tab_of1 h)
     exact ⟨cs, t, fr, h1, h2.trans (by kernel_rfl)⟩
   · split at hg
     · rename_i e
       subst e
       cases hg
       obtain ⟨cs, t, fr, h1, h2⟩ := size_of_var gT2 (tab_of2 h)
       exact ⟨cs, t, fr, h1, h2.trans (by kernel_rfl)⟩
     · cases hg
noncomputable def laidWorld (os : Os) : World :=
 let N := (World.settled Tryz.prog os).heap.size
 let w0 := World.holding Tryz.prog os ⟨#[.cells #[.string ⟨#[118, 97, 108, 117, 101, 32, 111, 117, 116, 32, 111, 102, 32, 114, 97, 110, 103, 101]⟩] 305, .cells #[.string ⟨#[105, 110, 118, 97, 108, 105, 100, 32, 115, 121, 110, 116, 97, 120]⟩] 305, .cells #[.int .u16 9, .int .u16 13, .int .u16 1, .int .u16 32, .int .u16 133, .int .u16 101, .int .u16 160, .int .u16 5760, .int .u16 5600, .int .u16 8192, .int .u16 8202, .int .u16 1, .int .u16 8232, .int .u16 8233, .int .u16 1, .int .u16 8239, .int .u16 8287, .int .u16 48, .int .u16 12288, .int .u16 12288, .int .u16 1] 277, .cells #[.slice (some ⟨N + 2, 0, none⟩) 7 7, .slice none 0 0, .int .i64 2] 275], #[], []⟩
 let put (h : Array Obj) (g : Nat) (cs : Array Value) : Array Obj := h.modify g fun
  | .cells _ t frozen => .cells cs t frozen
  | o => o
 { w0 with heap := put (put (put (put (put (put (put (w0.heap) 6 #[.int .u8 0, .int .u8 1, .int .u8 28, .int .u8 2, .int .u8 29, .int .u8 14, .int .u8 24, .int .u8 3, .int .u8 30, .int .u8 22, .int .u8 20, .int .u8 15, .int .u8 25, .int .u8 17, .int .u8 4, .int .u8 8, .int .u8 31, .int .u8 27, .int .u8 13, .int .u8 23, .int .u8 21, .int .u8 19, .int .u8 16, .int .u8 7, .int .u8 26, .int .u8 12, .int .u8 18, .int .u8 6, .int .u8 11, .int .u8 5, .int .u8 10, .int .u8 9]) 7 #[.int .u8 0, .int .u8 1, .int .u8 56, .int .u8 2, .int .u8 57, .int .u8 49, .int .u8 28, .int .u8 3, .int .u8 61, .int .u8 58, .int .u8 42, .int .u8 50, .int .u8 38, .int .u8 29, .int .u8 17, .int .u8 4, .int .u8 62, .int .u8 47, .int .u8 59, .int .u8 36, .int .u8 45, .int .u8 43, .int .u8 51, .int .u8 22, .int .u8 53, .int .u8 39, .int .u8 33, .int .u8 30, .int .u8 24, .int .u8 18, .int .u8 12, .int .u8 5, .int .u8 63, .int .u8 55, .int .u8 48, .int .u8 27, .int .u8 60, .int .u8 41, .int .u8 37, .int .u8 16, .int .u8 46, .int .u8 35, .int .u8 44, .int .u8 21, .int .u8 52, .int .u8 32, .int .u8 23, .int .u8 11, .int .u8 54, .int .u8 26, .int .u8 40, .int .u8 15, .int .u8 34, .int .u8 20, .int .u8 31, .int .u8 10, .int .u8 25, .int .u8 14, .int .u8 19, .int .u8 9, .int .u8 13, .int .u8 8, .int .u8 7, .int .u8 6]) 5 #[.int .u64 1, .int .u64 10, .int .u64 100, .int .u64 1000, .int .u64 10000, .int .u64 100000, .int .u64 1000000, .int .u64 10000000, .int .u64 100000000, .int .u64 1000000000, .int .u64 10000000000, .int .u64 100000000000, .int .u64 1000000000000, .int .u64 10000000000000, .int .u64 100000000000000, .int .u64 1000000000000000, .int .u64 10000000000000000, .int .u64 100000000000000000, .int .u64 1000000000000000000, .int .u64 10000000000000000000]) 3 #[.iface 303 (.pointer (some ⟨N + 0, 0, none⟩))]) 2 #[.iface 303 (.pointer (some ⟨N + 1, 0, none⟩))]) 1 #[.pointer (some ⟨N + 3, 0, none⟩)]) 0 #[.int .u8 0, .int .u8 0, .int .u8 0, .int .u8 0, .int .u8 0, .int .u8 0, .int .u8 0, .int .u8 0, .int .u8 0, .int .u8 1, .int .u8 1, .int .u8 1, .int .u8 1, .int .u8 1, .int .u8 0, .int .u8 0, .int .u8 0, .int .u8 0, .int .u8 0, .int .u8 0, .int .u8 0, .int .u8 0, .int .u8 0, .int .u8 0, .int .u8 0, .int .u8 0, .int .u8 0, .int .u8 0, .int .u8 0, .int .u8 0, .int .u8 0, .int .u8 0, .int .u8 1, .int .u8 0, .int .u8 0, .int .u8 0, .int .u8 0, .int .u8 0, .int .u8 0, .int .u8 0, .int .u8 0, .int .u8 0, .int .u8 0, .int .u8 0, .int .u8 0, .int .u8 0, .int .u8 0, .int .u8 0, .int .u8 0, .int .u8 0, .int .u8 0, .int .u8 0, .int .u8 0, .int .u8 0, .int .u8 0, .int .u8 0, .int .u8 0, .int .u8 0, .int .u8 0, .int .u8 0, .int .u8 0, .int .u8 0, .int .u8 0, .int .u8 0, .int .u8 0, .int .u8 0, .int .u8 0, .int .u8 0, .int .u8 0, .int .u8 0, .int .u8 0, .int .u8 0, .int .u8 0, .int .u8 0, .int .u8 0, .int .u8 0, .int .u8 0, .int .u8 0, .int .u8 0, .int .u8 0, .int .u8 0, .int .u8 0, .int .u8 0, .int .u8 0, .int .u8 0, .int .u8 0, .int .u8 0, .int .u8 0, .int .u8 0, .int .u8 0, .int .u8 0, .int .u8 0, .int .u8 0, .int .u8 0, .int .u8 0, .int .u8 0, .int .u8 0, .int .u8 0, .int .u8 0, .int .u8 0, .int .u8 0, .int .u8 0, .int .u8 0, .int .u8 0, .int .u8 0, .int .u8 0, .int .u8 0, .int .u8 0, .int .u8 0, .int .u8 0, .int .u8 0, .int .u8 0, .int .u8 0, .int .u8 0, .int .u8 0, .int .u8 0, .int .u8 0, .int .u8 0, .int .u8 0, .int .u8 0, .int .u8 0, .int .u8 0, .int .u8 0, .int .u8 0, .int .u8 0, .int .u8 0, .int .u8 0, .int .u8 0, .int .u8 0, .int .u8 0, .int .u8 0, .int .u8 0, .int .u8 0, .int .u8 0, .int .u8 0, .int .u8 0, .int .u8 0, .int .u8 0, .int .u8 0, .int .u8 0, .int .u8 0, .int .u8 0, .int .u8 0, .int .u8 0, .int .u8 0, .int .u8 0, .int .u8 0, .int .u8 0, .int .u8 0, .int .u8 0, .int .u8 0, .int .u8 0, .int .u8 0, .int .u8 0, .int .u8 0, .int .u8 0, .int .u8 0, .int .u8 0, .int .u8 0, .int .u8 0, .int .u8 0, .int .u8 0, .int .u8 0, .int .u8 0, .int .u8 0, .int .u8 0, .int .u8 0, .int .u8 0, .int .u8 0, .int .u8 0, .int .u8 0, .int .u8 0, .int .u8 0, .int .u8 0, .int .u8 0, .int .u8 0, .int .u8 0, .int .u8 0, .int .u8 0, .int .u8 0, .int .u8 0, .int .u8 0, .int .u8 0, .int .u8 0, .int .u8 0, .int .u8 0, .int .u8 0, .int .u8 0, .int .u8 0, .int .u8 0, .int .u8 0, .int .u8 0, .int .u8 0, .int .u8 0, .int .u8 0, .int .u8 0, .int .u8 0, .int .u8 0, .int .u8 0, .int .u8 0, .int .u8 0, .int .u8 0, .int .u8 0, .int .u8 0, .int .u8 0, .int .u8 0, .int .u8 0, .int .u8 0, .int .u8 0, .int .u8 0, .int .u8 0, .int .u8 0, .int .u8 0, .int .u8 0, .int .u8 0, .int .u8 0, .int .u8 0, .int .u8 0, .int .u8 0, .int .u8 0, .int .u8 0, .int .u8 0, .int .u8 0, .int .u8 0, .int .u8 0, .int .u8 0, .int .u8 0, .int .u8 0, .int .u8 0, .int .u8 0, .int .u8 0, .int .u8 0, .int .u8 0, .int .u8 0, .int .u8 0, .int .u8 0, .int .u8 0, .int .u8 0, .int .u8 0, .int .u8 0, .int .u8 0, .int .u8 0, .int .u8 0, .int .u8 0, .int .u8 0, .int .u8 0, .int .u8 0, .int .u8 0, .int .u8 0, .int .u8 0, .int .u8 0, .int .u8 0, .int .u8 0, .int .u8 0, .int .u8 0, .int .u8 0] }
theorem laid_met (os : Os) (args : Array Value) : laidMet Tryz.prog laidVars ((laidWorld os).forCall (fun _ _ => 0) ⟨#[], args, []⟩).memory :=
 laidMet_of_run3 10 (by kernel_rfl) (by kernel_rfl) (by kernel_rfl)
theorem laid_shaped (os : Os) (args : Array Value) : ((laidWorld os).forCall (fun _ _ => 0) ⟨#[], args, []⟩).Shaped Tryz.prog := World.shaped_of_RefB (by kernel_rfl) (by kernel_rfl)
end Go.Proofs.YtggbkidckoecfaaGreatDoor.rb

namespace Rb
open Go Go.RowKit
section
variable {H : Type} {enc : TypeId × Value → H} {P : Program} {w : World} {sp : Nat → Bool} {held : Bool} {F : FTab} {G : Ghost}
end
end Rb

namespace Rb
open Go Go.RowKit
section
variable {H : Type} {enc : TypeId × Value → H} {P : Program} {w : World} {sp : Nat → Bool} {held : Bool} {F : FTab}
def GProg.ok2 (p : GProg) : Prop := p.ok ∧ p.threads.length ≤ 140737488355328 ∧ ∀ t ∈ p.threads, t.length ≤ 140737488355328
end
end Rb

namespace Go.Proofs.YtggbkidckoecfaaGreatDoor.rb
open Rb
variable {H : Type} {enc : TypeId × Value → H} {w : World} {sp : Nat → Bool} {held : Bool} {F : FTab}
theorem tyOK : ∃ fT fF, TyOK Tryz.prog 3 4 9 72 166 70 69 fT fF := ⟨_, _, Tryz.underlying3, Tryz.underlying4, Tryz.underlying9, Tryz.underlying72, Tryz.underlying166, Tryz.underlying70, Tryz.underlying69, rfl, rfl, by kernel_rfl, by kernel_rfl, fun t ht => by
  simp only [List.mem_cons, List.not_mem_nil, or_false] at ht
  rcases ht with rfl | rfl | rfl | rfl | rfl <;> kernel_rfl⟩
theorem decType (n : Nat) : Dec F enc Tryz.prog w sp held n 72 GType.cells GType.ok := let ⟨_, _, h⟩ := tyOK; Dec_type h n
theorem exOK : ∃ fE fL fR, ExOK Tryz.prog 3 31 9 150 94 171 135 92 fE fL fR := ⟨_, _, _, Tryz.underlying3, Tryz.underlying31, Tryz.underlying9, Tryz.underlying150, Tryz.underlying94, Tryz.underlying171, Tryz.underlying135, Tryz.underlying92, rfl, rfl, rfl, by kernel_rfl, by kernel_rfl, by kernel_rfl, fun t ht => by
  simp only [List.mem_cons, List.not_mem_nil, or_false] at ht
  rcases ht with rfl | rfl | rfl | rfl | rfl <;> kernel_rfl⟩
theorem decVar (n : Nat) : Dec F enc Tryz.prog w sp held n 74 GVar.cells GVar.ok := Dec_var Tryz.underlying9 (by kernel_rfl) (by kernel_rfl) decType Tryz.underlying74 rfl (by kernel_rfl) n
theorem decStmt (n : Nat) : Dec F enc Tryz.prog w sp held n 137 GStmt.cells GStmt.ok := let ⟨_, _, _, h⟩ := exOK; Dec_stmt h Tryz.underlying137 Tryz.underlying84 rfl (by kernel_rfl) (by kernel_rfl) n
theorem decProg (n : Nat) : Dec F enc Tryz.prog w sp held n 25 GProg.cells GProg.ok := Dec_prog decVar decStmt Tryz.underlying22 Tryz.underlying84 Tryz.underlying23 (by kernel_rfl) (by kernel_rfl) (by kernel_rfl) (by kernel_rfl) (by kernel_rfl) Tryz.underlying25 rfl (by kernel_rfl) n
end Go.Proofs.YtggbkidckoecfaaGreatDoor.rb

namespace Go.Proofs.YtggbkidckoecfaaGreatDoor.rb
open Rb
variable {H : Type} {enc : TypeId × Value → H} {w : World} {sp : Nat → Bool} {held : Bool} {F : FTab}
theorem decAns (n : Nat) : Dec F enc Tryz.prog w sp held n 26 (fun xs : List (Int × Int) => [lstA ansC xs]) (fun xs => xs.length ≤ maxLen ∧ ∀ x ∈ xs, u64ok x.1 ∧ u64ok x.2) :=
 Dec.mono (Dec.slice Tryz.underlying26 (sz := 2) (by kernel_rfl) (by decide) (fun _ => rfl) (Dec.pair Tryz.underlying32 Tryz.underlying31 (by kernel_rfl) (by kernel_rfl))) (Nat.le_succ n)
end Go.Proofs.YtggbkidckoecfaaGreatDoor.rb
