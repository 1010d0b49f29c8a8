/- A part of the proof (part 6): see the last text. -/
import Derived.Test.YtggbkidckoecfaaGreatDoorRb5
set_option linter.unusedVariables false
set_option linter.unusedSimpArgs false
set_option linter.unusedSectionVars false
namespace Rb
open Go
section
variable {α : Type} {cells : α → List AV} {sz : Nat}
theorem flatMap_take (hc : ∀ x, (cells x).length = sz) : ∀ (xs : List α) (i : Nat), (xs.flatMap cells).take (i * sz) = (xs.take i).flatMap cells := by
 intro xs i
 induction i generalizing xs with
 | zero => simp
 | succ i ih =>
  cases xs with
  | nil => simp
  | cons x xs =>
   rw [List.flatMap_cons, List.take_succ_cons, List.flatMap_cons, ← ih]
   rw [show (i + 1) * sz = (cells x).length + i * sz by rw [hc, Nat.add_mul, Nat.one_mul, Nat.add_comm], List.take_length_add_append]
theorem slice_take (hc : ∀ x, (cells x).length = sz) {xs : List α} {n : Nat} (hn : n ≤ xs.length) : aslice sz (lstA cells xs) none (some (.int .i64 n)) none = some (lstA cells (xs.take n)) := by
 simp only [lstA, aslice, abound, Option.map_none]
 rw [if_pos (by omega)]
 simp only
 rw [if_pos ⟨Nat.zero_le _, by omega, flatMap_len hc xs⟩]
 by_cases h : n = xs.length
 · rw [if_pos (by simp; omega), h, List.take_length]
 · rw [if_neg (by omega)]
   have : ((n : Int)).toNat = n := by omega
   simp only [this, if_true, Nat.sub_zero, Nat.zero_mul, List.drop_zero, flatMap_take hc]
   rw [List.length_take, Nat.min_eq_left hn]
end
theorem idxI_any {α : Type} (p : α → Bool) (xs : List α) : decide (idxI (xs.findIdx? p) ≥ 0) = xs.any p := by
 cases hf : xs.findIdx? p with
 | none =>
  rw [List.findIdx?_eq_none_iff] at hf
  have : xs.any p = false := by simpa using hf
  rw [this]; rfl
 | some i =>
  obtain ⟨hi, h1, _⟩ := List.findIdx?_eq_some_iff_getElem.1 hf
  have : xs.any p = true := by rw [List.any_eq_true]; exact ⟨xs[i], List.getElem_mem hi, h1⟩
  rw [this]; simp [idxI]
section
variable {Φ : Calls'} {H : AH} {Q : Post}
theorem fieldIndex {p : GField → Bool} {key : Nat} {caps : List AV} {xs : List GField} (hf : ∀ x ∈ xs, ∀ (R : Post), R (.bool (p x)) H → Φ key ([.agg x.cells] ++ caps) H R) (hl : xs.length ≤ 9223372036854775807)
  (hQ : Q (.int .i64 (idxI (xs.findIdx? p))) H) (hkb : bkey key = none := by first | assumption | rfl) : S.f182 Φ (lstA GField.cells xs) (.fn key caps) H Q := by
 have h : IndexFunc 9 Φ (lstA GField.cells xs) (.fn key caps) H Q := IndexFunc_spec GField.len (by decide) hf hl hQ
 exact h
theorem fields_contains (hT : Cl Φ S.tab_Chk) {p : GField → Bool} {key : Nat} {caps : List AV} {xs : List GField} (hf : ∀ x ∈ xs, ∀ (R : Post), R (.bool (p x)) H → Φ key ([.agg x.cells] ++ caps) H R) (hl : xs.length ≤ 9223372036854775807)
  (hQ : Q (.bool (xs.any p)) H) (hkb : bkey key = none := by first | assumption | rfl) : Φ K.f155 [lstA GField.cells xs, .fn key caps] H Q := by
 refine S.cl_f155 hT ?_
 unfold S.f155
 refine S.cl_f182 hT (fieldIndex hf hl ?_)
 simp only [abin_geq, Do_of, idxI_any]
 exact hQ
theorem field_c1 {g : GField} {cs : List AV} {id : Nat} {s : List UInt8} (hat : At H id (.row cs)) (ht : takeCells cs 0 1 false = some (.str s)) (hQ : Q (.bool (g.name == s)) H) : S.f209 Φ (.agg g.cells) (.ptr id 0) H Q := by
 unfold S.f209
 have hb : aboxv H false 9 (.agg g.cells) = some (.fptr g.cells, H) := by unfold aboxv; rw [if_pos ⟨rfl, g.len⟩]; rfl
 rw [hb]
 have l0 : aload H 1 false (.fptr (g.cells.drop 0)) = some (.str g.name) := fd_t0 g
 have l1 : aload H 1 false (.ptr id 0) = some (.str s) := by rw [hat.load]; exact ht
 simp only [DoH_some, afaddr, Do_of, l0, Nat.add_zero, l1, abin_streq']
 exact hQ
theorem kind_field_spec (hT : Cl Φ S.tab_Chk) {t : GType} {i : Nat} {f : GField} (hi : t.fields[i]? = some f) (hl : t.fields.length ≤ 32) (hs : Val Φ K.f152 [.agg f.type.cells] (.int .i64 (sndT f.type))) (hname : ∀ s, Val Φ K.f71 [.str s] (.bool (nameOk s)))
  (hQ : ∀ H', Q (.int .i64 (sndF t.packed ((t.fields.take i).map GField.name) f)) H') : S.f203 Φ (.agg t.cells) (.int .i64 i) H Q := by
 have hlt := (List.getElem?_eq_some_iff.1 hi).1
 unfold S.f203
 simp only [ty_box, DoH_some, ty_addr, ty_l3, Do_of]
 rw [lstA_addr hlt]
 simp only [Do_of]
 rw [elA_load GField.len (by decide) _ hi]
 simp only [Do_of, DoH_some, abox, if_true]
 rw [store_new _ _ _ 9 f.len f.scalar rfl]
 simp only [Do_of, afaddr, Nat.add_zero, Nat.zero_add]
 have r0 : aload (H.push (.row f.cells)) 1 false (.ptr H.n 0) = some (.str f.name) := by rw [load_push, fd_t0]
 have r7 : aload (H.push (.row f.cells)) 1 false (.ptr H.n 7) = some (.bool f.bits) := by rw [load_push, fd_t7]
 have r8 : aload (H.push (.row f.cells)) 1 false (.ptr H.n 8) = some (.int .i64 f.width) := by rw [load_push, fd_t8]
 have r1 : aload (H.push (.row f.cells)) 6 true (.ptr H.n 1) = some (.agg f.type.cells) := by rw [load_push, fd_t1]
 have rk : aload (H.push (.row f.cells)) 1 false (.ptr H.n 1) = some (.int .i64 f.type.kind) := by rw [load_push, fd_k]
 have rs : aload (H.push (.row f.cells)) 1 false (.ptr H.n 2) = some (.int .i64 f.type.size) := by rw [load_push, fd_s]
 have hat := At.new H (.row f.cells)
 generalize hH1 : H.push (.row f.cells) = H1 at *
 have fin : ∀ v, v = sndF t.packed ((t.fields.take i).map GField.name) f → Q (.int .i64 v) H1 := fun v h => by rw [h]; exact hQ H1
 rw [r0]
 simp only [Do_of]
 refine hname _ _ _ ?_
 have k4 : ¬ (nameOk f.name = false ∧ (f.name ≠ [] ∨ f.bits = false)) → ¬ (f.name ≠ [] ∧ ((t.fields.take i).map GField.name).contains f.name = true) → S.f203_k4 Φ (.fptr t.cells) (.ptr H.n 0) Q [] H1 := by
  intro n1 n2
  have e1 : sndF t.packed ((t.fields.take i).map GField.name) f = if sndT f.type ≠ 0 then sndT f.type
    else if (f.bits = false ∧ f.width ≠ 0) ∨ (f.bits = true ∧ (f.type.kind ≠ 1 ∨ t.packed = true)) then 8
    else if f.bits = true ∧ (f.width < 0 ∨ 8 * f.type.size < f.width ∨ (f.width = 0 ∧ f.name ≠ [])) then 9
    else 0 := by rw [sndF_eq, if_neg n1, if_neg n2]
  rw [e1] at fin
  clear e1
  simp only [S.f203_k4, afaddr, Nat.zero_add, Do_of, r1]
  refine hs _ _ ?_
  simp only [abin_neq, Do_of, Gd_true]
  refine ite_both (fun h => ?_) (fun h => ?_)
  · exact fin _ (by rw [if_pos (by simpa using h)])
  · have h0 : sndT f.type = 0 := by simpa using h
    rw [if_neg (by simpa using h0)] at fin
    have k2 : ∀ b : Bool, (b = true ↔ ((f.bits = false ∧ f.width ≠ 0) ∨ (f.bits = true ∧ (f.type.kind ≠ 1 ∨ t.packed = true)))) → JoinP (S.f203_k2 Φ (.ptr H.n 0) Q) [.bool b] H1 := by
     intro b hb
     simp only [JoinP_def, S.f203_k2, sl_zero, Gd_true, afaddr, Nat.zero_add, Do_of, r7]
     refine ite_both (fun h => ?_) (fun h => ?_)
     · exact fin _ (by rw [if_pos (hb.1 h)])
     · have hn : ¬ ((f.bits = false ∧ f.width ≠ 0) ∨ (f.bits = true ∧ (f.type.kind ≠ 1 ∨ t.packed = true))) := fun x => h (hb.2 x)
       rw [if_neg hn] at fin
       have k1 : ∀ b : Bool, (b = true ↔ (f.bits = true ∧ (f.width < 0 ∨ 8 * f.type.size < f.width ∨ (f.width = 0 ∧ f.name ≠ [])))) → JoinP (S.f203_k1 Φ Q) [.bool b] H1 := by
        intro b hb
        simp only [JoinP_def, S.f203_k1, sl_zero, Gd_true]
        refine ite_both (fun h => ?_) (fun h => ?_)
        · exact fin _ (by rw [if_pos (hb.1 h)])
        · exact fin _ (by rw [if_neg fun x => h (hb.2 x)])
       simp only [Gd3_true]
       refine ite_both (fun hbits => ?_) (fun hbits => ?_)
       · have hk1 : f.type.kind = 1 := by
           by_cases hk : f.type.kind = 1
           · exact hk
           · exact absurd (.inr ⟨hbits, .inl hk⟩) hn
         have hsz : 1 ≤ f.type.size ∧ f.type.size ≤ 8 := by
          rw [sndT_eq, hk1] at h0
          split at h0
          · cases h0
          · simp only [if_true] at h0
            split at h0
            · rename_i hp
              simp [pow2] at hp
              omega
            · cases h0
         simp only [r8, abin_lss, Do_of, Gd3_false]
         refine ite_both (fun hw => ?_) (fun hw => ?_)
         · simp only [rs, Do_of, abin_mul]
           rw [wrap_i64 (by omega) (by omega)]
           simp only [abin_gtr, Do_of, Gd3_false]
           refine ite_both (fun hw2 => ?_) (fun hw2 => ?_)
           · simp only [abin_eql, Do_of, Gd3_true]
             refine ite_both (fun hw3 => ?_) (fun hw3 => ?_)
             · simp only [r0, Do_of, abin_strne]
               refine k1 _ ?_
               simp only [decide_eq_false_iff_not, gt_iff_lt, beq_iff_eq] at hw hw2 hw3
               simp [hbits, hw3]; omega
             · refine k1 _ ?_
               simp only [decide_eq_false_iff_not, gt_iff_lt, beq_iff_eq] at hw hw2 hw3
               simp [hbits, hw3]; omega
           · refine k1 _ ?_
             simp only [decide_eq_false_iff_not, Decidable.not_not, gt_iff_lt] at hw2
             simp [hbits, hw2]
         · refine k1 _ ?_
           simp only [decide_eq_false_iff_not, Decidable.not_not] at hw
           simp [hbits, hw]
       · refine k1 _ ?_
         simp [hbits]
    have k3 : ∀ b : Bool, (b = true ↔ (f.bits = false ∧ f.width ≠ 0)) → JoinP (S.f203_k3 Φ (.fptr t.cells) (.ptr H.n 0) Q) [.bool b] H1 := by
     intro b hb
     simp only [JoinP_def, S.f203_k3, sl_zero, Gd3_false, afaddr, Nat.zero_add, Do_of, r7]
     refine ite_both (fun h => ?_) (fun h => ?_)
     · have hn : ¬ (f.bits = false ∧ f.width ≠ 0) := fun x => by rw [hb.2 x] at h; cases h
       simp only [Gd3_true]
       refine ite_both (fun hbits => ?_) (fun hbits => ?_)
       · simp only [rk, abin_neq, Do_of, Gd3_false]
         refine ite_both (fun hk => ?_) (fun hk => ?_)
         · have hl2 : aload H1 1 false (.fptr (t.cells.drop 2)) = some (.bool t.packed) := ty_l2 t H1
           simp only [hl2, Do_of]
           refine k2 _ ?_
           simp only [bne_eq_false_iff_eq] at hk
           simp [hbits, hk]
         · refine k2 _ ?_
           simp only [Bool.not_eq_false, bne_iff_ne, ne_eq] at hk
           simp [hbits, hk]
       · refine k2 _ ?_
         simp only [Bool.not_eq_true] at hbits
         simp only [hbits] at hn ⊢
         simp at hn
         simp [hn]
     · refine k2 _ ?_
       have := hb.1 (by simpa using h)
       simp [this]
    simp only [afaddr, Nat.zero_add, Do_of, r7, aun_not, Gd3_true, r8, abin_neq]
    refine ite_both (fun hbits => ?_) (fun hbits => ?_)
    · refine k3 _ ?_
      simp only [Bool.not_eq_true'] at hbits
      simp [hbits]
    · refine k3 _ ?_
      simp only [Bool.not_eq_true', Bool.not_eq_false] at hbits
      simp [hbits]
 have k5 : ∀ b : Bool, ¬ (nameOk f.name = false ∧ (f.name ≠ [] ∨ f.bits = false)) → (b = true ↔ (f.name ≠ [] ∧ ((t.fields.take i).map GField.name).contains f.name = true)) → JoinP (S.f203_k5 Φ (.fptr t.cells) (.ptr H.n 0) Q) [.bool b] H1 := by
  intro b n1 hb
  simp only [JoinP_def, S.f203_k5, sl_zero, Gd_true]
  refine ite_both (fun h => ?_) (fun h => ?_)
  · exact fin _ (by rw [sndF_eq, if_neg n1, if_pos (hb.1 h)])
  · exact k4 n1 fun x => h (hb.2 x)
 have k6 : ∀ b : Bool, (b = true ↔ (nameOk f.name = false ∧ (f.name ≠ [] ∨ f.bits = false))) → JoinP (S.f203_k6 Φ (.int .i64 i) (.fptr t.cells) (.ptr H.n 0) Q) [.bool b] H1 := by
  intro b hb
  simp only [JoinP_def, S.f203_k6, sl_zero, Gd_true, afaddr, Nat.zero_add, Nat.add_zero, Do_of, r0, abin_strne, Gd3_true]
  refine ite_both (fun h => ?_) (fun h => ?_)
  · exact fin _ (by rw [sndF_eq, if_pos (hb.1 h)])
  · have n1 : ¬ (nameOk f.name = false ∧ (f.name ≠ [] ∨ f.bits = false)) := fun x => h (hb.2 x)
    refine ite_both (fun hne => ?_) (fun hne => ?_)
    · have hl3 : aload H1 1 false (.fptr (t.cells.drop 3)) = some (lstA GField.cells t.fields) := ty_l3 t H1
      simp only [hl3, Do_of]
      rw [slice_take GField.len (Nat.le_of_lt hlt)]
      simp only [Do_of]
      refine fields_contains hT (p := fun g => g.name == f.name) (fun x hx R hR => ?_) (by rw [List.length_take]; omega) ?_
      · exact S.cl_f209 hT (field_c1 hat (fd_t0 f) hR)
      · refine k5 _ n1 ?_
        simp only [Bool.not_eq_true', beq_eq_false_iff_ne, ne_eq] at hne
        rw [List.any_eq_true, List.contains_iff_mem, List.mem_map]
        simp only [beq_iff_eq, ne_eq, hne, not_false_eq_true, true_and]
    · refine k5 _ n1 ?_
      simp only [Bool.not_eq_true', beq_eq_false_iff_ne, ne_eq, Decidable.not_not] at hne
      simp [hne]
 simp only [aun_not, Do_of, Gd3_true, r0, abin_strne, Gd3_false, r7]
 refine ite_both (fun h1 => ?_) (fun h1 => ?_)
 · simp only [Bool.not_eq_true'] at h1
   refine ite_both (fun h2 => ?_) (fun h2 => ?_)
   · refine k6 _ ?_
     simp only [Bool.not_eq_false', beq_iff_eq] at h2
     simp [h1, h2, nameOk]
   · refine k6 _ ?_
     simp only [Bool.not_eq_false', beq_iff_eq] at h2
     simp [h1, h2]
 · refine k6 _ ?_
   simp only [Bool.not_eq_true', Bool.not_eq_false] at h1
   simp [h1]
theorem kind_group_spec {t : GType} (hl : t.fields.length ≤ maxLen)
  (hfield : t.fields.length ≤ 32 → ∀ (i : Nat) (f : GField), t.fields[i]? = some f → Val Φ K.f203 [.agg t.cells, .int .i64 i] (.int .i64 (sndF t.packed ((t.fields.take i).map GField.name) f)))
  (hQ : Q (.int .i64 (if t.fields.length < 1 ∨ 32 < t.fields.length then 12 else sndFs t.packed [] t.fields)) H) : S.f179 Φ (.agg t.cells) H Q := by
 have fin : ∀ v, v = (if t.fields.length < 1 ∨ 32 < t.fields.length then 12 else sndFs t.packed [] t.fields) → Q (.int .i64 v) H := fun v h => by rw [h]; exact hQ
 clear hQ
 unfold S.f179
 simp only [ty_box, DoH_some, ty_addr, ty_l3, lstA_len', abin_lss, abin_gtr, Do_of, Gd3_false]
 have k3 : ∀ b : Bool, (b = true ↔ (t.fields.length < 1 ∨ 32 < t.fields.length)) → JoinP (S.f179_k3 Φ (.fptr t.cells) Q) [.bool b] H := by
  intro b hb
  simp only [JoinP_def, S.f179_k3, sl_zero, Gd_true]
  refine ite_both (fun h => ?_) (fun h => ?_)
  · exact fin _ (by rw [if_pos (hb.1 h)])
  · have hn : ¬ (t.fields.length < 1 ∨ 32 < t.fields.length) := fun x => h (hb.2 x)
    rw [if_neg hn] at fin
    simp only [S.f179_k2, ty_addr, ty_l3, lstA_len', Do_of]
    have main : ∀ (rest : List GField) (i : Nat), t.fields.drop i = rest → sndFs t.packed ((t.fields.take i).map GField.name) rest = sndFs t.packed [] t.fields → LoopP (S.f179_l1 Φ (.fptr t.cells) (.int .i64 t.fields.length) Q) ([.int .i64 i], H) := by
     intro rest
     induction rest with
     | nil =>
      intro i hd hs
      have hle := drop_nil_le hd
      refine LoopP.step ?_
      simp only [S.f179_l1, sl_zero, abin_lss, Do_of, Gd_true]
      rw [if_neg (by simp only [decide_eq_true_eq]; omega)]
      exact fin _ (by rw [← hs]; rfl)
     | cons f rest ih =>
      intro i hd hs
      obtain ⟨hlt, hf, hd'⟩ := drop_cons_lt hd
      refine LoopP.step ?_
      simp only [S.f179_l1, sl_zero, abin_lss, Do_of, Gd_true]
      rw [if_pos (by simp only [decide_eq_true_eq]; omega)]
      simp only [ty_all, Do_of]
      refine hfield (by omega) i f hf _ _ ?_
      simp only [abin_neq, Do_of, Gd_true]
      simp only [sndFs] at hs
      refine ite_both (fun h => ?_) (fun h => ?_)
      · have h' : sndF t.packed ((t.fields.take i).map GField.name) f ≠ 0 := by simpa using h
        rw [if_pos h'] at hs
        exact fin _ hs
      · have h' : ¬ sndF t.packed ((t.fields.take i).map GField.name) f ≠ 0 := by simpa using h
        rw [if_neg h'] at hs
        simp only [abin_add, Do_of]
        rw [wrap_i64 (by omega) (by omega), show ((i : Int) + 1) = ((i + 1 : Nat) : Int) by simp]
        refine ih (i + 1) hd' ?_
        rw [List.take_add_one, hf]
        simpa using hs
    exact main t.fields 0 rfl rfl
 refine ite_both (fun h => ?_) (fun h => ?_)
 · refine k3 _ ?_
   simp only [decide_eq_false_iff_not] at h
   simp only [decide_eq_true_eq, gt_iff_lt]; omega
 · refine k3 _ ?_
   simp only [decide_eq_false_iff_not, Decidable.not_not] at h
   simp only [true_iff]; omega
theorem kind_sound_spec (hT : Cl Φ S.tab_Chk) {t : GType} (hgroup : Val Φ K.f179 [.agg t.cells] (.int .i64 (if t.fields.length < 1 ∨ 32 < t.fields.length then 12 else sndFs t.packed [] t.fields)))
  (helem : ∀ e ∈ t.elem, Val Φ K.f152 [.agg e.cells] (.int .i64 (sndT e))) (hQ : Q (.int .i64 (sndT t)) H) : S.f152 Φ (.agg t.cells) H Q := by
 have fin : ∀ v, v = sndT t → Q (.int .i64 v) H := fun v h => by rw [h]; exact hQ
 clear hQ
 rw [sndT_eq] at fin
 unfold S.f152
 simp only [ty_box, DoH_some, ty_all, Do_of]
 refine S.cl_f177 hT (kind_only_spec ?_)
 simp only [aun_not, Do_of, Gd_true]
 refine ite_both (fun h => ?_) (fun h => ?_)
 · exact fin _ (by rw [if_pos (by simpa using h)])
 · have ho : onlyM t.kind t.size t.packed t.fields.length t.count t.elem.length = true := by simpa using h
   rw [ho] at fin
   simp only [Bool.true_eq_false, if_false] at fin
   simp only [ty_addr, ty_l0, ty_l1, ty_l4, ty_l5, abin_eql, abin_lss, abin_gtr, Do_of, Gd_true, Gd3_false, beq_iff_eq]
   refine ite_both (fun h1 => ?_) (fun h1 => ?_)
   · rw [if_pos h1] at fin
     refine S.cl_f178 hT (kind_power_spec (.inl rfl) ?_)
     simp only [aun_not, Do_of, Gd_true]
     refine ite_both (fun h2 => ?_) (fun h2 => ?_)
     · exact fin _ (by rw [if_neg (by simpa using h2)])
     · exact fin _ (by rw [if_pos (by simpa using h2)])
   · rw [if_neg h1] at fin
     refine ite_both (fun h2 => ?_) (fun h2 => ?_)
     · rw [if_pos h2] at fin
       refine S.cl_f178 hT (kind_power_spec (.inr rfl) ?_)
       simp only [aun_not, Do_of, Gd_true]
       refine ite_both (fun h2 => ?_) (fun h2 => ?_)
       · exact fin _ (by rw [if_neg (by simpa using h2)])
       · exact fin _ (by rw [if_pos (by simpa using h2)])
     · rw [if_neg h2] at fin
       refine ite_both (fun h5 => ?_) (fun h5 => ?_)
       · rw [if_pos h5] at fin
         obtain ⟨e, he⟩ : ∃ e, t.elem = [e] := by
          have : t.elem.length = 1 := by
           simp only [onlyM, h5] at ho
           simp at ho
           exact ho.2
          exact List.length_eq_one_iff.1 this
         have k2 : ∀ b : Bool, (b = true ↔ (t.count < 1 ∨ 65536 < t.count)) → JoinP (S.f152_k2 Φ (.fptr t.cells) Q) [.bool b] H := by
          intro b hb
          simp only [JoinP_def, S.f152_k2, sl_zero, Gd_true]
          refine ite_both (fun h => ?_) (fun h => ?_)
          · exact fin _ (by rw [if_pos (hb.1 h)])
          · rw [if_neg fun x => h (hb.2 x)] at fin
            simp only [S.f152_k1, ty_addr, ty_l5, Do_of]
            have ha : aiaddr none 6 (lstA GType.cells t.elem) (.int .i64 0) = some (elA GType.cells 6 t.elem 0) := lstA_addr (by rw [he]; simp)
            rw [ha]
            simp only [Do_of]
            rw [elA_load GType.len (by decide) _ (show t.elem[0]? = some e by rw [he]; rfl)]
            simp only [Do_of]
            refine helem e (by rw [he]; simp) _ _ ?_
            exact fin _ (by rw [he]; rfl)
         refine ite_both (fun h => ?_) (fun h => ?_)
         · refine k2 _ ?_
           have h' : ¬ t.count < 1 := by simpa using h
           simp only [decide_eq_true_eq, gt_iff_lt]; omega
         · refine k2 _ ?_
           have h' : t.count < 1 := by simpa using h
           simp only [true_iff]; omega
       · rw [if_neg h5] at fin
         refine hgroup _ _ ?_
         exact fin _ rfl
end
section
variable {C : Ctx} (hGT : GTok C) (hT : Cl (ACall C) S.tab_Chk)
include hGT hT
theorem kindName_val (s : List UInt8) : Val (ACall C) K.f71 [.str s] (.bool (nameOk s)) := Val.of hGT rfl rfl fun Q hQ => S.cl_f71 hT (kind_Name_spec hT hQ)
theorem kindDepth_val : ∀ (m : Nat), 1 ≤ m → m ≤ 65 → ∀ t : GType, t.ok → Val (ACall C) K.f176 [.agg t.cells, .int .i64 m] (.int .i64 (depT m t)) := by
 intro m
 induction m with
 | zero => intro h; omega
 | succ m ih =>
  intro _ hm t ht
  have hok : t.fields.length ≤ maxLen ∧ (∀ f ∈ t.fields, f.ok) ∧ t.elem.length ≤ maxLen ∧ ∀ e ∈ t.elem, e.ok := by
   cases t with
   | mk kind size packed fields count elem =>
    obtain ⟨_, _, h1, h2, _, h3, h4⟩ := ht
    exact ⟨h1, GField.oks_iff.1 h2, h3, GType.oks_iff.1 h4⟩
  refine Val.of hGT (by simp [AV.frozs, AV.froz, GType.froz]) rfl fun Q hQ => S.cl_f176 hT (kind_depth_spec (by omega) hm hok.1 hok.2.2.1 (fun h1 f hf => ?_) (fun h1 e he => ?_) hQ)
  · have := ih (by omega) (by omega) f.type (by have := hok.2.1 f hf; cases f; exact this.2.1)
    exact this
  · exact ih (by omega) (by omega) e (hok.2.2.2 e he)
theorem kindSound_val : ∀ t : GType, t.ok → Val (ACall C) K.f152 [.agg t.cells] (.int .i64 (sndT t)) := by
 refine GType.ind fun t ihf ihe ht => ?_
 have hok : t.fields.length ≤ maxLen ∧ (∀ f ∈ t.fields, f.ok) ∧ t.elem.length ≤ maxLen ∧ ∀ e ∈ t.elem, e.ok := by
  cases t with
  | mk kind size packed fields count elem =>
   obtain ⟨_, _, h1, h2, _, h3, h4⟩ := ht
   exact ⟨h1, GField.oks_iff.1 h2, h3, GType.oks_iff.1 h4⟩
 have hfield : t.fields.length ≤ 32 → ∀ (i : Nat) (f : GField), t.fields[i]? = some f → Val (ACall C) K.f203 [.agg t.cells, .int .i64 i] (.int .i64 (sndF t.packed ((t.fields.take i).map GField.name) f)) := by
  intro hl i f hf
  have hmem := List.mem_of_getElem? hf
  exact Val.of hGT (by simp [AV.frozs, AV.froz, GType.froz]) rfl fun Q hQ => S.cl_f203 hT (kind_field_spec hT hf hl (ihf f hmem (by have := hok.2.1 f hmem; cases f; exact this.2.1)) (kindName_val hGT hT) hQ)
 have hgroup : Val (ACall C) K.f179 [.agg t.cells] (.int .i64 (if t.fields.length < 1 ∨ 32 < t.fields.length then 12 else sndFs t.packed [] t.fields)) :=
  fun H Q hQ => S.cl_f179 hT (kind_group_spec hok.1 hfield hQ)
 exact fun H Q hQ => S.cl_f152 hT (kind_sound_spec hT hgroup (fun e he => ihe e he (hok.2.2.2 e he)) hQ)
theorem kindSoundM_val (t : GType) (ht : t.ok) : Val (ACall C) K.f125 [.agg t.cells] (.int .i64 (soundM t)) := by
 intro H Q hQ
 refine S.cl_f125 hT ?_
 unfold S.f125
 simp only [ty_box, DoH_some, ty_all, Do_of]
 refine S.cl_f151 hT ?_
 unfold S.f151
 simp only [ty_box, DoH_some, ty_all, Do_of]
 refine kindDepth_val hGT hT 65 (by omega) (by omega) t ht _ _ ?_
 simp only [abin_gtr, Do_of, Gd_true]
 unfold soundM at hQ
 refine ite_both (fun h => ?_) (fun h => ?_)
 · rw [if_pos (by simpa using h)] at hQ; exact hQ
 · rw [if_neg (by simpa using h)] at hQ
   exact kindSound_val hGT hT t ht _ _ hQ
end
end Rb

namespace Rb
open Go
def zeroC : List AV := [.int .i64 0, .int .i64 0, .bool false, .lst .nil 0 [], .int .i64 0, .lst .nil 0 []]
def resV (r : Int × GType) : AV := if r.1 = 0 then .tup [.agg r.2.cells, .int .i64 0] else .tup [.agg zeroC, .int .i64 r.1]
def partM (t : GType) (x : GPart) : Int × GType :=
 if 1 < x.index.length ∨ (x.index.length = 1 ↔ x.field ≠ []) then (8, t)
 else if x.index.length = 1 ∧ t.kind = 5 then (match t.elem with | e :: _ => (0, e) | [] => (8, t))
 else if x.index.length = 1 ∨ ¬ (t.kind = 3 ∨ t.kind = 4) then (8, t)
 else match t.fields.find? (fun f => f.name == x.field) with | some f => (0, f.type) | none => (6, t)
def partsM : GType → List GPart → Int × GType
 | t, [] => (0, t)
 | t, p :: r => if (partM t p).1 ≠ 0 then partM t p else partsM (partM t p).2 r
def placeM (vars : List GVar) (x : GPlace) : Int × GType :=
 match vars.find? (fun v => v.name == x.var) with
 | none => (6, ⟨0, 0, false, [], 0, []⟩)
 | some v => if soundM v.type ≠ 0 then (soundM v.type, v.type) else partsM v.type x.parts
theorem sndFs_mem {packed : Bool} : ∀ {l : List GField} {seen : List (List UInt8)}, sndFs packed seen l = 0 → ∀ f ∈ l, sndT f.type = 0
 | [], _, _, f, hf => by cases hf
 | g :: r, seen, h, f, hf => by
  simp only [sndFs] at h
  have h0 : sndF packed seen g = 0 := by
   by_cases hz : sndF packed seen g = 0
   · exact hz
   · rw [if_pos hz] at h; exact absurd h hz
  rw [if_neg (by simpa using h0)] at h
  rcases List.mem_cons.1 hf with rfl | hf
  · rw [sndF_eq] at h0
    split at h0
    · cases h0
    · split at h0
      · cases h0
      · split at h0
        · rename_i hz; exact absurd h0 hz
        · rename_i hz; simpa using hz
  · exact sndFs_mem h f hf
theorem snd_arr {t : GType} (h : sndT t = 0) (hk : t.kind = 5) : ∃ e, t.elem = [e] ∧ sndT e = 0 := by
 rw [sndT_eq, hk] at h
 split at h
 · cases h
 · rename_i ho
   simp only [Bool.not_eq_false] at ho
   obtain ⟨e, he⟩ : ∃ e, t.elem = [e] := by
    have : t.elem.length = 1 := by
     simp [onlyM] at ho
     exact ho.2
    exact List.length_eq_one_iff.1 this
   refine ⟨e, he, ?_⟩
   simp at h
   split at h
   · cases h
   · rw [he] at h; exact h
theorem snd_grp {t : GType} (h : sndT t = 0) (hk : t.kind = 3 ∨ t.kind = 4) : (∀ f ∈ t.fields, sndT f.type = 0) ∧ t.fields.length ≤ 32 := by
 rw [sndT_eq] at h
 have k1 : t.kind ≠ 1 := by omega
 have k2 : t.kind ≠ 2 := by omega
 have k5 : t.kind ≠ 5 := by omega
 rw [if_neg k1, if_neg k2, if_neg k5] at h
 split at h
 · cases h
 · split at h
   · cases h
   · exact ⟨fun f hf => sndFs_mem h f hf, by omega⟩
theorem partM_snd {t : GType} {x : GPart} (h : sndT t = 0) (h0 : (partM t x).1 = 0) : sndT (partM t x).2 = 0 := by
 unfold partM at h0 ⊢
 split
 · rename_i hc; rw [if_pos hc] at h0; cases h0
 · rename_i hc; rw [if_neg hc] at h0
   split
   · rename_i hc; obtain ⟨e, he, hs⟩ := snd_arr h hc.2; rw [he]; exact hs
   · rename_i hc; rw [if_neg hc] at h0
     split
     · rename_i hc; rw [if_pos hc] at h0; cases h0
     · rename_i hc; rw [if_neg hc] at h0
       split
       · rename_i f hf
         exact (snd_grp h (by omega)).1 f (List.mem_of_find?_eq_some hf)
       · rename_i hf; rw [hf] at h0; cases h0
theorem find_idx {α : Type} (p : α → Bool) (xs : List α) : (∃ i x, xs.findIdx? p = some i ∧ xs.find? p = some x ∧ xs[i]? = some x) ∨ (xs.findIdx? p = none ∧ xs.find? p = none) := by
 induction xs with
 | nil => right; simp
 | cons y ys ih =>
  rw [List.findIdx?_cons, List.find?_cons]
  by_cases h : p y = true
  · left; exact ⟨0, y, by simp [h], by simp [h], rfl⟩
  · simp only [h, if_false, Bool.false_eq_true]
    rcases ih with ⟨i, x, h1, h2, h3⟩ | ⟨h1, h2⟩
    · left; exact ⟨i + 1, x, by simp [h1], by simp [h2], by simpa using h3⟩
    · right; simp [h1, h2]
section
variable {Φ : Calls'} {H : AH} {Q : Post}
theorem At.put {H : AH} {id n : Nat} {cs ds : List AV} (h : At H id (.row cs)) (hc : cs.length = n) (hd : ds.length = n) (hs : ds.all AV.scalar = true) : astore H n (.ptr id 0) (.agg ds) = some (H.set id (.row ds)) := by
 rw [h.store, if_pos ⟨rfl, hd, hs, by omega⟩]
 congr 3
 show setCells cs 0 ds = ds
 rw [setCells_all (by omega)]; rfl
theorem At.all {H : AH} {id n : Nat} {cs : List AV} (h : At H id (.row cs)) (hc : cs.length = n) : aload H n true (.ptr id 0) = some (.agg cs) := by
 rw [h.load, takeCells_whole hc]
theorem pl_box (x : GPart) (H : AH) : aboxv H false 2 (.agg x.cells) = some (.fptr x.cells, H) := by unfold aboxv; rw [if_pos ⟨rfl, x.len⟩]; rfl
theorem pl_addr (x : GPart) (i : Nat) : afaddr i (.fptr x.cells) = some (.fptr (x.cells.drop i)) := rfl
theorem pl_l0 (x : GPart) (H : AH) : aload H 1 false (.fptr (x.cells.drop 0)) = some (.str x.field) := by rw [GPart.cells_eq]; rfl
theorem pl_l1 (x : GPart) (H : AH) : aload H 1 false (.fptr (x.cells.drop 1)) = some (lstA GExpr.cells x.index) := by rw [GPart.cells_eq]; rfl
theorem zero_build : abuild [.int .i64 0, .int .i64 0, .bool false, .lst .nil 0 [], .int .i64 0, .lst .nil 0 []] [] = some (.agg zeroC) := rfl
theorem part_c1 {g : GField} {x : GPart} (hQ : Q (.bool (g.name == x.field)) H) : S.f188 Φ (.agg g.cells) (.fptr x.cells) H Q := by
 unfold S.f188
 have hb : aboxv H false 9 (.agg g.cells) = some (.fptr g.cells, H) := by unfold aboxv; rw [if_pos ⟨rfl, g.len⟩]; rfl
 have l0 : aload H 1 false (.fptr (g.cells.drop 0)) = some (.str g.name) := fd_t0 g
 have l1 : aload H 1 false (.fptr (x.cells.drop 0)) = some (.str x.field) := pl_l0 x H
 rw [hb]
 simp only [DoH_some, afaddr, Do_of, l0, l1, abin_streq']
 exact hQ
theorem check_part_spec (hT : Cl Φ S.tab_Chk) {t : GType} {x : GPart} (hs : sndT t = 0) (hl : x.index.length ≤ maxLen) (hQ : ∀ H', Q (resV (partM t x)) H') : S.f160 Φ (.agg t.cells) (.agg x.cells) H Q := by
 have fin : ∀ v H', v = resV (partM t x) → Q v H' := fun v H' h => by rw [h]; exact hQ H'
 clear hQ
 unfold S.f160
 simp only [ty_box, pl_box, DoH_some, ty_addr, ty_l0, abin_eql, Do_of, Gd3_false, JoinP_def, abox, if_true]
 have hat := At.new H (.row zeroC)
 change At (H.push (.row [.int .i64 0, .int .i64 0, .bool false, .lst .nil 0 [], .int .i64 0, .lst .nil 0 []])) H.n _ at hat
 generalize (H.push (.row [.int .i64 0, .int .i64 0, .bool false, .lst .nil 0 [], .int .i64 0, .lst .nil 0 []])) = H1 at *
 generalize H.n = id at *
 have bad : ∀ e : Int, e ≠ 0 → (partM t x).1 = e → Do (abuild [.int .i64 0, .int .i64 0, .bool false, .lst .nil 0 [], .int .i64 0, .lst .nil 0 []] []) fun x31 =>
   Do (astore H1 6 (.ptr id 0) x31) fun H32 =>
   Do (aload H32 6 true (.ptr id 0)) fun x33 =>
   Q (.tup [x33, (.int .i64 e)]) H32 := by
  intro e he h
  rw [zero_build]
  simp only [Do_of]
  rw [hat.put (n := 6) rfl rfl rfl]
  simp only [Do_of]
  rw [(hat.set _).all (n := 6) rfl]
  simp only [Do_of]
  refine fin _ _ ?_
  unfold resV
  rw [h, if_neg he]
 have good : ∀ u : GType, partM t x = (0, u) → ∀ H1, At H1 id (.row zeroC) → Do (astore H1 6 (.ptr id 0) (.agg u.cells)) fun H72 =>
   Do (aload H72 6 true (.ptr id 0)) fun x73 =>
   Q (.tup [x73, (.int .i64 0)]) H72 := by
  intro u hu H1 hat
  rw [hat.put (n := 6) rfl u.len u.scalar]
  simp only [Do_of]
  rw [(hat.set _).all u.len]
  simp only [Do_of]
  refine fin _ _ ?_
  unfold resV
  rw [hu]; rfl
 have k5 : ∀ b : Bool, (b = true ↔ (t.kind = 3 ∨ t.kind = 4)) → S.f160_k5 Φ (.fptr t.cells) (.fptr x.cells) (.ptr id 0) Q [.bool b] H1 := by
  intro b hb
  have k4 : ∀ c : Bool, (c = true ↔ (1 < x.index.length ∨ (x.index.length = 1 ↔ x.field ≠ []))) → S.f160_k4 Φ (.fptr t.cells) (.fptr x.cells) (.ptr id 0) [.bool b] Q [.bool c] H1 := by
   intro c hc
   simp only [S.f160_k4, sl_zero, Gd_true]
   refine ite_both (fun h => ?_) (fun h => ?_)
   · exact bad 8 (by decide) (by unfold partM; rw [if_pos (hc.1 h)])
   · have n1 : ¬ (1 < x.index.length ∨ (x.index.length = 1 ↔ x.field ≠ [])) := fun y => h (hc.2 y)
     have k3 : ∀ d : Bool, (d = true ↔ (x.index.length = 1 ∧ t.kind = 5)) → S.f160_k3 Φ (.fptr t.cells) (.fptr x.cells) (.ptr id 0) [.bool b] Q [.bool d] H1 := by
      intro d hd
      simp only [S.f160_k3, sl_zero, Gd_true]
      refine ite_both (fun h => ?_) (fun h => ?_)
      · obtain ⟨h1, h5⟩ := hd.1 h
        obtain ⟨e, he, _⟩ := snd_arr hs h5
        simp only [ty_addr, ty_l5, Do_of]
        have ha : aiaddr none 6 (lstA GType.cells t.elem) (.int .i64 0) = some (elA GType.cells 6 t.elem 0) := lstA_addr (by rw [he]; simp)
        rw [ha]
        simp only [Do_of]
        rw [elA_load GType.len (by decide) _ (show t.elem[0]? = some e by rw [he]; rfl)]
        simp only [Do_of]
        exact good e (by unfold partM; rw [if_neg n1, if_pos ⟨h1, h5⟩, he]) _ hat
      · have n2 : ¬ (x.index.length = 1 ∧ t.kind = 5) := fun y => h (hd.2 y)
        have k2 : ∀ g : Bool, (g = true ↔ (x.index.length = 1 ∨ ¬ (t.kind = 3 ∨ t.kind = 4))) → S.f160_k2 Φ (.fptr t.cells) (.fptr x.cells) (.ptr id 0) Q [.bool g] H1 := by
         intro g hg
         simp only [S.f160_k2, sl_zero, Gd_true]
         refine ite_both (fun h => ?_) (fun h => ?_)
         · exact bad 8 (by decide) (by unfold partM; rw [if_neg n1, if_neg n2, if_pos (hg.1 h)])
         · have n3 : ¬ (x.index.length = 1 ∨ ¬ (t.kind = 3 ∨ t.kind = 4)) := fun y => h (hg.2 y)
           have hgrp : t.kind = 3 ∨ t.kind = 4 := by omega
           obtain ⟨_, hlen⟩ := snd_grp hs hgrp
           simp only [JoinP_def, S.f160_k1, ty_addr, ty_l3, Do_of]
           refine S.cl_f182 hT ?_
           refine fieldIndex (p := fun f => f.name == x.field) (fun f _ R hR => S.cl_f188 hT (part_c1 hR)) (by omega) ?_
           simp only [abin_lss, Do_of, Gd_true]
           rcases find_idx (fun f : GField => f.name == x.field) t.fields with ⟨i, f, h1, h2, h3⟩ | ⟨h1, h2⟩
           · rw [h1]
             have hlt := (List.getElem?_eq_some_iff.1 h3).1
             rw [if_neg (by show ¬ (decide ((i : Int) < 0) = true); rw [decide_eq_true_eq]; omega)]
             simp only [idxI]
             rw [lstA_addr hlt]
             have hl6 : aload H1 6 true (.fptr (((t.fields.flatMap GField.cells).drop (i * 9)).drop 1)) = some (.agg f.type.cells) := by
              show takeCells _ 0 6 true = _
              rw [flatMap_drop GField.len]
              have hd : t.fields.drop i = f :: t.fields.drop (i + 1) := by
               rw [List.drop_eq_getElem_cons hlt]
               rw [List.getElem?_eq_getElem hlt] at h3
               simp at h3
               rw [h3]
              rw [hd, List.flatMap_cons, GField.cells_eq, List.cons_append, List.drop_succ_cons, List.drop_zero, List.append_assoc]
              exact takeCells_app f.type.len
             simp only [Do_of, elA, afaddr, hl6]
             exact good f.type (by unfold partM; rw [if_neg n1, if_neg n2, if_neg n3, h2]) _ hat
           · rw [h1]
             rw [if_pos (by simp [idxI])]
             exact bad 6 (by decide) (by unfold partM; rw [if_neg n1, if_neg n2, if_neg n3, h2])
        simp only [pl_addr, pl_l1, lstA_len', abin_eql, Do_of, Gd3_false, JoinP_def, aun_not]
        refine ite_both (fun h => ?_) (fun h => ?_)
        · refine k2 _ ?_
          simp only [beq_eq_false_iff_ne, ne_eq] at h
          have : ¬ x.index.length = 1 := by omega
          rw [← hb]
          simp [this]
        · refine k2 _ ?_
          simp only [Bool.not_eq_false, beq_iff_eq] at h
          have : x.index.length = 1 := by omega
          simp [this]
     simp only [pl_addr, pl_l1, lstA_len', abin_eql, Do_of, Gd3_true, JoinP_def, ty_addr, ty_l0]
     refine ite_both (fun h => ?_) (fun h => ?_)
     · refine k3 _ ?_
       simp only [beq_iff_eq] at h
       have : x.index.length = 1 := by omega
       simp [this]
     · refine k3 _ ?_
       simp only [beq_iff_eq] at h
       have : ¬ x.index.length = 1 := by omega
       simp [this]
  simp only [S.f160_k5, pl_addr, pl_l0, pl_l1, lstA_len', abin_gtr, abin_eql, abin_strne, abeq_def, Bool.false_eq_true, if_false, Do_of, Gd3_false, JoinP_def]
  refine ite_both (fun h => ?_) (fun h => ?_)
  · refine k4 _ ?_
    simp only [decide_eq_false_iff_not, gt_iff_lt] at h
    have h' : ¬ 1 < x.index.length := by omega
    simp only [h', false_or]
    by_cases hf : x.field = []
    · by_cases h1 : x.index.length = 1
      · simp [hf, h1]
      · have : ¬ ((x.index.length : Int) = 1) := by omega
        simp [hf, h1, this]
    · by_cases h1 : x.index.length = 1
      · simp [hf, h1]
      · have e1 : ((x.index.length : Int) == 1) = false := by rw [beq_eq_false_iff_ne]; omega
        have e2 : x.field.isEmpty = false := by simpa using hf
        simp [hf, h1, e1, e2]
  · refine k4 _ ?_
    simp only [decide_eq_false_iff_not, gt_iff_lt, Decidable.not_not] at h
    have h' : 1 < x.index.length := by omega
    simp [h']
 refine ite_both (fun h => ?_) (fun h => ?_)
 · refine k5 _ ?_
   simp only [beq_eq_false_iff_ne, ne_eq] at h
   simp [h]
 · refine k5 _ ?_
   simp only [Bool.not_eq_false, beq_iff_eq] at h
   simp [h]
end
end Rb

namespace Rb
open Go
theorem zeroC_froz : AV.frozs zeroC = true := rfl
theorem resV_froz (r : Int × GType) : (resV r).froz = true := by
 unfold resV
 split
 · simp [AV.froz, AV.frozs, GType.froz]
 · simp [AV.froz, AV.frozs, zeroC_froz]
theorem vr_t0 (v : GVar) : takeCells v.cells 0 1 false = some (.str v.name) := by unfold takeCells; rw [if_pos (by rw [v.len]; omega)]; rfl
theorem vr_type (v : GVar) (H : AH) {vars : List GVar} {i : Nat} (h : vars[i]? = some v) : aload H 6 true (.fptr (((vars.flatMap GVar.cells).drop (i * 7)).drop 1)) = some (.agg v.type.cells) := by
 have hlt := (List.getElem?_eq_some_iff.1 h).1
 show takeCells _ 0 6 true = _
 rw [flatMap_drop GVar.len]
 have hd : vars.drop i = v :: vars.drop (i + 1) := by
  rw [List.drop_eq_getElem_cons hlt]
  rw [List.getElem?_eq_getElem hlt] at h
  simp at h
  rw [h]
 rw [hd, List.flatMap_cons, GVar.cells, List.cons_append, List.drop_succ_cons, List.drop_zero]
 exact takeCells_app v.type.len
theorem pc_box (x : GPlace) (H : AH) : aboxv H false 2 (.agg x.cells) = some (.fptr x.cells, H) := by unfold aboxv; rw [if_pos ⟨rfl, x.len⟩]; rfl
theorem pc_addr (x : GPlace) (i : Nat) : afaddr i (.fptr x.cells) = some (.fptr (x.cells.drop i)) := rfl
theorem pc_l0 (x : GPlace) (H : AH) : aload H 1 false (.fptr (x.cells.drop 0)) = some (.str x.var) := by rw [GPlace.cells_eq]; rfl
theorem pc_l1 (x : GPlace) (H : AH) : aload H 1 false (.fptr (x.cells.drop 1)) = some (lstA GPart.cells x.parts) := by rw [GPlace.cells_eq]; rfl
section
variable {Φ : Calls'} {H : AH} {Q : Post}
theorem place_c1 {v : GVar} {x : GPlace} (hQ : Q (.bool (v.name == x.var)) H) : S.f159 Φ (.agg v.cells) (.fptr x.cells) H Q := by
 unfold S.f159
 have hb : aboxv H false 7 (.agg v.cells) = some (.fptr v.cells, H) := by unfold aboxv; rw [if_pos ⟨rfl, v.len⟩]; rfl
 have l0 : aload H 1 false (.fptr (v.cells.drop 0)) = some (.str v.name) := vr_t0 v
 have l1 : aload H 1 false (.fptr (x.cells.drop 0)) = some (.str x.var) := pc_l0 x H
 rw [hb]
 simp only [DoH_some, afaddr, Do_of, l0, l1, abin_streq']
 exact hQ
theorem varIndex {p : GVar → Bool} {key : Nat} {caps : List AV} {xs : List GVar} (hf : ∀ x ∈ xs, ∀ (R : Post), R (.bool (p x)) H → Φ key ([.agg x.cells] ++ caps) H R) (hl : xs.length ≤ 9223372036854775807)
  (hQ : Q (.int .i64 (idxI (xs.findIdx? p))) H) (hkb : bkey key = none := by first | assumption | rfl) : S.f97 Φ (lstA GVar.cells xs) (.fn key caps) H Q := by
 have h : IndexFunc 7 Φ (lstA GVar.cells xs) (.fn key caps) H Q := IndexFunc_spec GVar.len (by decide) hf hl hQ
 exact h
theorem check_Place_spec (hT : Cl Φ S.tab_Chk) {vars : List GVar} {x : GPlace} (hlv : vars.length ≤ maxLen) (hlp : x.parts.length ≤ maxLen)
  (hsound : ∀ v ∈ vars, Val Φ K.f125 [.agg v.type.cells] (.int .i64 (soundM v.type)))
  (hpart : ∀ (t : GType) (p : GPart), sndT t = 0 → p ∈ x.parts → Val Φ K.f160 [.agg t.cells, .agg p.cells] (resV (partM t p)))
  (hQ : ∀ H', Q (resV (placeM vars x)) H') : S.f133 Φ (lstA GVar.cells vars) (.agg x.cells) H Q := by
 have hm : maxLen = 9223372036854775807 := by decide
 rw [hm] at hlv hlp
 have fin : ∀ v H', v = resV (placeM vars x) → Q v H' := fun v H' h => by rw [h]; exact hQ H'
 clear hQ
 unfold S.f133
 simp only [pc_box, DoH_some, abox, if_true]
 have hat3 : At (H.push (.row zeroC)) H.n (.row zeroC) := At.new H _
 change At (H.push (.row [.int .i64 0, .int .i64 0, .bool false, .lst .nil 0 [], .int .i64 0, .lst .nil 0 []])) H.n _ at hat3
 generalize (H.push (.row [.int .i64 0, .int .i64 0, .bool false, .lst .nil 0 [], .int .i64 0, .lst .nil 0 []])) = H4 at *
 generalize H.n = id3 at *
 have bad : ∀ (e : Int) (H1 : AH), At H1 id3 (.row zeroC) → e ≠ 0 → (placeM vars x).1 = e → Do (abuild [.int .i64 0, .int .i64 0, .bool false, .lst .nil 0 [], .int .i64 0, .lst .nil 0 []] []) fun x31 =>
   Do (astore H1 6 (.ptr id3 0) x31) fun H32 =>
   Do (aload H32 6 true (.ptr id3 0)) fun x33 =>
   Q (.tup [x33, (.int .i64 e)]) H32 := by
  intro e H1 hat he h
  rw [zero_build]
  simp only [Do_of]
  rw [hat.put (n := 6) rfl rfl rfl]
  simp only [Do_of]
  rw [(hat.set _).all (n := 6) rfl]
  simp only [Do_of]
  refine fin _ _ ?_
  unfold resV
  rw [h, if_neg he]
 refine S.cl_f97 hT ?_
 refine varIndex (p := fun v => v.name == x.var) (fun v _ R hR => S.cl_f159 hT (place_c1 hR)) hlv ?_
 simp only [abin_lss, Do_of, Gd_true]
 rcases find_idx (fun v : GVar => v.name == x.var) vars with ⟨i, v, h1, h2, h3⟩ | ⟨h1, h2⟩
 · have hlt := (List.getElem?_eq_some_iff.1 h3).1
   have hmem := List.mem_of_getElem? h3
   have hpm : placeM vars x = if soundM v.type ≠ 0 then (soundM v.type, v.type) else partsM v.type x.parts := by unfold placeM; rw [h2]
   rw [h1, if_neg (by show ¬ (decide ((i : Int) < 0) = true); rw [decide_eq_true_eq]; omega)]
   simp only [idxI]
   rw [lstA_addr hlt]
   simp only [Do_of, elA, afaddr, vr_type v H4 h3, DoH_some, abox, if_true]
   rw [store_new _ _ _ 6 v.type.len v.type.scalar rfl]
   simp only [Do_of]
   rw [load_push, takeCells_whole v.type.len]
   simp only [Do_of]
   have hat14 : At (H4.push (.row v.type.cells)) H4.n (.row v.type.cells) := At.new H4 _
   have hne : id3 ≠ H4.n := hat3.lt_new
   have hat3' : At (H4.push (.row v.type.cells)) id3 (.row zeroC) := hat3.push _
   generalize (H4.push (.row v.type.cells)) = H5 at *
   generalize H4.n = id14 at *
   refine hsound v hmem _ _ ?_
   simp only [abin_neq, Do_of, Gd_true]
   refine ite_both (fun h => ?_) (fun h => ?_)
   · have h' : soundM v.type ≠ 0 := by simpa using h
     exact bad _ _ hat3' h' (by rw [hpm, if_pos h'])
   · have h' : soundM v.type = 0 := by simpa using h
     rw [if_neg (by simpa using h')] at hpm
     have hsn : sndT v.type = 0 := by
      unfold soundM at h'
      split at h'
      · cases h'
      · exact h'
     have main : ∀ (ps : List GPart) (i : Nat) (t : GType) (H1 : AH), x.parts.drop i = ps → At H1 id3 (.row zeroC) → At H1 id14 (.row t.cells) → sndT t = 0 → partsM t ps = placeM vars x →
       LoopP (S.f133_l2 Φ (.ptr id3 0) (.ptr id14 0) (lstA GPart.cells x.parts) (.int .i64 x.parts.length) Q) ([.int .i64 i], H1) := by
      intro ps
      induction ps with
      | nil =>
       intro i t H1 hd a3 a14 hst hfin
       have hle := drop_nil_le hd
       refine LoopP.step ?_
       simp only [S.f133_l2, sl_zero, abin_lss, Do_of, Gd_true]
       rw [if_neg (by simp only [decide_eq_true_eq]; omega)]
       simp only [JoinP_def, S.f133_k1]
       rw [a14.all t.len]
       simp only [Do_of]
       rw [a3.put (n := 6) rfl t.len t.scalar]
       simp only [Do_of]
       rw [(a3.set _).all t.len]
       simp only [Do_of]
       refine fin _ _ ?_
       rw [← hfin]; rfl
      | cons p ps ih =>
       intro i t H1 hd a3 a14 hst hfin
       obtain ⟨hlt, hp, hd'⟩ := drop_cons_lt hd
       refine LoopP.step ?_
       simp only [S.f133_l2, sl_zero, abin_lss, Do_of, Gd_true]
       rw [if_pos (by simp only [decide_eq_true_eq]; omega), lstA_addr hlt]
       simp only [Do_of]
       rw [elA_load GPart.len (by decide) _ hp]
       simp only [Do_of, DoH_some, abox, if_true]
       rw [store_new _ _ _ 2 p.len p.scalar rfl]
       simp only [Do_of]
       rw [(a14.push _).all t.len, load_push, takeCells_whole p.len]
       simp only [Do_of]
       refine hpart t p hst (List.mem_of_getElem? hp) _ _ ?_
       simp only [partsM] at hfin
       have b3 := a3.push (.row p.cells)
       have b14 := a14.push (.row p.cells)
       generalize H1.push (.row p.cells) = H2 at *
       by_cases he : (partM t p).1 = 0
       · rw [if_neg (by simpa using he)] at hfin
         have hr : resV (partM t p) = .tup [.agg (partM t p).2.cells, .int .i64 0] := by unfold resV; rw [if_pos he]
         rw [hr]
         simp only [aextract, List.getElem?_cons_zero, List.getElem?_cons_succ, Do_of]
         rw [store_new _ _ _ 6 (partM t p).2.len (partM t p).2.scalar rfl]
         simp only [Do_of, abin_neq, Gd_true]
         rw [if_neg (by decide), load_push, takeCells_whole (partM t p).2.len]
         simp only [Do_of]
         rw [(b14.push _).put t.len (partM t p).2.len (partM t p).2.scalar]
         simp only [Do_of, abin_add]
         rw [wrap_i64 (by omega) (by omega), show ((i : Int) + 1) = ((i + 1 : Nat) : Int) by simp]
         exact ih (i + 1) _ _ hd' ((b3.push _).set_ne hne _) ((b14.push _).set _) (partM_snd hst he) hfin
       · rw [if_pos he] at hfin
         have hr : resV (partM t p) = .tup [.agg zeroC, .int .i64 (partM t p).1] := by unfold resV; rw [if_neg he]
         rw [hr]
         simp only [aextract, List.getElem?_cons_zero, List.getElem?_cons_succ, Do_of]
         rw [store_new _ _ _ 6 rfl rfl rfl]
         simp only [Do_of, abin_neq, Gd_true]
         rw [if_pos (by simpa using he)]
         exact bad _ _ (b3.push _) he (by rw [← hfin])
     simp only [pc_addr, pc_l1, lstA_len', Do_of]
     exact main x.parts 0 v.type H5 rfl hat3' hat14 hsn hpm.symm
 · rw [h1, if_pos (by simp [idxI])]
   exact bad 6 _ hat3 (by decide) (by unfold placeM; rw [h2])
end
end Rb

namespace Rb
open Go
mutual
def looseT : GType → Bool
 | .mk kind size packed fields count elem => ((kind == 2 && decide (size > 1)) || looseEs elem) || looseFs fields
def looseF : GField → Bool
 | .mk name type bits width => looseT type
def looseEs : List GType → Bool
 | [] => false
 | t :: r => looseT t || looseEs r
def looseFs : List GField → Bool
 | [] => false
 | f :: r => looseF f || looseFs r
end
mutual
def tornT : GType → Bool
 | .mk kind size packed fields count elem => ((packed && looseT (.mk kind size packed fields count elem)) || tornEs elem) || tornFs fields
def tornF : GField → Bool
 | .mk name type bits width => tornT type
def tornEs : List GType → Bool
 | [] => false
 | t :: r => tornT t || tornEs r
def tornFs : List GField → Bool
 | [] => false
 | f :: r => tornF f || tornFs r
end
theorem looseEs_any : ∀ l : List GType, looseEs l = l.any looseT
 | [] => rfl
 | t :: r => by rw [looseEs, looseEs_any r, List.any_cons]
theorem looseFs_any : ∀ l : List GField, looseFs l = l.any fun f => looseT f.type
 | [] => rfl
 | f :: r => by rw [looseFs, looseFs_any r, List.any_cons]; cases f; rfl
theorem tornEs_any : ∀ l : List GType, tornEs l = l.any tornT
 | [] => rfl
 | t :: r => by rw [tornEs, tornEs_any r, List.any_cons]
theorem tornFs_any : ∀ l : List GField, tornFs l = l.any fun f => tornT f.type
 | [] => rfl
 | f :: r => by rw [tornFs, tornFs_any r, List.any_cons]; cases f; rfl
theorem looseT_eq (t : GType) : looseT t = (((t.kind == 2 && decide (t.size > 1)) || t.elem.any looseT) || t.fields.any fun f => looseT f.type) := by
 cases t; rw [looseT, looseEs_any, looseFs_any]
theorem tornT_eq (t : GType) : tornT t = (((t.packed && looseT t) || t.elem.any tornT) || t.fields.any fun f => tornT f.type) := by
 cases t; rw [tornT, tornEs_any, tornFs_any]
theorem ok_parts {t : GType} (ht : t.ok) : t.fields.length ≤ 9223372036854775807 ∧ (∀ f ∈ t.fields, f.type.ok) ∧ t.elem.length ≤ 9223372036854775807 ∧ ∀ e ∈ t.elem, e.ok := by
 have hm : maxLen = 9223372036854775807 := by decide
 cases t with
 | mk kind size packed fields count elem =>
  obtain ⟨_, _, h1, h2, _, h3, h4⟩ := ht
  rw [hm] at h1 h3
  exact ⟨h1, fun f hf => by have := GField.oks_iff.1 h2 f hf; cases f; exact this.2.1, h3, GType.oks_iff.1 h4⟩
section
variable {Φ : Calls'} {H : AH} {Q : Post}
theorem typeIndex {p : GType → Bool} {key : Nat} {caps : List AV} {xs : List GType} (hf : ∀ x ∈ xs, ∀ (R : Post), R (.bool (p x)) H → Φ key ([.agg x.cells] ++ caps) H R) (hl : xs.length ≤ 9223372036854775807)
  (hQ : Q (.int .i64 (idxI (xs.findIdx? p))) H) (hkb : bkey key = none := by first | assumption | rfl) : S.f181 Φ (lstA GType.cells xs) (.fn key caps) H Q := by
 have h : IndexFunc 6 Φ (lstA GType.cells xs) (.fn key caps) H Q := IndexFunc_spec GType.len (by decide) hf hl hQ
 exact h
theorem types_contains (hT : Cl Φ S.tab_Chk) {p : GType → Bool} {key : Nat} {caps : List AV} {xs : List GType} (hf : ∀ x ∈ xs, ∀ (R : Post), R (.bool (p x)) H → Φ key ([.agg x.cells] ++ caps) H R) (hl : xs.length ≤ 9223372036854775807)
  (hQ : Q (.bool (xs.any p)) H) (hkb : bkey key = none := by first | assumption | rfl) : Φ K.f154 [lstA GType.cells xs, .fn key caps] H Q := by
 refine S.cl_f154 hT ?_
 unfold S.f154
 refine S.cl_f181 hT (typeIndex hf hl ?_)
 simp only [abin_geq, Do_of, idxI_any]
 exact hQ
theorem fd_box (f : GField) (H : AH) : aboxv H false 9 (.agg f.cells) = some (.fptr f.cells, H) := by unfold aboxv; rw [if_pos ⟨rfl, f.len⟩]; rfl
theorem fd_type (f : GField) (H : AH) : aload H 6 true (.fptr (f.cells.drop 1)) = some (.agg f.type.cells) := by
 show takeCells _ 0 6 true = _
 rw [GField.cells_eq, List.drop_succ_cons, List.drop_zero]
 exact takeCells_app f.type.len
theorem loose_spec (hT : Cl Φ S.tab_Chk) {t : GType} (hlf : t.fields.length ≤ 9223372036854775807) (hle : t.elem.length ≤ 9223372036854775807) (hf : ∀ f ∈ t.fields, Val Φ K.f153 [.agg f.type.cells] (.bool (looseT f.type)))
  (he : ∀ e ∈ t.elem, Val Φ K.f153 [.agg e.cells] (.bool (looseT e))) (hQ : Q (.bool (looseT t)) H) : S.f153 Φ (.agg t.cells) H Q := by
 have fin : ∀ b, b = looseT t → Q (.bool b) H := fun b h => by rw [h]; exact hQ
 clear hQ
 rw [looseT_eq] at fin
 unfold S.f153
 simp only [ty_box, DoH_some, ty_addr, ty_l0, ty_l1, abin_eql, abin_gtr, Do_of, Gd3_true]
 have k1 : ∀ b : Bool, b = ((t.kind == 2 && decide (t.size > 1)) || t.elem.any looseT) → JoinP (S.f153_k1 Φ (.fptr t.cells) Q) [.bool b] H := by
  intro b hb
  rw [← hb] at fin
  simp only [JoinP_def, S.f153_k1, sl_zero, Gd3_false, ty_addr, ty_l3, Do_of]
  refine ite_both (fun h => ?_) (fun h => ?_)
  · refine fields_contains hT (p := fun f => looseT f.type) (fun f hfm R hR => ?_) hlf (fin _ (by rw [h]; rfl))
    refine S.cl_f180 hT ?_
    unfold S.f180
    simp only [fd_box, DoH_some, afaddr, Do_of, fd_type]
    exact hf f hfm _ _ hR
  · simp only [Bool.not_eq_false] at h
    exact fin _ (by rw [h]; rfl)
 have k2 : ∀ b : Bool, b = (t.kind == 2 && decide (t.size > 1)) → JoinP (S.f153_k2 Φ (.fptr t.cells) Q) [.bool b] H := by
  intro b hb
  rw [← hb] at k1
  simp only [JoinP_def, S.f153_k2, sl_zero, Gd3_false, ty_addr, ty_l5, Do_of]
  refine ite_both (fun h => ?_) (fun h => ?_)
  · refine types_contains hT (p := looseT) (fun e hem R hR => he e hem _ _ hR) hle (k1 _ (by rw [h]; rfl))
  · simp only [Bool.not_eq_false] at h
    exact k1 _ (by rw [h]; rfl)
 refine ite_both (fun h => ?_) (fun h => ?_)
 · exact k2 _ (by rw [h]; rfl)
 · simp only [Bool.not_eq_true] at h
   exact k2 _ (by rw [h]; rfl)
theorem torn_spec (hT : Cl Φ S.tab_Chk) {t : GType} (hlf : t.fields.length ≤ 9223372036854775807) (hle : t.elem.length ≤ 9223372036854775807) (hloose : Val Φ K.f153 [.agg t.cells] (.bool (looseT t))) (hf : ∀ f ∈ t.fields, Val Φ K.f126 [.agg f.type.cells] (.bool (tornT f.type)))
  (he : ∀ e ∈ t.elem, Val Φ K.f126 [.agg e.cells] (.bool (tornT e))) (hQ : Q (.bool (tornT t)) H) : S.f126 Φ (.agg t.cells) H Q := by
 have fin : ∀ b, b = tornT t → Q (.bool b) H := fun b h => by rw [h]; exact hQ
 clear hQ
 rw [tornT_eq] at fin
 unfold S.f126
 simp only [ty_box, DoH_some, ty_addr, ty_l2, ty_all, Do_of, Gd3_true]
 have k1 : ∀ b : Bool, b = ((t.packed && looseT t) || t.elem.any tornT) → JoinP (S.f126_k1 Φ (.fptr t.cells) Q) [.bool b] H := by
  intro b hb
  rw [← hb] at fin
  simp only [JoinP_def, S.f126_k1, sl_zero, Gd3_false, ty_addr, ty_l3, Do_of]
  refine ite_both (fun h => ?_) (fun h => ?_)
  · refine fields_contains hT (p := fun f => tornT f.type) (fun f hfm R hR => ?_) hlf (fin _ (by rw [h]; rfl))
    refine S.cl_f156 hT ?_
    unfold S.f156
    simp only [fd_box, DoH_some, afaddr, Do_of, fd_type]
    exact hf f hfm _ _ hR
  · simp only [Bool.not_eq_false] at h
    exact fin _ (by rw [h]; rfl)
 have k2 : ∀ b : Bool, b = (t.packed && looseT t) → JoinP (S.f126_k2 Φ (.fptr t.cells) Q) [.bool b] H := by
  intro b hb
  rw [← hb] at k1
  simp only [JoinP_def, S.f126_k2, sl_zero, Gd3_false, ty_addr, ty_l5, Do_of]
  refine ite_both (fun h => ?_) (fun h => ?_)
  · refine types_contains hT (p := tornT) (fun e hem R hR => he e hem _ _ hR) hle (k1 _ (by rw [h]; rfl))
  · simp only [Bool.not_eq_false] at h
    exact k1 _ (by rw [h]; rfl)
 refine ite_both (fun h => ?_) (fun h => ?_)
 · exact hloose _ _ (k2 _ (by rw [h]; rfl))
 · simp only [Bool.not_eq_true] at h
   exact k2 _ (by rw [h]; rfl)
def upW (n step : Int) : Int := IntKind.wrap .i64 (IntKind.wrap .i64 ((IntKind.wrap .i64 (IntKind.wrap .i64 (n + step) - 1)).tdiv step) * step)
theorem up_spec {n step : Int} (h : step ≠ 0) (hQ : Q (.int .i64 (upW n step)) H) : S.f185 Φ (.int .i64 n) (.int .i64 step) H Q := by
 unfold S.f185
 simp only [abin_add, abin_sub, Do_of]
 rw [abin_quo _ _ _ h]
 simp only [Do_of, abin_mul]
 exact hQ
theorem upW_eq {n step : Int} (h1 : 0 ≤ n) (h2 : n ≤ 1000000000) (h3 : 1 ≤ step) (h4 : step ≤ 1000000) : upW n step = (n + step - 1) / step * step := by
 unfold upW
 have hs : step ≠ 0 := by omega
 have e1 := Int.ediv_mul_le (n + step - 1) hs
 have e2 : 0 ≤ (n + step - 1) / step := Int.ediv_nonneg (by omega) (by omega)
 have e3 : (n + step - 1) / step ≤ n + step - 1 := Int.ediv_le_self _ (by omega)
 have e4 : 0 ≤ (n + step - 1) / step * step := Int.mul_nonneg e2 (by omega)
 rw [wrap_i64 (n := n + step) (by omega) (by omega), wrap_i64 (n := n + step - 1) (by omega) (by omega), Int.tdiv_eq_ediv_of_nonneg (by omega), wrap_i64 (n := (n + step - 1) / step) (by omega) (by omega), wrap_i64 (by omega) (by omega)]
end
section
variable {C : Ctx} (hT : Cl (ACall C) S.tab_Chk)
include hT
theorem loose_val : ∀ t : GType, t.ok → Val (ACall C) K.f153 [.agg t.cells] (.bool (looseT t)) := by
 refine GType.ind fun t ihf ihe ht => ?_
 obtain ⟨h1, h2, h3, h4⟩ := ok_parts ht
 exact fun H Q hQ => S.cl_f153 hT (loose_spec hT h1 h3 (fun f hf => ihf f hf (h2 f hf)) (fun e he => ihe e he (h4 e he)) hQ)
theorem torn_val : ∀ t : GType, t.ok → Val (ACall C) K.f126 [.agg t.cells] (.bool (tornT t)) := by
 refine GType.ind fun t ihf ihe ht => ?_
 obtain ⟨h1, h2, h3, h4⟩ := ok_parts ht
 exact fun H Q hQ => S.cl_f126 hT (torn_spec hT h1 h3 (loose_val hT t ht) (fun f hf => ihf f hf (h2 f hf)) (fun e he => ihe e he (h4 e he)) hQ)
end
end Rb

namespace Rb
open Go
structure GSpot where
 at_ : Int
 len : Int
 kind : Int
 bits : Bool
 bit : Int
 width : Int
def GSpot.cells (s : GSpot) : List AV := [.int .i64 s.at_, .int .i64 s.len, .int .i64 s.kind, .bool s.bits, .int .i64 s.bit, .int .i64 s.width]
structure PL where
 size : Int
 align : Int
 spots : List GSpot
 bit : Int
abbrev w64 (n : Int) : Int := IntKind.wrap .i64 n
def bitOf (p : PL) (f : GField) : Int :=
 if w64 (p.bit.tdiv (w64 (8 * f.type.size))) ≠ w64 ((w64 (w64 (p.bit + f.width) - 1)).tdiv (w64 (8 * f.type.size))) then upW p.bit (w64 (8 * f.type.size)) else p.bit
def bitsM (p : PL) (f : GField) : PL :=
 if f.width = 0 then
  { p with bit := upW p.bit (w64 (8 * f.type.size)), spots := p.spots ++ [⟨w64 ((upW p.bit (w64 (8 * f.type.size))).tdiv 8), 0, 1, true, (upW p.bit (w64 (8 * f.type.size))).tmod 8, 0⟩] }
 else
  { p with bit := w64 (bitOf p f + f.width), spots := p.spots ++ [⟨w64 ((bitOf p f).tdiv 8), w64 (w64 (w64 ((w64 (w64 (bitOf p f + f.width) - 1)).tdiv 8) - w64 ((bitOf p f).tdiv 8)) + 1), 1, true, (bitOf p f).tmod 8, f.width⟩] }
def wideM (packed : Bool) (f : GField) (align : Int) : Int := if packed = true ∨ (f.bits = true ∧ f.width = 0) then 1 else if f.bits = true then f.type.size else align
def plainM (p : PL) (f : GField) (size align : Int) : PL :=
 { p with bit := w64 (8 * w64 (upW (w64 ((upW p.bit 8).tdiv 8)) align + size)), spots := p.spots ++ [⟨upW (w64 ((upW p.bit 8).tdiv 8)) align, size, f.type.kind, false, 0, 0⟩] }
def sizeM (p : PL) : PL := { p with size := max p.size (w64 ((upW p.bit 8).tdiv 8)) }
def fieldM (packed : Bool) (kind : Int) (p : PL) (f : GField) (g : Int × Int) : PL :=
 let p1 : PL := { p with align := max p.align (wideM packed f g.2), bit := if kind = 4 then 0 else p.bit }
 sizeM (if f.bits = true then bitsM p1 f else plainM p1 f g.1 (wideM packed f g.2))
mutual
def ofT : GType → (Int × Int) × Bool
 | .mk kind size packed fields count elem =>
  if kind = 1 ∨ kind = 2 then ((size, size), true)
  else if kind = 5 then ((w64 ((ofE elem).1.1 * count), (ofE elem).1.2), (ofE elem).2 && decide (w64 ((ofE elem).1.1 * count) ≤ 65536))
  else match placeFs packed kind ⟨0, 1, [], 0⟩ fields with
   | none => ((0, 0), false)
   | some p => ((upW p.size p.align, p.align), decide (upW p.size p.align ≤ 65536))
def ofE : List GType → (Int × Int) × Bool
 | [] => ((0, 0), false)
 | t :: _ => ofT t
def ofF : GField → (Int × Int) × Bool
 | .mk name type bits width => ofT type
def placeFs (packed : Bool) (kind : Int) (p : PL) : List GField → Option PL
 | [] => some p
 | f :: r => if (ofF f).2 = true then placeFs packed kind (fieldM packed kind p f (ofF f).1) r else none
end
theorem ofF_eq (f : GField) : ofF f = ofT f.type := by cases f; rfl
theorem ofT_eq (t : GType) : ofT t = if t.kind = 1 ∨ t.kind = 2 then ((t.size, t.size), true)
  else if t.kind = 5 then ((w64 ((ofE t.elem).1.1 * t.count), (ofE t.elem).1.2), (ofE t.elem).2 && decide (w64 ((ofE t.elem).1.1 * t.count) ≤ 65536))
  else match placeFs t.packed t.kind ⟨0, 1, [], 0⟩ t.fields with
   | none => ((0, 0), false)
   | some p => ((upW p.size p.align, p.align), decide (upW p.size p.align ≤ 65536)) := by cases t; rfl
theorem Lst.append2 {H0 H : AH} {sz bytes len m : Nat} {x y : AV} {cells news : List AV} {K : Post} (h : Lst H0 H sz x len cells) (hy : acells H sz y = some (m, news)) (hn : news.length = m * sz) (hs : news.all AV.scalar = true) (hm : m ≠ 0)
  (hb : (len + m) * bytes ≤ 140737488355328) (hl : len + m ≤ 9223372036854775807) (hK : ∀ x' H', Lst H0 H' sz x' (len + m) (cells ++ news) → (∀ i o, At H i o → (∀ a b, o ≠ .tok a b) → At H' i o) → K x' H') : DoH (aappend H false sz bytes x y) K := by
 obtain ⟨hx, tk, rfl, hc, htk⟩ := h
 have hlen : (cells ++ news).length = (len + m) * sz := by simp [hc, hn, Nat.add_mul]
 rcases htk with ⟨rfl, rfl⟩ | ⟨t, rfl, h1, h2, h3⟩
 · refine ⟨.lst (.own H.n) (0 + m) (cells ++ news), H.push (.tok ((0 + m) * sz) sz), ?_, hK _ _ ⟨hx.trans (AH.Ext.push _ _), _, rfl, hlen, .inr ⟨H.n, rfl, hx.1, Nat.lt_succ_self _, AH.push_self _ _⟩⟩ fun i o ho _ => ho.push _⟩
   simp only [aappend, hy, hs, not_true_eq_false, if_false, if_neg hm]
   rw [if_neg (by simp only [Decidable.not_not]; exact ⟨hc, hb, hl⟩)]
 · refine ⟨.lst (.own H.n) (len + m) (cells ++ news), (H.set t .gone).push (.tok ((len + m) * sz) sz), ?_, hK _ _ ⟨(hx.set h1 _).trans (AH.Ext.push _ _), _, rfl, hlen, .inr ⟨H.n, rfl, hx.1, Nat.lt_succ_self _, AH.push_self _ _⟩⟩ fun i o ho hno => ?_⟩
   · simp only [aappend, hy, hs, not_true_eq_false, if_false, if_neg hm]
     rw [if_neg (by simp only [Decidable.not_not]; exact ⟨hc, hb, hl⟩)]
     simp [h3]
   · exact (ho.set_ne (fun e => by subst e; rw [ho.2] at h3; exact hno _ _ h3) _).push _
theorem Lst.other {H0 H : AH} {sz len : Nat} {x : AV} {cells : List AV} (h : Lst H0 H sz x len cells) {id : Nat} {cs : List AV} (ha : At H id (.row cs)) (hid : H0.n ≤ id) (y : AObj) : Lst H0 (H.set id y) sz x len cells := by
 obtain ⟨hx, tk, rfl, hc, htk⟩ := h
 refine ⟨hx.set hid y, tk, rfl, hc, ?_⟩
 rcases htk with h | ⟨t, rfl, h1, h2, h3⟩
 · exact .inl h
 · exact .inr ⟨t, rfl, h1, h2, by rw [AH.set_ne _ _ (fun e => by subst e; rw [ha.2] at h3; cases h3)]; exact h3⟩
theorem Lst.push {H0 H : AH} {sz len : Nat} {x : AV} {cells : List AV} (h : Lst H0 H sz x len cells) (y : AObj) : Lst H0 (H.push y) sz x len cells := by
 obtain ⟨hx, tk, rfl, hc, htk⟩ := h
 refine ⟨hx.trans (AH.Ext.push _ _), tk, rfl, hc, ?_⟩
 rcases htk with h | ⟨t, rfl, h1, h2, h3⟩
 · exact .inl h
 · exact .inr ⟨t, rfl, h1, Nat.lt_succ_of_lt h2, by rw [AH.push_ne _ _ (by omega)]; exact h3⟩
def PAt (H0 H : AH) (id : Nat) (p : PL) : Prop := ∃ x, At H id (.row [.int .i64 p.size, .int .i64 p.align, x, .int .i64 p.bit]) ∧ Lst H0 H 6 x p.spots.length (p.spots.flatMap GSpot.cells) ∧ H0.n ≤ id
theorem PAt.push {H0 H : AH} {id : Nat} {p : PL} (h : PAt H0 H id p) (y : AObj) : PAt H0 (H.push y) id p := by
 obtain ⟨x, h1, h2, h3⟩ := h; exact ⟨x, h1.push y, h2.push y, h3⟩
theorem PAt.other {H0 H : AH} {id i : Nat} {p : PL} {cs : List AV} (h : PAt H0 H id p) (ha : At H i (.row cs)) (hi : H0.n ≤ i) (hne : id ≠ i) (y : AObj) : PAt H0 (H.set i y) id p := by
 obtain ⟨x, h1, h2, h3⟩ := h; exact ⟨x, h1.set_ne hne y, h2.other ha hi y, h3⟩
def Keeps (H H' : AH) (id : Nat) : Prop := ∀ i cs, i ≠ id → At H i (.row cs) → At H' i (.row cs)
theorem Keeps.refl (H : AH) (id : Nat) : Keeps H H id := fun _ _ _ h => h
theorem Keeps.trans {H H' H'' : AH} {id : Nat} (h : Keeps H H' id) (k : Keeps H' H'' id) : Keeps H H'' id := fun i cs hi ha => k i cs hi (h i cs hi ha)
section
variable {H0 H : AH} {id : Nat} {p : PL} {K : AH → Prop}
theorem PAt.load0 (h : PAt H0 H id p) : aload H 1 false (.ptr id 0) = some (.int .i64 p.size) := by obtain ⟨x, h1, _⟩ := h; rw [h1.load]; rfl
theorem PAt.load1 (h : PAt H0 H id p) : aload H 1 false (.ptr id 1) = some (.int .i64 p.align) := by obtain ⟨x, h1, _⟩ := h; rw [h1.load]; rfl
theorem PAt.load3 (h : PAt H0 H id p) : aload H 1 false (.ptr id 3) = some (.int .i64 p.bit) := by obtain ⟨x, h1, _⟩ := h; rw [h1.load]; rfl
theorem PAt.store0 (h : PAt H0 H id p) (v : Int) (hK : ∀ H', PAt H0 H' id { p with size := v } → Keeps H H' id → K H') : Do (astore H 1 (.ptr id 0) (.int .i64 v)) K := by
 obtain ⟨x, h1, h2, h3⟩ := h
 refine ⟨_, by rw [h1.store, if_pos ⟨rfl, rfl, rfl, by simp⟩]; rfl, hK _ ⟨x, h1.set _, h2.other h1 h3 _, h3⟩ fun i cs hi ha => ha.set_ne hi _⟩
theorem PAt.store1 (h : PAt H0 H id p) (v : Int) (hK : ∀ H', PAt H0 H' id { p with align := v } → Keeps H H' id → K H') : Do (astore H 1 (.ptr id 1) (.int .i64 v)) K := by
 obtain ⟨x, h1, h2, h3⟩ := h
 refine ⟨_, by rw [h1.store, if_pos ⟨rfl, rfl, rfl, by simp⟩]; rfl, hK _ ⟨x, h1.set _, h2.other h1 h3 _, h3⟩ fun i cs hi ha => ha.set_ne hi _⟩
theorem PAt.store3 (h : PAt H0 H id p) (v : Int) (hK : ∀ H', PAt H0 H' id { p with bit := v } → Keeps H H' id → K H') : Do (astore H 1 (.ptr id 3) (.int .i64 v)) K := by
 obtain ⟨x, h1, h2, h3⟩ := h
 refine ⟨_, by rw [h1.store, if_pos ⟨rfl, rfl, rfl, by simp⟩]; rfl, hK _ ⟨x, h1.set _, h2.other h1 h3 _, h3⟩ fun i cs hi ha => ha.set_ne hi _⟩
theorem PAt.app (h : PAt H0 H id p) (hl : p.spots.length < 1000) (s : GSpot) (hK : ∀ H', PAt H0 H' id { p with spots := p.spots ++ [s] } → Keeps H H' id → K H') :
  Do (aload H 1 false (.ptr id 2)) fun x20 =>
  DoH (abslice H false 6 1 [.int .i64 0, .int .i64 0, .int .i64 0, .bool false, .int .i64 0, .int .i64 0] [(0, 6, .agg s.cells)]) fun x31 H32 =>
  DoH (aappend H32 false 6 48 x20 x31) fun x33 H34 =>
  Do (astore H34 1 (.ptr id 2) x33) K := by
 obtain ⟨x, h1, h2, h3⟩ := h
 have e1 : aload H 1 false (.ptr id 2) = some x := by rw [h1.load]; rfl
 have e2 : abslice H false 6 1 [.int .i64 0, .int .i64 0, .int .i64 0, .bool false, .int .i64 0, .int .i64 0] [(0, 6, .agg s.cells)] = some (.lst .full 1 s.cells, H) := rfl
 rw [e1, e2]
 simp only [Do_of, DoH_some]
 refine h2.append2 (m := 1) (news := s.cells) rfl rfl rfl (by decide) (by omega) (by omega) fun x' H' h2' hk => ?_
 have a1 := hk id _ h1 (by intro a b h; cases h)
 have hsc : x'.scalar = true ∧ x'.known = true ∧ x'.cells = [x'] := by obtain ⟨_, tk, rfl, _⟩ := h2'; exact ⟨rfl, rfl, rfl⟩
 refine ⟨_, by rw [a1.store, if_pos ⟨hsc.2.1, by rw [hsc.2.2]; rfl, by rw [hsc.2.2]; simp [hsc.1], by simp⟩, hsc.2.2]; rfl, hK _ ⟨x', a1.set _, ?_, h3⟩ fun i cs hi ha => (hk i _ ha (by intro a b h; cases h)).set_ne hi _⟩
 have := h2'.other a1 h3 (.row [.int .i64 p.size, .int .i64 p.align, x', .int .i64 p.bit])
 simpa using this
end
end Rb

namespace Rb
open Go
theorem span2 (a b : Int) : abuild [.int .i64 0, .int .i64 0] [(0, 1, .int .i64 a), (1, 1, .int .i64 b)] = some (.agg [.int .i64 a, .int .i64 b]) := rfl
theorem span1 (a : Int) : abuild [.int .i64 0, .int .i64 0] [(0, 1, .int .i64 a)] = some (.agg [.int .i64 a, .int .i64 0]) := rfl
theorem spotB0 (a l k b : Int) : abuild [.int .i64 0, .int .i64 0, .int .i64 0, .bool false, .int .i64 0, .int .i64 0] [(0, 2, .agg [.int .i64 a, .int .i64 l]), (2, 1, .int .i64 k), (3, 1, .bool true), (4, 1, .int .i64 b)] = some (.agg [.int .i64 a, .int .i64 l, .int .i64 k, .bool true, .int .i64 b, .int .i64 0]) := rfl
theorem spotB1 (a l k b w : Int) : abuild [.int .i64 0, .int .i64 0, .int .i64 0, .bool false, .int .i64 0, .int .i64 0] [(0, 2, .agg [.int .i64 a, .int .i64 l]), (2, 1, .int .i64 k), (3, 1, .bool true), (4, 1, .int .i64 b), (5, 1, .int .i64 w)] = some (.agg [.int .i64 a, .int .i64 l, .int .i64 k, .bool true, .int .i64 b, .int .i64 w]) := rfl
theorem spotB2 (a l k : Int) : abuild [.int .i64 0, .int .i64 0, .int .i64 0, .bool false, .int .i64 0, .int .i64 0] [(0, 2, .agg [.int .i64 a, .int .i64 l]), (2, 1, .int .i64 k)] = some (.agg [.int .i64 a, .int .i64 l, .int .i64 k, .bool false, .int .i64 0, .int .i64 0]) := rfl
theorem fd_a (f : GField) (i j : Nat) : afaddr i (.fptr (f.cells.drop j)) = some (.fptr ((f.cells.drop j).drop i)) := rfl
theorem fd_addr (f : GField) (i : Nat) : afaddr i (.fptr f.cells) = some (.fptr (f.cells.drop i)) := rfl
theorem fd_l7 (f : GField) (H : AH) : aload H 1 false (.fptr (f.cells.drop 7)) = some (.bool f.bits) := by cases f with | mk n t b w => cases t; rfl
theorem fd_l8 (f : GField) (H : AH) : aload H 1 false (.fptr (f.cells.drop 8)) = some (.int .i64 f.width) := by cases f with | mk n t b w => cases t; rfl
theorem fd_lsize (f : GField) (H : AH) : aload H 1 false (.fptr ((f.cells.drop 1).drop 1)) = some (.int .i64 f.type.size) := by cases f with | mk n t b w => cases t; rfl
theorem nilck_ptr (i o : Nat) : anilck (.ptr i o) = some (.ptr i o) := rfl
section
variable {Φ : Calls'} {H0 H : AH} {Q : Post}
theorem bits_spec (hT : Cl Φ S.tab_Chk) {f : GField} {p : PL} {id : Nat} (hp : PAt H0 H id p) (hl : p.spots.length < 1000) (hu : w64 (8 * f.type.size) ≠ 0) (hQ : ∀ H', PAt H0 H' id (bitsM p f) → Keeps H H' id → Q (.tup []) H') : S.f184 Φ (.ptr id 0) (.agg f.cells) H Q := by
 unfold S.f184
 simp only [fd_box, DoH_some, fd_addr, fd_a, fd_lsize, fd_l8, abin_mul, abin_eql, Do_of, Gd_true, nilck_ptr, afaddr, Nat.zero_add]
 refine ite_both (fun h => ?_) (fun h => ?_)
 · have hw : f.width = 0 := by simpa using h
   simp only [hp.load3, Do_of]
   refine S.cl_f185 hT (up_spec hu ?_)
   refine hp.store3 _ fun H1 hp1 hk1 => ?_
   have e3 := hp1.load3
   simp only [e3, Do_of, abin_quo _ _ _ (show (8 : Int) ≠ 0 by decide), abin_rem _ _ _ (show (8 : Int) ≠ 0 by decide), span1, spotB0]
   refine hp1.app hl ⟨w64 ((upW p.bit (w64 (8 * f.type.size))).tdiv 8), 0, 1, true, (upW p.bit (w64 (8 * f.type.size))).tmod 8, 0⟩ fun H2 hp2 hk2 => hQ H2 ?_ (hk1.trans hk2)
   unfold bitsM
   rw [if_pos hw]; exact hp2
 · have hw : ¬ f.width = 0 := by simpa using h
   simp only [hp.load3, Do_of, abin_quo _ _ _ hu, abin_add, abin_sub, abin_neq, Gd_true]
   have k1 : ∀ (b : Int) (H1 : AH), b = bitOf p f → PAt H0 H1 id { p with bit := b } → Keeps H H1 id → JoinP (S.f184_k1 Φ (.ptr id 0) (.fptr f.cells) Q) [] H1 := by
    intro b H1 hb hp1 hk1
    have e3 := hp1.load3
    simp only [JoinP_def, S.f184_k1, nilck_ptr, afaddr, Nat.zero_add, Do_of, e3, abin_quo _ _ _ (show (8 : Int) ≠ 0 by decide), abin_rem _ _ _ (show (8 : Int) ≠ 0 by decide), fd_l8, abin_add, abin_sub, span2, spotB1]
    refine hp1.app hl ⟨w64 (b.tdiv 8), w64 (w64 (w64 ((w64 (w64 (b + f.width) - 1)).tdiv 8) - w64 (b.tdiv 8)) + 1), 1, true, b.tmod 8, f.width⟩ fun H2 hp2 hk2 => ?_
    have e4 := hp2.load3
    simp only [e4, Do_of, abin_add]
    refine hp2.store3 _ fun H3 hp3 hk3 => hQ H3 ?_ ((hk1.trans hk2).trans hk3)
    unfold bitsM
    rw [if_neg hw, ← hb]; exact hp3
   refine ite_both (fun h => ?_) (fun h => ?_)
   · refine S.cl_f185 hT (up_spec hu ?_)
     refine hp.store3 _ fun H1 hp1 hk1 => k1 _ H1 ?_ hp1 hk1
     unfold bitOf
     rw [if_pos (by simpa using h)]
   · refine k1 p.bit H ?_ hp (Keeps.refl _ _)
     unfold bitOf
     rw [if_neg (by simpa using h)]
theorem wide_spec {t : GType} {f : GField} {align : Int} (hQ : Q (.int .i64 (wideM t.packed f align)) H) : S.f183 Φ (.agg t.cells) (.agg f.cells) (.int .i64 align) H Q := by
 have fin : ∀ v, v = wideM t.packed f align → Q (.int .i64 v) H := fun v h => by rw [h]; exact hQ
 clear hQ
 unfold S.f183
 simp only [ty_box, fd_box, DoH_some, ty_addr, ty_l2, fd_addr, fd_l7, fd_l8, abin_eql, Do_of, Gd3_false, Gd3_true, JoinP_def, S.f183_k1, sl_zero, Gd_true, fd_a, fd_lsize, Bool.false_eq_true, if_false, if_true]
 unfold wideM at fin
 repeat' (refine ite_both (fun h => ?_) (fun h => ?_))
 all_goals (refine fin _ ?_; simp_all)
end
end Rb

namespace Rb
open Go
def ofV (r : (Int × Int) × Bool) : AV := .tup [.agg [.int .i64 r.1.1, .int .i64 r.1.2], .bool r.2]
theorem sndFs_bits {packed : Bool} : ∀ {l : List GField} {seen : List (List UInt8)}, sndFs packed seen l = 0 → ∀ f ∈ l, f.bits = true → f.type.kind = 1 ∧ 1 ≤ f.type.size ∧ f.type.size ≤ 8
 | [], _, _, f, hf => by cases hf
 | g :: r, seen, h, f, hf => by
  intro hb
  have hs := sndFs_mem h f hf
  simp only [sndFs] at h
  have h0 : sndF packed seen g = 0 := by
   by_cases hz : sndF packed seen g = 0
   · exact hz
   · rw [if_pos hz] at h; exact absurd h hz
  rw [if_neg (by simpa using h0)] at h
  rcases List.mem_cons.1 hf with rfl | hf
  · have hk : f.type.kind = 1 := by
      by_cases hk : f.type.kind = 1
      · exact hk
      · exfalso
        rw [sndF_eq] at h0
        split at h0
        · cases h0
        · split at h0
          · cases h0
          · split at h0
            · rename_i hz; exact hz h0
            · rw [if_pos (.inr ⟨hb, .inl hk⟩)] at h0; cases h0
    refine ⟨hk, ?_⟩
    rw [sndT_eq, hk] at hs
    split at hs
    · cases hs
    · simp only [if_true] at hs
      split at hs
      · rename_i hp
        simp [pow2] at hp
        omega
      · cases hs
  · exact sndFs_bits h f hf hb
theorem snd_fields {t : GType} (h : sndT t = 0) (hk : t.kind = 3 ∨ t.kind = 4) : sndFs t.packed [] t.fields = 0 := by
 rw [sndT_eq] at h
 have k1 : t.kind ≠ 1 := by omega
 have k2 : t.kind ≠ 2 := by omega
 have k5 : t.kind ≠ 5 := by omega
 rw [if_neg k1, if_neg k2, if_neg k5] at h
 split at h
 · cases h
 · split at h
   · cases h
   · exact h
theorem max_int' (a b : Int) : aminmax true [.int .i64 a, .int .i64 b] = some (.int .i64 (max a b)) := max_int a b
section
variable {Φ : Calls'} {H : AH} {Q : Post}
def zero4 : List AV := [.int .i64 0, .int .i64 0, .lst .nil 0 [], .int .i64 0]
theorem place_spec (hT : Cl Φ S.tab_Chk) {t : GType} (hs : sndT t = 0) (hk : t.kind = 3 ∨ t.kind = 4)
  (hof : ∀ f ∈ t.fields, Val Φ K.f127 [.agg f.type.cells] (ofV (ofT f.type))) (hal : ∀ f ∈ t.fields, (ofT f.type).2 = true → 1 ≤ (ofT f.type).1.2)
  (hnone : placeFs t.packed t.kind ⟨0, 1, [], 0⟩ t.fields = none → ∀ H', AH.Ext H H' → Q (.tup [.agg zero4, .bool false]) H')
  (hsome : ∀ p, placeFs t.packed t.kind ⟨0, 1, [], 0⟩ t.fields = some p → ∀ x H', Lst H H' 6 x p.spots.length (p.spots.flatMap GSpot.cells) →
    Q (.tup [.agg [.int .i64 (upW p.size p.align), .int .i64 p.align, x, .int .i64 p.bit], .bool (decide (upW p.size p.align ≤ 65536))]) H') : S.f157 Φ (.agg t.cells) H Q := by
 obtain ⟨hfs, hlen⟩ := snd_grp hs hk
 have hfb := snd_fields hs hk
 unfold S.f157
 have z6 : abuild [.int .i64 0, .int .i64 0, .lst .nil 0 [], .int .i64 0] [(0, 2, .agg [.int .i64 0, .int .i64 1])] = some (.agg [.int .i64 0, .int .i64 1, .lst .nil 0 [], .int .i64 0]) := rfl
 simp only [ty_box, DoH_some, abox, if_true, span2, z6, Do_of]
 rw [store_new _ _ _ 4 rfl rfl rfl]
 simp only [Do_of, ty_addr, ty_l3, lstA_len']
 have a3 : At ((H.push (.row zero4)).push (.row [.int .i64 0, .int .i64 1, .lst .nil 0 [], .int .i64 0])) H.n (.row zero4) := (At.new H _).push _
 have p7 : PAt H ((H.push (.row zero4)).push (.row [.int .i64 0, .int .i64 1, .lst .nil 0 [], .int .i64 0])) (H.push (.row zero4)).n ⟨0, 1, [], 0⟩ := ⟨_, At.new _ _, ((Lst.nil H 6).push _).push _, Nat.le_succ _⟩
 have hne : H.n ≠ (H.push (.row zero4)).n := by simp
 have hge : H.n ≤ H.n := Nat.le_refl _
 change LoopP (S.f157_l5 Φ (.fptr t.cells) (.ptr H.n 0) (.ptr (H.push (.row zero4)).n 0) (lstA GField.cells t.fields) (.int .i64 t.fields.length) Q) ([.int .i64 0], (H.push (.row zero4)).push (.row [.int .i64 0, .int .i64 1, .lst .nil 0 [], .int .i64 0]))
 generalize ((H.push (.row zero4)).push (.row [.int .i64 0, .int .i64 1, .lst .nil 0 [], .int .i64 0])) = H9 at *
 generalize (H.push (.row zero4)).n = id7 at *
 have main : ∀ (fs : List GField) (i : Nat) (p : PL) (H1 : AH), t.fields.drop i = fs → At H1 H.n (.row zero4) → PAt H H1 id7 p → p.spots.length ≤ i → 1 ≤ p.align → placeFs t.packed t.kind p fs = placeFs t.packed t.kind ⟨0, 1, [], 0⟩ t.fields →
   LoopP (S.f157_l5 Φ (.fptr t.cells) (.ptr H.n 0) (.ptr id7 0) (lstA GField.cells t.fields) (.int .i64 t.fields.length) Q) ([.int .i64 i], H1) := by
  intro fs
  induction fs with
  | nil =>
   intro i p H1 hd b3 b7 hsl hpa hfin
   have hle := drop_nil_le hd
   simp only [placeFs] at hfin
   refine LoopP.step ?_
   simp only [S.f157_l5, sl_zero, abin_lss, Do_of, Gd_true]
   rw [if_neg (by simp only [decide_eq_true_eq]; omega)]
   simp only [JoinP_def, S.f157_k4, afaddr, Nat.zero_add, Do_of, b7.load0, b7.load1]
   refine S.cl_f185 hT (up_spec (by omega) ?_)
   refine b7.store0 _ fun H2 c7 hk => ?_
   have c3 := hk H.n _ hne b3
   obtain ⟨x, d1, d2, d3⟩ := c7
   have hx : x.scalar = true := by obtain ⟨_, tk, rfl, _⟩ := d2; rfl
   rw [d1.all (n := 4) rfl]
   simp only [Do_of]
   have l0 : aload H2 1 false (.ptr id7 0) = some (.int .i64 (upW p.size p.align)) := by rw [d1.load]; rfl
   rw [l0]
   simp only [Do_of, abin_leq]
   rw [c3.put (n := 4) rfl rfl (by simp only [List.all_cons, hx]; rfl)]
   simp only [Do_of]
   refine ⟨by rw [(d1.set_ne (fun e => hne e.symm) _).load]; rfl, ?_⟩
   rw [(c3.set _).all (n := 4) rfl]
   simp only [Do_of]
   exact hsome p hfin.symm x _ (d2.other c3 hge _)
  | cons f fs ih =>
   intro i p H1 hd b3 b7 hsl hpa hfin
   obtain ⟨hlt, hf, hd'⟩ := drop_cons_lt hd
   have hmem := List.mem_of_getElem? hf
   simp only [placeFs, ofF_eq] at hfin
   refine LoopP.step ?_
   simp only [S.f157_l5, sl_zero, abin_lss, Do_of, Gd_true]
   rw [if_pos (by simp only [decide_eq_true_eq]; omega), lstA_addr hlt]
   simp only [Do_of]
   rw [elA_load GField.len (by decide) _ hf]
   simp only [Do_of, DoH_some, abox, if_true]
   rw [store_new _ _ _ 9 f.len f.scalar rfl]
   simp only [Do_of, afaddr, Nat.zero_add]
   rw [load_push, fd_t1]
   simp only [Do_of]
   have n7 : id7 ≠ H1.n := by obtain ⟨x, d1, _⟩ := b7; exact d1.lt_new
   have c22 := At.new H1 (.row f.cells)
   have c3 := b3.push (.row f.cells)
   have c7 := b7.push (.row f.cells)
   generalize H1.push (.row f.cells) = H2 at *
   generalize H1.n = id22 at *
   refine hof f hmem _ _ ?_
   simp only [ofV, aextract, List.getElem?_cons_zero, List.getElem?_cons_succ, Do_of, DoH_some]
   rw [store_new _ _ _ 2 rfl rfl rfl]
   simp only [Do_of, aun_not, Gd_true]
   have n31 : id7 ≠ H2.n := by obtain ⟨x, d1, _⟩ := c7; exact d1.lt_new
   have d31 := At.new H2 (.row [.int .i64 (ofT f.type).1.1, .int .i64 (ofT f.type).1.2])
   have d22 := c22.push (.row [.int .i64 (ofT f.type).1.1, .int .i64 (ofT f.type).1.2])
   have d3 := c3.push (.row [.int .i64 (ofT f.type).1.1, .int .i64 (ofT f.type).1.2])
   have d7 := c7.push (.row [.int .i64 (ofT f.type).1.1, .int .i64 (ofT f.type).1.2])
   generalize H2.push (.row [.int .i64 (ofT f.type).1.1, .int .i64 (ofT f.type).1.2]) = H3 at *
   generalize H2.n = id31 at *
   refine ite_both (fun h => ?_) (fun h => ?_)
   · have hno : (ofT f.type).2 = false := by simpa using h
     rw [if_neg (by simp [hno])] at hfin
     have zb : abuild [.int .i64 0, .int .i64 0, .lst .nil 0 [], .int .i64 0] [] = some (.agg zero4) := rfl
     rw [zb]
     simp only [Do_of]
     rw [d3.put (n := 4) rfl rfl rfl]
     simp only [Do_of]
     rw [(d3.set _).all (n := 4) rfl]
     simp only [Do_of]
     obtain ⟨xx, _, ⟨hx, _⟩, _⟩ := d7
     exact hnone hfin.symm _ (hx.set hge _)
   · have hyes : (ofT f.type).2 = true := by simpa using h
     rw [if_pos hyes] at hfin
     have hga := hal f hmem hyes
     have l31a : aload H3 1 false (.ptr id31 1) = some (.int .i64 (ofT f.type).1.2) := by rw [d31.load]; rfl
     simp only [ty_all, d22.all f.len, l31a, Do_of]
     have hwide : 1 ≤ wideM t.packed f (ofT f.type).1.2 := by
      unfold wideM
      split
      · omega
      · split
        · rename_i hb; exact (sndFs_bits hfb f hmem hb).2.1
        · exact hga
     refine S.cl_f183 hT (wide_spec ?_)
     simp only [d7.load1, Do_of, max_int']
     refine d7.store1 _ fun H4 e7 hk4 => ?_
     have e3 := hk4 H.n _ hne d3
     have e22 := hk4 id22 _ (fun e => n7 e.symm) d22
     have e31 := hk4 id31 _ (fun e => n31 e.symm) d31
     clear hk4 d7 d3 d22 d31
     have k3 : ∀ (b : Int) (H5 : AH), b = (if t.kind = 4 then 0 else p.bit) → PAt H H5 id7 { p with align := max p.align (wideM t.packed f (ofT f.type).1.2), bit := b } → At H5 H.n (.row zero4) → At H5 id22 (.row f.cells) → At H5 id31 (.row [.int .i64 (ofT f.type).1.1, .int .i64 (ofT f.type).1.2]) →
       S.f157_k3 Φ (.ptr id7 0) (.ptr id22 0) (.ptr id31 0) (.int .i64 (wideM t.packed f (ofT f.type).1.2)) ([.int .i64 i], H1) (LoopP (S.f157_l5 Φ (.fptr t.cells) (.ptr H.n 0) (.ptr id7 0) (lstA GField.cells t.fields) (.int .i64 t.fields.length) Q)) Q [] H5 := by
      intro b H5 hb g7 g3 g22 g31
      have k2 : ∀ (p2 : PL) (H6 : AH), sizeM p2 = fieldM t.packed t.kind p f (ofT f.type).1 → PAt H H6 id7 p2 → At H6 H.n (.row zero4) → p2.spots.length ≤ i + 1 → 1 ≤ p2.align →
        S.f157_k2 Φ (.ptr id7 0) ([.int .i64 i], H1) (LoopP (S.f157_l5 Φ (.fptr t.cells) (.ptr H.n 0) (.ptr id7 0) (lstA GField.cells t.fields) (.int .i64 t.fields.length) Q)) Q [] H6 := by
       intro p2 H6 hp2 q7 q3 hsl2 hpa2
       simp only [S.f157_k2, afaddr, Nat.zero_add, Do_of, q7.load0, q7.load3]
       refine S.cl_f185 hT (up_spec (by decide) ?_)
       refine ⟨q7.load0, ?_⟩
       simp only [abin_quo _ _ _ (show (8 : Int) ≠ 0 by decide), Do_of, max_int']
       refine q7.store0 _ fun H7 r7 hk7 => ?_
       simp only [JoinP_def, S.f157_k1, sl_zero, abin_add, Do_of]
       rw [wrap_i64 (by omega) (by omega), show ((i : Int) + 1) = ((i + 1 : Nat) : Int) by simp]
       refine ih (i + 1) (sizeM p2) H7 hd' (hk7 H.n _ hne q3) r7 hsl2 hpa2 ?_
       rw [hp2]; exact hfin
      have hmax : 1 ≤ max p.align (wideM t.packed f (ofT f.type).1.2) := by omega
      have l7 : aload H5 1 false (.ptr id22 7) = some (.bool f.bits) := by rw [g22.load, fd_t7]
      simp only [S.f157_k3, afaddr, Nat.zero_add, Do_of, l7, Gd_true]
      refine ite_both (fun hbits => ?_) (fun hbits => ?_)
      · obtain ⟨hk1, hz1, hz2⟩ := sndFs_bits hfb f hmem hbits
        have hu : w64 (8 * f.type.size) ≠ 0 := by
         show IntKind.wrap .i64 (8 * f.type.size) ≠ 0
         rw [wrap_i64 (by omega) (by omega)]; omega
        rw [g22.all f.len]
        simp only [Do_of]
        refine S.cl_f184 hT (bits_spec hT g7 (by show p.spots.length < 1000; omega) hu fun H6 q7 hk6 => ?_)
        simp only [JoinP_def]
        refine k2 _ H6 ?_ q7 (hk6 H.n _ hne g3) ?_ ?_
        · unfold fieldM
          simp only [hbits, if_true, hb]
        · unfold bitsM
          split <;> (simp only [List.length_append, List.length_cons, List.length_nil]; omega)
        · unfold bitsM
          split <;> exact hmax
      · simp only [Bool.not_eq_true] at hbits
        have ls : aload H5 1 false (.ptr id31 0) = some (.int .i64 (ofT f.type).1.1) := by rw [g31.load]; rfl
        have lk : aload H5 1 false (.ptr id22 1) = some (.int .i64 f.type.kind) := by rw [g22.load, fd_k]
        simp only [g7.load3, Do_of]
        refine S.cl_f185 hT (up_spec (by decide) ?_)
        simp only [abin_quo _ _ _ (show (8 : Int) ≠ 0 by decide), Do_of]
        refine S.cl_f185 hT (up_spec (by omega) ?_)
        simp only [ls, lk, Do_of, span2, spotB2]
        refine g7.app (by show p.spots.length < 1000; omega) ⟨upW (w64 ((upW b 8).tdiv 8)) (wideM t.packed f (ofT f.type).1.2), (ofT f.type).1.1, f.type.kind, false, 0, 0⟩ fun H6 q7 hk6 => ?_
        have q31 := hk6 id31 _ (fun e => n31 e.symm) g31
        have ls2 : aload H6 1 false (.ptr id31 0) = some (.int .i64 (ofT f.type).1.1) := by rw [q31.load]; rfl
        simp only [ls2, Do_of, abin_add, abin_mul]
        refine q7.store3 _ fun H7 r7 hk7 => ?_
        simp only [JoinP_def]
        refine k2 _ H7 ?_ r7 (hk7 H.n _ hne (hk6 H.n _ hne g3)) ?_ hmax
        · unfold fieldM
          simp only [hbits, Bool.false_eq_true, if_false, hb]
          rfl
        · show (p.spots ++ [_]).length ≤ i + 1
          simp only [List.length_append, List.length_cons, List.length_nil]; omega
     simp only [ty_addr, ty_l0, abin_eql, Do_of, Gd_true, JoinP_def]
     refine ite_both (fun h4 => ?_) (fun h4 => ?_)
     · refine e7.store3 _ fun H5 g7 hk5 => k3 _ H5 ?_ g7 (hk5 H.n _ hne e3) (hk5 id22 _ (fun e => n7 e.symm) e22) (hk5 id31 _ (fun e => n31 e.symm) e31)
       rw [if_pos (by simpa using h4)]
     · refine k3 p.bit H4 ?_ e7 e3 e22 e31
       rw [if_neg (by simpa using h4)]
 exact main t.fields 0 _ H9 rfl a3 p7 (Nat.le_refl _) (by decide) rfl
end
end Rb

namespace Rb
open Go
theorem snd_kind {t : GType} (h : sndT t = 0) : t.kind = 1 ∨ t.kind = 2 ∨ t.kind = 5 ∨ t.kind = 3 ∨ t.kind = 4 := by
 rw [sndT_eq] at h
 split at h
 · cases h
 · rename_i ho
   simp only [Bool.not_eq_false] at ho
   unfold onlyM at ho
   by_cases h1 : t.kind = 1
   · exact .inl h1
   by_cases h2 : t.kind = 2
   · exact .inr (.inl h2)
   by_cases h3 : t.kind = 3
   · exact .inr (.inr (.inr (.inl h3)))
   by_cases h4 : t.kind = 4
   · exact .inr (.inr (.inr (.inr h4)))
   by_cases h5 : t.kind = 5
   · exact .inr (.inr (.inl h5))
   simp [h1, h2, h3, h4, h5] at ho
section
variable {Φ : Calls'} {H : AH} {Q : Post}
theorem span0 : abuild [.int .i64 0, .int .i64 0] [] = some (.agg [.int .i64 0, .int .i64 0]) := rfl
theorem of_spec (hT : Cl Φ S.tab_Chk) {t : GType} (hs : sndT t = 0)
  (hof : ∀ f ∈ t.fields, Val Φ K.f127 [.agg f.type.cells] (ofV (ofT f.type))) (hal : ∀ f ∈ t.fields, (ofT f.type).2 = true → 1 ≤ (ofT f.type).1.2)
  (hoe : ∀ e ∈ t.elem, Val Φ K.f127 [.agg e.cells] (ofV (ofT e))) (hQ : ∀ H', Q (ofV (ofT t)) H') : S.f127 Φ (.agg t.cells) H Q := by
 have fin : ∀ r, r = ofT t → ∀ H', Q (ofV r) H' := fun r h => by rw [h]; exact hQ
 clear hQ
 rw [ofT_eq] at fin
 unfold S.f127
 simp only [ty_box, DoH_some, abox, if_true, ty_addr, ty_l0, abin_eql, Do_of, Gd_true]
 have a3 := At.new H (.row [.int .i64 0, .int .i64 0])
 generalize H.push (.row [.int .i64 0, .int .i64 0]) = H4 at *
 generalize H.n = id3 at *
 have k2 : ∀ b : Bool, (b = true ↔ (t.kind = 1 ∨ t.kind = 2)) → JoinP (S.f127_k2 Φ (.fptr t.cells) (.ptr id3 0) (.int .i64 t.kind) Q) [.bool b] H4 := by
  intro b hb
  simp only [JoinP_def, S.f127_k2, sl_zero, Gd_true]
  refine ite_both (fun h => ?_) (fun h => ?_)
  · have h12 := hb.1 h
    rw [if_pos h12] at fin
    simp only [ty_addr, ty_l1, Do_of, span2]
    rw [a3.put (n := 2) rfl rfl rfl]
    simp only [Do_of]
    rw [(a3.set _).all (n := 2) rfl]
    simp only [Do_of]
    exact fin _ rfl _
  · have h12 : ¬ (t.kind = 1 ∨ t.kind = 2) := fun y => h (hb.2 y)
    rw [if_neg h12] at fin
    simp only [abin_eql, Do_of, Gd_true]
    refine ite_both (fun h => ?_) (fun h => ?_)
    · have h5 : t.kind = 5 := by simpa using h
      rw [if_pos h5] at fin
      obtain ⟨e, he, _⟩ := snd_arr hs h5
      simp only [ty_addr, ty_l5, Do_of]
      have ha : aiaddr none 6 (lstA GType.cells t.elem) (.int .i64 0) = some (elA GType.cells 6 t.elem 0) := lstA_addr (by rw [he]; simp)
      rw [ha]
      simp only [Do_of]
      rw [elA_load GType.len (by decide) _ (show t.elem[0]? = some e by rw [he]; rfl)]
      simp only [Do_of]
      refine hoe e (by rw [he]; simp) _ _ ?_
      rw [he] at fin
      simp only [ofE] at fin
      simp only [ofV, aextract, List.getElem?_cons_zero, List.getElem?_cons_succ, Do_of, DoH_some, abox, if_true]
      rw [store_new _ _ _ 2 rfl rfl rfl]
      simp only [Do_of, afaddr, Nat.zero_add, ty_addr, ty_l4]
      have n28 : id3 ≠ H4.n := a3.lt_new
      have b28 := At.new H4 (.row [.int .i64 (ofT e).1.1, .int .i64 (ofT e).1.2])
      have b3 := a3.push (.row [.int .i64 (ofT e).1.1, .int .i64 (ofT e).1.2])
      generalize H4.push (.row [.int .i64 (ofT e).1.1, .int .i64 (ofT e).1.2]) = H5 at *
      generalize H4.n = id28 at *
      have l1 : aload H5 1 false (.ptr id28 0) = some (.int .i64 (ofT e).1.1) := by rw [b28.load]; rfl
      simp only [l1, Do_of, abin_mul]
      have s1 : astore H5 1 (.ptr id28 0) (.int .i64 (w64 ((ofT e).1.1 * t.count))) = some (H5.set id28 (.row [.int .i64 (w64 ((ofT e).1.1 * t.count)), .int .i64 (ofT e).1.2])) := by
       rw [b28.store, if_pos ⟨rfl, rfl, rfl, by simp⟩]; rfl
      rw [s1]
      simp only [Do_of]
      have c28 := b28.set (.row [.int .i64 (w64 ((ofT e).1.1 * t.count)), .int .i64 (ofT e).1.2])
      have c3 := b3.set_ne n28 (.row [.int .i64 (w64 ((ofT e).1.1 * t.count)), .int .i64 (ofT e).1.2])
      generalize H5.set id28 (.row [.int .i64 (w64 ((ofT e).1.1 * t.count)), .int .i64 (ofT e).1.2]) = H6 at *
      rw [c28.all (n := 2) rfl]
      have l2 : aload H6 1 false (.ptr id28 0) = some (.int .i64 (w64 ((ofT e).1.1 * t.count))) := by rw [c28.load]; rfl
      simp only [Do_of, Gd3_true]
      refine ite_both (fun h => ?_) (fun h => ?_)
      · simp only [l2, Do_of, abin_leq]
        rw [c3.put (n := 2) rfl rfl rfl]
        simp only [Do_of]
        refine ⟨fun _ => ?_, ?_⟩
        · rw [(c28.set_ne n28.symm _).load]; rfl
        · rw [(c3.set _).all (n := 2) rfl]
          simp only [Do_of]
          exact fin ((w64 ((ofT e).1.1 * t.count), (ofT e).1.2), decide (w64 ((ofT e).1.1 * t.count) ≤ 65536)) (by rw [h, Bool.true_and]; rfl) _
      · simp only [Bool.not_eq_true] at h
        rw [c3.put (n := 2) rfl rfl rfl]
        simp only [Do_of]
        refine And.intro (fun y => nomatch y) ?_
        rw [(c3.set _).all (n := 2) rfl]
        simp only [Do_of]
        exact fin ((w64 ((ofT e).1.1 * t.count), (ofT e).1.2), false) (by rw [h, Bool.false_and]) _
    · have h5 : ¬ t.kind = 5 := by simpa using h
      rw [if_neg h5] at fin
      have hk : t.kind = 3 ∨ t.kind = 4 := by
       rcases snd_kind hs with h | h | h | h
       · exact absurd (.inl h) h12
       · exact absurd (.inr h) h12
       · exact absurd h h5
       · exact h
      simp only [JoinP_def, S.f127_k1, ty_all, Do_of]
      refine S.cl_f157 hT (place_spec hT hs hk hof hal ?_ ?_)
      · intro hn H' hx
        rw [hn] at fin
        simp only [aextract, List.getElem?_cons_zero, List.getElem?_cons_succ, Do_of, DoH_some, abox, if_true]
        rw [store_new _ _ _ 4 rfl rfl rfl]
        simp only [Do_of, afaddr, Nat.zero_add]
        rw [load_push]
        have tk : takeCells zero4 0 2 true = some (.agg [.int .i64 0, .int .i64 0]) := rfl
        rw [tk]
        simp only [Do_of]
        have e3 := (a3.ext hx).push (.row zero4)
        rw [e3.put (n := 2) rfl rfl rfl]
        simp only [Do_of]
        rw [(e3.set _).all (n := 2) rfl]
        simp only [Do_of]
        exact fin ((0, 0), false) rfl _
      · intro p hp x H' hL
        rw [hp] at fin
        have hx := hL.1
        have hsc : x.scalar = true := by obtain ⟨_, tk, rfl, _⟩ := hL; rfl
        simp only [aextract, List.getElem?_cons_zero, List.getElem?_cons_succ, Do_of, DoH_some, abox, if_true]
        rw [store_new _ _ _ 4 rfl (by simp only [List.all_cons, hsc]; rfl) rfl]
        simp only [Do_of, afaddr, Nat.zero_add]
        rw [load_push]
        have tk : takeCells [.int .i64 (upW p.size p.align), .int .i64 p.align, x, .int .i64 p.bit] 0 2 true = some (.agg [.int .i64 (upW p.size p.align), .int .i64 p.align]) := rfl
        rw [tk]
        simp only [Do_of]
        have e3 := (a3.ext hx).push (.row [.int .i64 (upW p.size p.align), .int .i64 p.align, x, .int .i64 p.bit])
        rw [e3.put (n := 2) rfl rfl rfl]
        simp only [Do_of]
        rw [(e3.set _).all (n := 2) rfl]
        simp only [Do_of]
        exact fin ((upW p.size p.align, p.align), decide (upW p.size p.align ≤ 65536)) rfl _
 refine ite_both (fun h => ?_) (fun h => ?_)
 · exact k2 _ ⟨fun _ => .inl (by simpa using h), fun _ => h⟩
 · refine k2 _ ⟨fun h2 => .inr (by simpa using h2), fun h2 => ?_⟩
   rcases h2 with h2 | h2
   · exact absurd (by simpa using h2) h
   · simpa using h2
end
end Rb

namespace Rb
open Go
theorem fieldM_align (packed : Bool) (kind : Int) (p : PL) (f : GField) (g : Int × Int) : p.align ≤ (fieldM packed kind p f g).align := by
 have h : (fieldM packed kind p f g).align = max p.align (wideM packed f g.2) := by
  unfold fieldM
  simp only
  split
  · unfold sizeM bitsM
    split <;> rfl
  · rfl
 rw [h]; omega
theorem placeFs_align {packed : Bool} {kind : Int} : ∀ {l : List GField} {p q : PL}, placeFs packed kind p l = some q → p.align ≤ q.align
 | [], p, q, h => by simp only [placeFs, Option.some.injEq] at h; rw [h]; exact Int.le_refl _
 | f :: r, p, q, h => by
  simp only [placeFs] at h
  split at h
  · exact Int.le_trans (fieldM_align packed kind p f _) (placeFs_align h)
  · cases h
theorem ofT_align : ∀ t : GType, sndT t = 0 → (ofT t).2 = true → 1 ≤ (ofT t).1.2 := by
 refine GType.ind fun t ihf ihe hs h => ?_
 rw [ofT_eq] at h ⊢
 split at h
 · rename_i h12
   rw [if_pos h12]
   rw [sndT_eq] at hs
   split at hs
   · cases hs
   · have hp : pow2 t.size 8 = true ∨ pow2 t.size 16 = true := by
       rcases h12 with h1 | h1
       · rw [if_pos h1] at hs
         split at hs
         · exact .inl ‹_›
         · cases hs
       · rw [if_neg (by omega), if_pos h1] at hs
         split at hs
         · exact .inr ‹_›
         · cases hs
     show 1 ≤ t.size
     rcases hp with hp | hp <;> (simp [pow2] at hp; omega)
 · rename_i h12
   rw [if_neg h12]
   split at h
   · rename_i h5
     rw [if_pos h5]
     obtain ⟨e, he, hse⟩ := snd_arr hs h5
     rw [he] at h ⊢
     simp only [ofE, Bool.and_eq_true] at h ⊢
     exact ihe e (by rw [he]; simp) hse h.1
   · rename_i h5
     rw [if_neg h5]
     cases hp : placeFs t.packed t.kind ⟨0, 1, [], 0⟩ t.fields with
     | none => rw [hp] at h; cases h
     | some p => exact placeFs_align hp
section
variable {C : Ctx} (hGT : GTok C) (hT : Cl (ACall C) S.tab_Chk)
include hGT hT
theorem of_val : ∀ t : GType, sndT t = 0 → Val (ACall C) K.f127 [.agg t.cells] (ofV (ofT t)) := by
 refine GType.ind fun t ihf ihe hs => ?_
 refine Val.of hGT (by simp [AV.frozs, AV.froz, GType.froz]) rfl fun Q hQ => S.cl_f127 hT ?_
 have ho : onlyM t.kind t.size t.packed t.fields.length t.count t.elem.length = true := by
  rw [sndT_eq] at hs
  split at hs
  · cases hs
  · rename_i h; simpa using h
 unfold onlyM at ho
 have hfs : ∀ f ∈ t.fields, sndT f.type = 0 := by
  intro f hf
  rcases snd_kind hs with h | h | h | h
  · simp only [h, true_or, if_true, Bool.and_eq_true, beq_iff_eq, List.length_eq_zero_iff] at ho
    rw [ho.1.1.2] at hf; cases hf
  · simp only [h, or_true, if_true, Bool.and_eq_true, beq_iff_eq, List.length_eq_zero_iff] at ho
    rw [ho.1.1.2] at hf; cases hf
  · rw [if_neg (by omega), if_neg (by omega), if_pos h] at ho
    simp only [Bool.and_eq_true, beq_iff_eq, List.length_eq_zero_iff] at ho
    rw [ho.1.2] at hf; cases hf
  · exact (snd_grp hs h).1 f hf
 have hes : ∀ e ∈ t.elem, sndT e = 0 := by
  intro e he
  rcases snd_kind hs with h | h | h | h
  · simp only [h, true_or, if_true, Bool.and_eq_true, beq_iff_eq, List.length_eq_zero_iff] at ho
    rw [ho.2] at he; cases he
  · simp only [h, or_true, if_true, Bool.and_eq_true, beq_iff_eq, List.length_eq_zero_iff] at ho
    rw [ho.2] at he; cases he
  · obtain ⟨e', he', hs'⟩ := snd_arr hs h
    rw [he'] at he
    rcases List.mem_cons.1 he with rfl | he
    · exact hs'
    · cases he
  · rw [if_neg (by omega), if_pos h] at ho
    simp only [Bool.and_eq_true, beq_iff_eq, List.length_eq_zero_iff] at ho
    rw [ho.2] at he; cases he
 exact of_spec hT hs (fun f hf => ihf f hf (hfs f hf)) (fun f hf => ofT_align f.type (hfs f hf)) (fun e he => ihe e he (hes e he)) hQ
end
end Rb

namespace Rb
open Go
def layM (t : GType) : (Int × Int) × Int :=
 if soundM t ≠ 0 then ((0, 0), soundM t) else if tornT t = true then ((0, 0), 10) else if (ofT t).2 = false then ((0, 0), 9) else ((ofT t).1, 0)
theorem soundM_snd {t : GType} (h : soundM t = 0) : sndT t = 0 := by
 unfold soundM at h
 split at h
 · cases h
 · exact h
section
variable {C : Ctx} (hGT : GTok C) (hT : Cl (ACall C) S.tab_Chk)
include hGT hT
theorem layout_check_spec (t : GType) (ht : t.ok) {H : AH} {Q : Post} (hQ : ∀ H', Q (.tup [.agg [.int .i64 (layM t).1.1, .int .i64 (layM t).1.2], .int .i64 (layM t).2]) H') : S.f93 (ACall C) (.agg t.cells) H Q := by
 have fin : ∀ r, r = layM t → ∀ H', Q (.tup [.agg [.int .i64 r.1.1, .int .i64 r.1.2], .int .i64 r.2]) H' := fun r h => by rw [h]; exact hQ
 clear hQ
 unfold layM at fin
 unfold S.f93
 simp only [ty_box, DoH_some, abox, if_true, ty_all, Do_of]
 have a3 := At.new H (.row [.int .i64 0, .int .i64 0])
 generalize H.push (.row [.int .i64 0, .int .i64 0]) = H4 at *
 generalize H.n = id3 at *
 refine kindSoundM_val hGT hT t ht _ _ ?_
 simp only [abin_neq, Do_of, Gd_true]
 refine ite_both (fun h => ?_) (fun h => ?_)
 · have hs : soundM t ≠ 0 := by simpa using h
   rw [if_pos hs] at fin
   simp only [span0, Do_of]
   rw [a3.put (n := 2) rfl rfl rfl]
   simp only [Do_of]
   rw [(a3.set _).all (n := 2) rfl]
   simp only [Do_of]
   exact fin _ rfl _
 · have hs : soundM t = 0 := by simpa using h
   rw [if_neg (by simpa using hs)] at fin
   refine torn_val hT t ht _ _ ?_
   simp only [Gd_true]
   refine ite_both (fun h => ?_) (fun h => ?_)
   · rw [if_pos h] at fin
     simp only [span0, Do_of]
     rw [a3.put (n := 2) rfl rfl rfl]
     simp only [Do_of]
     rw [(a3.set _).all (n := 2) rfl]
     simp only [Do_of]
     exact fin _ rfl _
   · rw [if_neg h] at fin
     refine of_val hGT hT t (soundM_snd hs) _ _ ?_
     simp only [ofV, aextract, List.getElem?_cons_zero, List.getElem?_cons_succ, Do_of, DoH_some, abox, if_true]
     rw [store_new _ _ _ 2 rfl rfl rfl]
     simp only [Do_of, aun_not, Gd_true]
     have b23 := At.new H4 (.row [.int .i64 (ofT t).1.1, .int .i64 (ofT t).1.2])
     have b3 := a3.push (.row [.int .i64 (ofT t).1.1, .int .i64 (ofT t).1.2])
     generalize H4.push (.row [.int .i64 (ofT t).1.1, .int .i64 (ofT t).1.2]) = H5 at *
     generalize H4.n = id23 at *
     refine ite_both (fun h => ?_) (fun h => ?_)
     · rw [if_pos (by simpa using h)] at fin
       simp only [span0, Do_of]
       rw [b3.put (n := 2) rfl rfl rfl]
       simp only [Do_of]
       rw [(b3.set _).all (n := 2) rfl]
       simp only [Do_of]
       exact fin _ rfl _
     · rw [if_neg (by simpa using h)] at fin
       rw [b23.all (n := 2) rfl]
       simp only [Do_of]
       rw [b3.put (n := 2) rfl rfl rfl]
       simp only [Do_of]
       rw [(b3.set _).all (n := 2) rfl]
       simp only [Do_of]
       exact fin _ rfl _
theorem layout_Of_val (t : GType) (ht : t.ok) : Val (ACall C) K.f67 [.agg t.cells] (.tup [.int .i64 (layM t).1.1, .int .i64 (layM t).1.2, .int .i64 (layM t).2]) := by
 refine Val.of hGT (by simp [AV.frozs, AV.froz, GType.froz]) rfl fun Q hQ => S.cl_f67 hT ?_
 unfold S.f67
 simp only [ty_box, DoH_some, ty_all, Do_of]
 refine S.cl_f93 hT (layout_check_spec hGT hT t ht fun H' => ?_)
 simp only [aextract, List.getElem?_cons_zero, List.getElem?_cons_succ, Do_of, DoH_some, abox, if_true]
 rw [store_new _ _ _ 2 rfl rfl rfl]
 simp only [Do_of, afaddr, Nat.zero_add, load_push]
 exact ⟨_, rfl, _, rfl, hQ _⟩
end
end Rb

namespace Rb
open Go
structure CSt where
 locals : List (List UInt8)
 lets : Int
 line : Int
 fline : Int
 fkind : Int
def CSt.need (s : CSt) (ok : Bool) (e : Int) : CSt := if ok = false ∧ s.fkind = 0 then { s with fline := s.line, fkind := e } else s
def CSt.back (s : CSt) (n : Nat) : CSt := { s with locals := s.locals.take n }
def CSt.at (s : CSt) (l : Int) : CSt := { s with line := l }
def CSt.letIn (s : CSt) (x : List UInt8) : CSt := { s with locals := s.locals ++ [x], lets := w64 (s.lets + 1) }
def CSt.has (s : CSt) (x : List UInt8) : Bool := s.locals.any fun y => x == y
def orderM (k o : Int) : Bool :=
 if k = 4 ∨ k = 6 then o == 1 || o == 3 || o == 4
 else if k = 5 ∨ k = 15 then o == 1 || o == 2 || o == 4
 else if k = 16 ∨ k = 17 ∨ k = 18 then decide (1 ≤ o) && decide (o ≤ 4)
 else if k = 7 then decide (2 ≤ o) && decide (o ≤ 4)
 else o == 0
def emptyM (x : GPlace) : Bool := x.var == [] && x.parts.length == 0
def hasM (k : Int) : Bool × Bool × Bool × Int × Bool × Bool :=
 if k = 1 ∨ k = 2 then (true, false, false, 1, false, false)
 else if k = 3 ∨ k = 4 then (false, false, true, 1, false, false)
 else if k = 5 then (true, true, true, 0, false, false)
 else if k = 6 then (false, false, true, 2, false, false)
 else if k = 7 then (false, false, false, 0, false, false)
 else if k = 8 then (false, false, false, 1, true, true)
 else if k = 9 then (false, false, false, 1, true, false)
 else (false, false, false, 1, false, false)
def formM (x : GStmt) : Bool :=
 decide (1 ≤ x.kind) && decide (x.kind ≤ 10) && ((hasM x.kind).1 || x.name == []) && ((hasM x.kind).2.1 || x.name2 == []) && ((hasM x.kind).2.2.1 || emptyM x.place) && ((x.exprs.length : Int) == (hasM x.kind).2.2.2.1) && ((hasM x.kind).2.2.2.2.1 || x.thn.length == 0) && ((hasM x.kind).2.2.2.2.2 || x.els.length == 0)
def kidsM (k : Int) : Int × Bool :=
 if k = 3 then (2, false) else if k = 4 ∨ k = 5 then (0, true) else if k = 6 ∨ k = 7 then (1, true) else if k = 8 then (2, true) else (0, false)
def formedM (e : GExpr) : Bool :=
 decide (1 ≤ e.kind) && decide (e.kind ≤ 8) && (e.kind == 1 || e.n == 0) && (e.kind == 2 || e.name == []) && (if e.kind = 3 then decide (1 ≤ e.op) && decide (e.op ≤ 11) else e.op == 0) && ((kidsM e.kind).2 || emptyM e.place) && ((e.kids.length : Int) == (kidsM e.kind).1)
def fitsM (k : Int) (t : GType) : Bool :=
 if k = 3 ∨ k = 14 then t.kind == 1 else if k = 5 ∨ k = 6 then t.kind == 2 && t.size == 16 else t.kind == 2 && decide (t.size ≤ 8)
section
variable (vars : List GVar)
def placeS (s : CSt) (k : Int) (x : GPlace) : CSt :=
 let s1 := s.need ((placeM vars x).1 == 0) (placeM vars x).1
 s1.need (s1.fkind != 0 || fitsM k (placeM vars x).2) 8
def headE (s : CSt) (d : Int) (e : GExpr) : CSt := ((s.need (decide (d ≤ 64)) 5).need (formedM e) 4).need (orderM (w64 (10 + e.kind)) e.order) 11
mutual
def exM (s : CSt) (d : Int) : GExpr → CSt
 | .mk kind n name op order place kids =>
  if (headE s d (.mk kind n name op order place kids)).fkind ≠ 0 then headE s d (.mk kind n name op order place kids)
  else exsM (if kind ≥ 4 then plM (if kind = 2 then (headE s d (.mk kind n name op order place kids)).need ((headE s d (.mk kind n name op order place kids)).has name) 6 else headE s d (.mk kind n name op order place kids)) (w64 (10 + kind)) d place
    else (if kind = 2 then (headE s d (.mk kind n name op order place kids)).need ((headE s d (.mk kind n name op order place kids)).has name) 6 else headE s d (.mk kind n name op order place kids))) d kids
def exsM (s : CSt) (d : Int) : List GExpr → CSt
 | [] => s
 | e :: r => exsM (if s.fkind ≠ 0 then s else exM s (w64 (d + 1)) e) d r
def plM (s : CSt) (k : Int) (d : Int) : GPlace → CSt
 | .mk var parts => if s.fkind ≠ 0 then s else ptsM (placeS vars s k (.mk var parts)) d parts
def ptsM (s : CSt) (d : Int) : List GPart → CSt
 | [] => s
 | p :: r => ptsM (ptM s d p) d r
def ptM (s : CSt) (d : Int) : GPart → CSt
 | .mk field index => idxM s d index
def idxM (s : CSt) (d : Int) : List GExpr → CSt
 | [] => s
 | e :: r => idxM (exM s (w64 (d + 1)) e) d r
end
variable (kw : List UInt8 → Bool)
def headS (s : CSt) (d : Int) (x : GStmt) : CSt := ((s.need (decide (d ≤ 64)) 5).need (formM x) 4).need (orderM x.kind x.order) 11
def frontS (s : CSt) (d : Int) (x : GStmt) : CSt :=
 if x.kind = 1 then ((s.need (nameOk x.name && !kw x.name) 6).need (!s.has x.name) 7).need (decide (s.lets < 40)) 12
 else if x.kind = 2 then s.need (s.has x.name) 6
 else if x.kind = 3 ∨ x.kind = 4 ∨ x.kind = 5 ∨ x.kind = 6 then plM vars s x.kind d x.place
 else s
def rearS (s : CSt) (x : GStmt) : CSt :=
 if x.kind = 1 then s.letIn x.name
 else if x.kind = 5 then ((s.need (s.has x.name) 6).need (s.has x.name2) 6).need (!(x.name == x.name2)) 7
 else s
def bodyS (s : CSt) (d : Int) (x : GStmt) : CSt := rearS (exsM vars (frontS vars kw (headS s d x) d x) d x.exprs) x
mutual
def stM (s : CSt) (d : Int) : GStmt → CSt
 | .mk kind line name name2 order place exprs thn els =>
  blM ((blM (bodyS vars kw s d (.mk kind line name name2 order place exprs thn els)) (bodyS vars kw s d (.mk kind line name name2 order place exprs thn els)).locals.length (w64 (d + 1)) thn).at line)
   (((blM (bodyS vars kw s d (.mk kind line name name2 order place exprs thn els)) (bodyS vars kw s d (.mk kind line name name2 order place exprs thn els)).locals.length (w64 (d + 1)) thn).at line).locals.length) (w64 (d + 1)) els
def blM (s : CSt) (n : Nat) (d : Int) : List GStmt → CSt
 | [] => s.back n
 | x :: r => blM (if s.fkind ≠ 0 then s else stM (s.at x.line) d x) n d r
end
def blockM (s : CSt) (d : Int) (l : List GStmt) : CSt := blM vars kw s s.locals.length d l
def varsL (seen : List (List UInt8)) (at_ : Int) : List GVar → Int
 | [] => if at_ > 65536 then 9 else 0
 | v :: r => if nameOk v.name = false ∨ kw v.name = true then 6 else if seen.contains v.name = true then 7
  else if (layM v.type).2 ≠ 0 then (layM v.type).2 else varsL (seen ++ [v.name]) (w64 (upW at_ (layM v.type).1.2 + (layM v.type).1.1)) r
end
section
variable (kw : List UInt8 → Bool)
def varsM (list : List GVar) : Int := if 32 < list.length then 12 else varsL kw [] 0 list
def s0 : CSt := ⟨[], 0, 0, 0, 0⟩
def thrsM (vars : List GVar) : List (List GStmt) → Int × Int
 | [] => (0, 0)
 | t :: r => if (blockM vars kw s0 1 t).fkind ≠ 0 then ((blockM vars kw s0 1 t).fline, (blockM vars kw s0 1 t).fkind) else thrsM vars r
def progM (p : GProg) : Int × Int :=
 if 32 < p.vars.length ∨ p.threads.length < 1 ∨ 8 < p.threads.length then (0, 12)
 else if varsM kw p.vars ≠ 0 then (0, varsM kw p.vars) else thrsM kw p.vars p.threads
end
theorem exM_eq (vars : List GVar) (s : CSt) (d : Int) (e : GExpr) : exM vars s d e = if (headE s d e).fkind ≠ 0 then headE s d e
  else exsM vars (if e.kind ≥ 4 then plM vars (if e.kind = 2 then (headE s d e).need ((headE s d e).has e.name) 6 else headE s d e) (w64 (10 + e.kind)) d e.place else (if e.kind = 2 then (headE s d e).need ((headE s d e).has e.name) 6 else headE s d e)) d e.kids := by
 cases e; rw [exM]
theorem plM_eq (vars : List GVar) (s : CSt) (k d : Int) (x : GPlace) : plM vars s k d x = if s.fkind ≠ 0 then s else ptsM vars (placeS vars s k x) d x.parts := by cases x; rw [plM]
theorem ptM_eq (vars : List GVar) (s : CSt) (d : Int) (p : GPart) : ptM vars s d p = idxM vars s d p.index := by cases p; rw [ptM]
theorem stM_eq (vars : List GVar) (kw : List UInt8 → Bool) (s : CSt) (d : Int) (x : GStmt) : stM vars kw s d x = blockM vars kw ((blockM vars kw (bodyS vars kw s d x) (w64 (d + 1)) x.thn).at x.line) (w64 (d + 1)) x.els := by
 cases x; rw [stM]; rfl
section
variable (vars : List GVar) (kw : List UInt8 → Bool)
theorem exsM_bad {s : CSt} (h : s.fkind ≠ 0) (d : Int) : ∀ l, exsM vars s d l = s
 | [] => by rw [exsM]
 | e :: r => by rw [exsM, if_pos h, exsM_bad h d r]
theorem blM_bad {s : CSt} (h : s.fkind ≠ 0) (n : Nat) (d : Int) : ∀ l, blM vars kw s n d l = s.back n
 | [] => by rw [blM]
 | x :: r => by rw [blM, if_pos h, blM_bad h n d r]
theorem thrsM_zero : ∀ {l : List (List GStmt)}, (thrsM kw vars l).2 = 0 ↔ ∀ t ∈ l, (blockM vars kw s0 1 t).fkind = 0
 | [] => by simp [thrsM]
 | t :: r => by
  rw [thrsM]
  by_cases h : (blockM vars kw s0 1 t).fkind = 0
  · rw [if_neg (by simpa using h), thrsM_zero (l := r)]
    simp [h]
  · rw [if_pos h]
    simp [h]
end
section
variable (kw : List UInt8 → Bool) (p : GProg)
end
end Rb

namespace Rb
open Go
def ckC (vars : List GVar) (s : CSt) (loc : AV) : List AV := [lstA GVar.cells vars, loc, .int .i64 s.lets, .int .i64 s.line, .int .i64 s.fline, .int .i64 s.fkind]
def KeepC (id : Nat) (H H' : AH) : Prop := H.n ≤ H'.n ∧ ∀ i o, i ≠ id → At H i o → At H' i o
theorem KeepC.refl (id : Nat) (H : AH) : KeepC id H H := ⟨Nat.le_refl _, fun _ _ _ h => h⟩
theorem KeepC.trans {id : Nat} {a b c : AH} (h : KeepC id a b) (k : KeepC id b c) : KeepC id a c := ⟨Nat.le_trans h.1 k.1, fun i o hi ho => k.2 i o hi (h.2 i o hi ho)⟩
theorem KeepC.push (id : Nat) (H : AH) (x : AObj) : KeepC id H (H.push x) := ⟨Nat.le_succ _, fun i o _ h => h.push x⟩
theorem KeepC.set (id : Nat) (H : AH) (x : AObj) : KeepC id H (H.set id x) := ⟨Nat.le_refl _, fun i o hi h => h.set_ne hi x⟩
def LocR (H : AH) (id : Nat) (loc : AV) (l : List (List UInt8)) : Prop :=
 (loc = .lst .nil 0 [] ∧ l = []) ∨ ∃ j cs, loc = .row j 0 l.length 1 ∧ j ≠ id ∧ At H j (.row cs) ∧ l.length ≤ cs.length ∧ cs.take l.length = l.map .str
theorem LocR.keep {H H' : AH} {id : Nat} {loc : AV} {l : List (List UInt8)} (h : LocR H id loc l) (k : KeepC id H H') : LocR H' id loc l := by
 rcases h with h | ⟨j, cs, h1, h2, h3, h4, h5⟩
 · exact .inl h
 · exact .inr ⟨j, cs, h1, h2, k.2 j _ h2 h3, h4, h5⟩
def Still (a b : CSt) : Prop := b.locals = a.locals ∧ b.lets = a.lets
theorem Still.refl (a : CSt) : Still a a := ⟨rfl, rfl⟩
theorem Still.trans {a b c : CSt} (h : Still a b) (k : Still b c) : Still a c := ⟨k.1.trans h.1, k.2.trans h.2⟩
theorem still_need (s : CSt) (ok : Bool) (e : Int) : Still s (s.need ok e) := by
 unfold CSt.need
 split
 · exact ⟨rfl, rfl⟩
 · exact Still.refl s
theorem still_headE (s : CSt) (d : Int) (e : GExpr) : Still s (headE s d e) := (still_need _ _ _).trans ((still_need _ _ _).trans (still_need _ _ _))
theorem still_headS (s : CSt) (d : Int) (x : GStmt) : Still s (headS s d x) := (still_need _ _ _).trans ((still_need _ _ _).trans (still_need _ _ _))
section
variable (vars : List GVar)
theorem still_placeS (s : CSt) (k : Int) (x : GPlace) : Still s (placeS vars s k x) := (still_need _ _ _).trans (still_need _ _ _)
mutual
theorem still_exM : ∀ (e : GExpr) (s : CSt) (d : Int), Still s (exM vars s d e)
 | .mk kind n name op order place kids, s, d => by
  have h0 := still_headE s d (.mk kind n name op order place kids)
  rw [exM]
  split
  · exact h0
  · have h1 : Still s (if kind = 2 then (headE s d (.mk kind n name op order place kids)).need ((headE s d (.mk kind n name op order place kids)).has name) 6 else headE s d (.mk kind n name op order place kids)) := by
      split
      · exact h0.trans (still_need _ _ _)
      · exact h0
    refine Still.trans ?_ (still_exsM kids _ d)
    split
    · exact h1.trans (still_plM place _ _ d)
    · exact h1
theorem still_exsM : ∀ (l : List GExpr) (s : CSt) (d : Int), Still s (exsM vars s d l)
 | [], s, d => by rw [exsM]; exact Still.refl s
 | e :: r, s, d => by
  rw [exsM]
  refine Still.trans ?_ (still_exsM r _ d)
  split
  · exact Still.refl s
  · exact still_exM e s _
theorem still_plM : ∀ (x : GPlace) (s : CSt) (k d : Int), Still s (plM vars s k d x)
 | .mk var parts, s, k, d => by
  rw [plM]
  split
  · exact Still.refl s
  · exact (still_placeS vars s k _).trans (still_ptsM parts _ d)
theorem still_ptsM : ∀ (l : List GPart) (s : CSt) (d : Int), Still s (ptsM vars s d l)
 | [], s, d => by rw [ptsM]; exact Still.refl s
 | p :: r, s, d => by rw [ptsM]; exact (still_ptM p s d).trans (still_ptsM r _ d)
theorem still_ptM : ∀ (p : GPart) (s : CSt) (d : Int), Still s (ptM vars s d p)
 | .mk field index, s, d => by rw [ptM]; exact still_idxM index s d
theorem still_idxM : ∀ (l : List GExpr) (s : CSt) (d : Int), Still s (idxM vars s d l)
 | [], s, d => by rw [idxM]; exact Still.refl s
 | e :: r, s, d => by rw [idxM]; exact (still_exM e s _).trans (still_idxM r _ d)
end
end
theorem LocR.still {H : AH} {id : Nat} {loc : AV} {a b : CSt} (h : LocR H id loc a.locals) (k : Still a b) : LocR H id loc b.locals := by rw [k.1]; exact h
section
variable {Φ : Calls'} {H : AH} {Q : Post} {id : Nat} {vars : List GVar} {s : CSt} {loc : AV}
theorem ck_bad (hat : At H id (.row (ckC vars s loc))) (hQ : Q (.bool (s.fkind != 0)) H) : S.f47 Φ (.ptr id 0) H Q := by
 unfold S.f47
 simp only [anilck, afaddr, Do_of, Nat.zero_add]
 rw [hat.load, show takeCells (ckC vars s loc) (4 + 1) 1 false = some (.int .i64 s.fkind) from rfl]
 simp only [Do_of, abin_neq]
 exact hQ
theorem ck_need (hT : Cl Φ S.tab_Chk) {ok : Bool} {e : Int} (hat : At H id (.row (ckC vars s loc))) (hQ : ∀ H', KeepC id H H' → At H' id (.row (ckC vars (s.need ok e) loc)) → Q (.tup []) H') :
  Φ K.f98 [.ptr id 0, .bool ok, .int .i64 e] H Q := by
 refine S.cl_f98 hT ?_
 unfold S.f98
 have k1 : ∀ b : Bool, (b = true ↔ ok = false ∧ s.fkind = 0) → JoinP (S.f98_k1 Φ (.ptr id 0) (.int .i64 e) Q) [.bool b] H := by
  intro b hb
  simp only [JoinP_def, S.f98_k1, sl_zero, Gd_true, anilck, afaddr, Nat.zero_add, Do_of]
  refine ite_both (fun h => ?_) (fun h => ?_)
  · rw [hat.load, show takeCells (ckC vars s loc) 3 1 false = some (.int .i64 s.line) from rfl]
    simp only [Do_of]
    rw [show abuild [.int .i64 0, .int .i64 0] [(0, 1, .int .i64 s.line), (1, 1, .int .i64 e)] = some (.agg [.int .i64 s.line, .int .i64 e]) from rfl]
    simp only [Do_of]
    rw [hat.store, if_pos ⟨rfl, rfl, rfl, by simp [ckC]⟩]
    simp only [Do_of]
    refine hQ _ (KeepC.set id H _) ?_
    have : s.need ok e = { s with fline := s.line, fkind := e } := by unfold CSt.need; rw [if_pos (hb.1 h)]
    rw [this]
    exact hat.set _
  · refine hQ H (KeepC.refl _ _) ?_
    have : s.need ok e = s := by unfold CSt.need; rw [if_neg fun x => h (hb.2 x)]
    rw [this]; exact hat
 simp only [aun_not, Do_of, Gd3_true]
 refine ite_both (fun h => ?_) (fun h => ?_)
 · refine S.cl_f47 hT (ck_bad hat ?_)
   simp only [aun_not, Do_of]
   refine k1 _ ?_
   simp only [Bool.not_eq_true'] at h
   simp [h]
 · refine k1 _ ?_
   simp only [Bool.not_eq_true', Bool.not_eq_false] at h
   simp [h]
theorem Index_gen {a : AV} {xs : List (List UInt8)} {t : List UInt8} (hlen : alen false a = some (.int .i64 xs.length)) (hr : ∀ (i : Nat) x, xs[i]? = some x → ∃ p, aiaddr none 1 a (.int .i64 i) = some p ∧ aload H 1 false p = some (.str x)) (hb : xs.length ≤ 9223372036854775807)
  (hQ : Q (.int .i64 (idxI (xs.findIdx? fun x => t == x))) H) : S.f128 Φ a (.str t) H Q := by
 unfold S.f128
 rw [hlen]
 simp only [Do_of]
 have main : ∀ (ys : List (List UInt8)) (i : Nat), xs.drop i = ys → Q (.int .i64 (idxI ((ys.findIdx? fun x => t == x).map (· + i)))) H → LoopP (S.f128_l1 Φ a (.str t) (.int .i64 xs.length) Q) ([.int .i64 i], H) := by
  intro ys
  induction ys with
  | nil =>
   intro i hi hq
   have hle := drop_nil_le hi
   refine LoopP.step ?_
   simp only [S.f128_l1, sl_zero, abin_lss, Do_of, Gd_true]
   rw [if_neg (by simp only [decide_eq_true_eq]; omega)]
   simpa [idxI] using hq
  | cons y ys ih =>
   intro i hi hq
   obtain ⟨hlt, hy, hd⟩ := drop_cons_lt hi
   obtain ⟨p, h1, h2⟩ := hr i y hy
   refine LoopP.step ?_
   simp only [S.f128_l1, sl_zero, abin_lss, Do_of, Gd_true]
   rw [if_pos (by simp only [decide_eq_true_eq]; omega), h1]
   simp only [Do_of]
   rw [h2]
   simp only [Do_of, abin_streq', Gd_true]
   rw [List.findIdx?_cons] at hq
   by_cases he : (t == y) = true
   · rw [if_pos he]
     rw [if_pos he] at hq
     simpa [idxI] using hq
   · rw [if_neg he]
     rw [if_neg he] at hq
     simp only [abin_add, Do_of]
     rw [wrap_i64 (by omega) (by omega), show ((i : Int) + 1) = ((i + 1 : Nat) : Int) by simp]
     refine ih (i + 1) hd ?_
     have : (List.findIdx? (fun x => t == x) ys).map (· + (i + 1)) = ((List.findIdx? (fun x => t == x) ys).map (· + 1)).map (· + i) := by
      rw [Option.map_map]; congr 1; funext k; simp only [Function.comp]; omega
     rw [this]; exact hq
 refine main xs 0 rfl ?_
 simpa using hQ
theorem Contains_gen (hT : Cl Φ S.tab_Chk) {a : AV} {xs : List (List UInt8)} {t : List UInt8} (hlen : alen false a = some (.int .i64 xs.length)) (hr : ∀ (i : Nat) x, xs[i]? = some x → ∃ p, aiaddr none 1 a (.int .i64 i) = some p ∧ aload H 1 false p = some (.str x)) (hb : xs.length ≤ 9223372036854775807)
  (hQ : Q (.bool (xs.any fun x => t == x)) H) : Φ K.f95 [a, .str t] H Q := by
 refine S.cl_f95 hT ?_
 unfold S.f95
 refine S.cl_f128 hT (Index_gen hlen hr hb ?_)
 simp only [abin_geq, Do_of, idxI_any]
 exact hQ
theorem ck_there (hT : Cl Φ S.tab_Chk) {x : List UInt8} (hat : At H id (.row (ckC vars s loc))) (hloc : LocR H id loc s.locals) (hb : s.locals.length ≤ 1000) (hQ : Q (.bool (s.has x)) H) : Φ K.f101 [.ptr id 0, .str x] H Q := by
 refine S.cl_f101 hT ?_
 unfold S.f101
 simp only [anilck, afaddr, Do_of, Nat.zero_add]
 rw [hat.load, show takeCells (ckC vars s loc) 1 1 false = some loc from rfl]
 simp only [Do_of]
 rcases hloc with ⟨rfl, h⟩ | ⟨j, cs, rfl, h2, h3, h4, h5⟩
 · unfold CSt.has at hQ
   rw [h] at hQ
   exact Contains_gen hT (xs := []) rfl (fun i x hx => by cases hx) (by simp) hQ
 · refine Contains_gen hT (xs := s.locals) rfl (fun i y hy => ?_) (by omega) hQ
   have hlt := (List.getElem?_eq_some_iff.1 hy).1
   refine ⟨.ptr j i, ?_, ?_⟩
   · simp only [aiaddr]
     rw [if_pos ⟨by omega, by omega⟩]
     simp
   · rw [h3.load]
     unfold takeCells
     rw [if_pos (by omega)]
     have e : cs[i]? = some (.str y) := by
      have := congrArg (fun l => l[i]?) h5
      simp only [List.getElem?_take, List.getElem?_map, hy, if_pos hlt, Option.map_some] at this
      exact this
     simp [e]
end
end Rb

namespace Rb
open Go
section
variable {Φ : Calls'} {H : AH} {Q : Post}
theorem check_Order_specM {k o : Int} (hQ : Q (.bool (orderM k o)) H) : S.f100 Φ (.int .i64 k) (.int .i64 o) H Q := by
 have e : ∀ b : Bool, b = orderM k o → Q (.bool b) H := fun b h => by rw [h]; exact hQ
 simp only [S.f100, S.f100_k1, S.f100_k2, S.f100_k3, S.f100_k4, S.f100_k5, S.f100_k6, JoinP_def, sl_zero, abin_eql, abin_geq, abin_leq, Do_of, Gd_true, Gd3_true, Gd3_false, Bool.false_eq_true, if_false, if_true]
 repeat' (refine ite_both (fun h => ?_) (fun h => ?_))
 all_goals (refine e _ ?_; simp only [beq_iff_eq, decide_eq_true_eq, ge_iff_le, beq_eq_false_iff_ne, ne_eq] at *; first | (subst_vars; simp [orderM]; done) | (simp_all [orderM]; done) | (simp_all [orderM]; omega) | skip)
theorem check_empty_spec {x : GPlace} (hQ : Q (.bool (emptyM x)) H) : S.f132 Φ (.agg x.cells) H Q := by
 unfold S.f132
 simp only [pc_box, DoH_some, pc_addr, Do_of, pc_l0, pc_l1, lstA_len', abin_streq', abin_eql, Gd3_true]
 unfold emptyM at hQ
 refine ite_both (fun h => ?_) (fun h => ?_)
 · rw [h] at hQ
   have e : ((x.parts.length : Int) == 0) = (x.parts.length == 0) := by rw [Bool.eq_iff_iff]; simp
   rw [e]; simpa using hQ
 · simp only [Bool.not_eq_true] at h
   rw [h] at hQ; exact hQ
theorem check_fits_spec {k : Int} {t : GType} (hQ : Q (.bool (fitsM k t)) H) : S.f134 Φ (.int .i64 k) (.agg t.cells) H Q := by
 have e : ∀ b : Bool, b = fitsM k t → Q (.bool b) H := fun b h => by rw [h]; exact hQ
 simp only [S.f134, S.f134_k1, S.f134_k2, S.f134_k3, ty_box, DoH_some, ty_addr, Do_of, ty_l0, ty_l1, JoinP_def, sl_zero, abin_eql, abin_leq, Gd_true, Gd3_true]
 repeat' (refine ite_both (fun h => ?_) (fun h => ?_))
 all_goals (refine e _ ?_; unfold fitsM; simp only [beq_iff_eq] at *; first | (exfalso; omega) | (subst_vars; simp [*]; done) | (simp [*]; done) | (subst_vars; simp_all; done) | skip)
def hasC (k : Int) : List AV := if 1 ≤ k ∧ k ≤ 10 then [.bool (hasM k).1, .bool (hasM k).2.1, .bool (hasM k).2.2.1, .int .i64 (hasM k).2.2.2.1, .bool (hasM k).2.2.2.2.1, .bool (hasM k).2.2.2.2.2] else [.bool false, .bool false, .bool false, .int .i64 0, .bool false, .bool false]
theorem hasC_len (k : Int) : (hasC k).length = 6 := by unfold hasC; split <;> rfl
theorem hasC_scalar (k : Int) : (hasC k).all AV.scalar = true := by unfold hasC; split <;> rfl
theorem check_of_spec {k : Int} (hQ : ∀ H', Q (.tup [.agg (hasC k), .bool (decide (1 ≤ k) && decide (k ≤ 10))]) H') : S.f131 Φ (.int .i64 k) H Q := by
 have fin : ∀ (cs : List AV) (b : Bool) H', hasC k = cs → (decide (1 ≤ k) && decide (k ≤ 10)) = b → Q (.tup [.agg cs, .bool b]) H' := fun cs b H' h1 h2 => by rw [← h1, ← h2]; exact hQ H'
 clear hQ
 simp only [S.f131, S.f131_k1, S.f131_k2, S.f131_k3, DoH_some, abox, if_true, Do_of, JoinP_def, sl_zero, abin_eql, Gd_true]
 repeat' (refine ite_both (fun h => ?_) (fun h => ?_))
 all_goals (refine ⟨_, rfl, _, store_new _ _ _ 6 rfl rfl rfl, _, by rw [load_push]; exact takeCells_whole rfl, fin _ _ _ ?_ ?_⟩)
 all_goals (simp only [beq_iff_eq] at *; first | (exfalso; omega) | (subst_vars; rfl) | skip)
 · unfold hasC; rw [if_neg (by omega)]
 · rw [Bool.and_eq_false_iff, decide_eq_false_iff_not, decide_eq_false_iff_not]; omega
theorem ex_box (e : GExpr) (H : AH) : aboxv H false 8 (.agg e.cells) = some (.fptr e.cells, H) := by unfold aboxv; rw [if_pos ⟨rfl, e.len⟩]; rfl
theorem ex_addr (e : GExpr) (i : Nat) : afaddr i (.fptr e.cells) = some (.fptr (e.cells.drop i)) := rfl
theorem ex_l0 (e : GExpr) (H : AH) : aload H 1 false (.fptr (e.cells.drop 0)) = some (.int .i64 e.kind) := by rw [GExpr.cells_eq, GPlace.cells_eq]; rfl
theorem ex_l1 (e : GExpr) (H : AH) : aload H 1 false (.fptr (e.cells.drop 1)) = some (.int .u64 e.n) := by rw [GExpr.cells_eq, GPlace.cells_eq]; rfl
theorem ex_l2 (e : GExpr) (H : AH) : aload H 1 false (.fptr (e.cells.drop 2)) = some (.str e.name) := by rw [GExpr.cells_eq, GPlace.cells_eq]; rfl
theorem ex_l3 (e : GExpr) (H : AH) : aload H 1 false (.fptr (e.cells.drop 3)) = some (.int .i64 e.op) := by rw [GExpr.cells_eq, GPlace.cells_eq]; rfl
theorem ex_l4 (e : GExpr) (H : AH) : aload H 1 false (.fptr (e.cells.drop 4)) = some (.int .i64 e.order) := by rw [GExpr.cells_eq, GPlace.cells_eq]; rfl
theorem ex_l5 (e : GExpr) (H : AH) : aload H 2 true (.fptr (e.cells.drop 5)) = some (.agg e.place.cells) := by rw [GExpr.cells_eq, GPlace.cells_eq]; rfl
theorem ex_l7 (e : GExpr) (H : AH) : aload H 1 false (.fptr (e.cells.drop 7)) = some (lstA GExpr.cells e.kids) := by rw [GExpr.cells_eq, GPlace.cells_eq]; rfl
theorem ex_all (e : GExpr) (H : AH) : aload H 8 true (.fptr e.cells) = some (.agg e.cells) := takeCells_whole e.len
theorem st_box (e : GStmt) (H : AH) : aboxv H false 10 (.agg e.cells) = some (.fptr e.cells, H) := by unfold aboxv; rw [if_pos ⟨rfl, e.len⟩]; rfl
theorem st_addr (e : GStmt) (i : Nat) : afaddr i (.fptr e.cells) = some (.fptr (e.cells.drop i)) := rfl
theorem st_l0 (e : GStmt) (H : AH) : aload H 1 false (.fptr (e.cells.drop 0)) = some (.int .i64 e.kind) := by rw [GStmt.cells_eq, GPlace.cells_eq]; rfl
theorem st_l1 (e : GStmt) (H : AH) : aload H 1 false (.fptr (e.cells.drop 1)) = some (.int .i64 e.line) := by rw [GStmt.cells_eq, GPlace.cells_eq]; rfl
theorem st_l2 (e : GStmt) (H : AH) : aload H 1 false (.fptr (e.cells.drop 2)) = some (.str e.name) := by rw [GStmt.cells_eq, GPlace.cells_eq]; rfl
theorem st_l3 (e : GStmt) (H : AH) : aload H 1 false (.fptr (e.cells.drop 3)) = some (.str e.name2) := by rw [GStmt.cells_eq, GPlace.cells_eq]; rfl
theorem st_l4 (e : GStmt) (H : AH) : aload H 1 false (.fptr (e.cells.drop 4)) = some (.int .i64 e.order) := by rw [GStmt.cells_eq, GPlace.cells_eq]; rfl
theorem st_l5 (e : GStmt) (H : AH) : aload H 2 true (.fptr (e.cells.drop 5)) = some (.agg e.place.cells) := by rw [GStmt.cells_eq, GPlace.cells_eq]; rfl
theorem st_l7 (e : GStmt) (H : AH) : aload H 1 false (.fptr (e.cells.drop 7)) = some (lstA GExpr.cells e.exprs) := by rw [GStmt.cells_eq, GPlace.cells_eq]; rfl
theorem st_l8 (e : GStmt) (H : AH) : aload H 1 false (.fptr (e.cells.drop 8)) = some (lstA GStmt.cells e.thn) := by rw [GStmt.cells_eq, GPlace.cells_eq]; rfl
theorem st_l9 (e : GStmt) (H : AH) : aload H 1 false (.fptr (e.cells.drop 9)) = some (lstA GStmt.cells e.els) := by rw [GStmt.cells_eq, GPlace.cells_eq]; rfl
theorem st_all (e : GStmt) (H : AH) : aload H 10 true (.fptr e.cells) = some (.agg e.cells) := takeCells_whole e.len
theorem len_eq0 {α : Type} (l : List α) : ((l.length : Int) == 0) = (l.length == 0) := by rw [Bool.eq_iff_iff]; simp
theorem ite_bool {b : Bool} {A B : Prop} (h1 : b = true → A) (h2 : b = false → B) : if b = true then A else B := ite_both h1 fun h => h2 (by simpa using h)
theorem ite_boolf {b : Bool} {A B : Prop} (h1 : b = false → A) (h2 : b = true → B) : if b = false then A else B := ite_both h1 fun h => h2 (by simpa using h)
theorem check_formed_spec (hT : Cl Φ S.tab_Chk) {e : GExpr} (hQ : Q (.bool (formedM e)) H) : S.f161 Φ (.agg e.cells) H Q := by
 have fin : ∀ b : Bool, b = formedM e → Q (.bool b) H := fun b h => by rw [h]; exact hQ
 clear hQ
 have k5 : (decide (1 ≤ e.kind) && decide (e.kind ≤ 8)) = true → S.f161_k5 Φ (.fptr e.cells) Q [.int .i64 (kidsM e.kind).1, .bool (kidsM e.kind).2] H := by
  intro hk
  unfold formedM at fin
  rw [hk] at fin
  simp only [Bool.true_and] at fin
  generalize hK : kidsM e.kind = KK at fin ⊢
  have k1 : ∀ b : Bool, (∀ c, c = (b && ((e.kids.length : Int) == KK.1)) → Q (.bool c) H) → JoinP (S.f161_k1 Φ (.fptr e.cells) [.int .i64 KK.1, .bool KK.2] Q) [.bool b] H := by
   intro b hb
   simp only [JoinP_def, S.f161_k1, sl_zero, sl_succ, Gd3_true, ex_addr, ex_l7, lstA_len', abin_eql, Do_of]
   cases b
   · exact hb _ rfl
   · exact hb _ rfl
  have k2 : ∀ b : Bool, (∀ c, c = ((b && (KK.2 || emptyM e.place)) && ((e.kids.length : Int) == KK.1)) → Q (.bool c) H) → JoinP (S.f161_k2 Φ (.fptr e.cells) [.int .i64 KK.1, .bool KK.2] Q) [.bool b] H := by
   intro b hb
   simp only [JoinP_def, S.f161_k2, sl_zero, sl_succ, Gd3_true, Gd3_false, ex_addr, ex_l5, Do_of]
   cases b
   · exact k1 _ fun c hc => hb c (by rw [hc]; rfl)
   · rw [if_pos rfl]
     refine ite_boolf (fun h => ?_) (fun h => ?_)
     · refine S.cl_f132 hT (check_empty_spec ?_)
       exact k1 _ fun c hc => hb c (by rw [hc, h]; rfl)
     · exact k1 _ fun c hc => hb c (by rw [hc, h]; rfl)
  have k3 : ∀ b : Bool, (∀ c, c = (((b && (if e.kind = 3 then decide (1 ≤ e.op) && decide (e.op ≤ 11) else e.op == 0)) && (KK.2 || emptyM e.place)) && ((e.kids.length : Int) == KK.1)) → Q (.bool c) H) →
    JoinP (S.f161_k3 Φ (.fptr e.cells) (.bool (e.kind == 3)) [.int .i64 KK.1, .bool KK.2] Q) [.bool b] H := by
   intro b hb
   simp only [JoinP_def, S.f161_k3, sl_zero, sl_succ, Gd3_true, Gd3_false, ex_addr, ex_l3, Do_of, abin_geq, abin_leq, abin_eql, aun_not]
   cases b
   · exact k2 _ fun c hc => hb c (by rw [hc]; rfl)
   · rw [if_pos rfl]
     refine ite_bool (fun h => ?_) (fun h => ?_)
     · rw [if_pos (by simpa using h)] at hb
       refine ite_bool (fun h1 => ?_) (fun h1 => ?_)
       · refine ite_boolf (fun h2 => ?_) (fun h2 => ?_)
         · rw [h, if_neg (by decide)]
           exact k2 _ fun c hc => hb c (by rw [hc]; simp only [ge_iff_le] at h1; rw [h1, h2]; rfl)
         · exact k2 _ fun c hc => hb c (by rw [hc]; simp only [ge_iff_le] at h1; rw [h1, h2]; rfl)
       · rw [h, if_neg (by decide)]
         exact k2 _ fun c hc => hb c (by rw [hc]; simp only [ge_iff_le] at h1; rw [h1]; rfl)
     · rw [if_neg (by simpa using h)] at hb
       rw [h, if_pos (by decide)]
       exact k2 _ fun c hc => hb c (by rw [hc]; rfl)
  have k4 : ∀ b : Bool, (∀ c, c = ((((b && (e.kind == 2 || e.name == [])) && (if e.kind = 3 then decide (1 ≤ e.op) && decide (e.op ≤ 11) else e.op == 0)) && (KK.2 || emptyM e.place)) && ((e.kids.length : Int) == KK.1)) → Q (.bool c) H) →
    JoinP (S.f161_k4 Φ (.fptr e.cells) (.bool (e.kind == 3)) [.int .i64 KK.1, .bool KK.2] Q) [.bool b] H := by
   intro b hb
   simp only [JoinP_def, S.f161_k4, sl_zero, sl_succ, Gd3_true, Gd3_false, ex_addr, ex_l0, ex_l2, Do_of, abin_eql, abin_streq']
   cases b
   · exact k3 _ fun c hc => hb c (by rw [hc]; rfl)
   · rw [if_pos rfl]
     refine ite_boolf (fun h => ?_) (fun h => ?_)
     · exact k3 _ fun c hc => hb c (by rw [hc, h]; rfl)
     · exact k3 _ fun c hc => hb c (by rw [hc, h]; rfl)
  simp only [S.f161_k5, ex_addr, ex_l0, ex_l1, Do_of, abin_eql, Gd3_false]
  refine ite_boolf (fun h => ?_) (fun h => ?_)
  · exact k4 _ fun c hc => fin c (by rw [hc, h]; rfl)
  · exact k4 _ fun c hc => fin c (by rw [hc, h]; rfl)
 simp only [S.f161, S.f161_k6, S.f161_k7, S.f161_k8, ex_box, DoH_some, ex_addr, ex_l0, Do_of, JoinP_def, sl_zero, abin_eql, Gd_true, beq_iff_eq]
 have g : ∀ n b, kidsM e.kind = (n, b) → (decide (1 ≤ e.kind) && decide (e.kind ≤ 8)) = true → S.f161_k5 Φ (.fptr e.cells) Q [.int .i64 n, .bool b] H := fun n b h hk => by have := k5 hk; rw [h] at this; exact this
 repeat' (refine ite_both (fun h => ?_) (fun h => ?_))
 all_goals first
  | (exfalso; omega)
  | (refine g _ _ ?_ ?_
     · unfold kidsM
       simp [*]
     · simp [*])
  | skip
 refine fin _ ?_
 have : (decide (1 ≤ e.kind) && decide (e.kind ≤ 8)) = false := by rw [Bool.and_eq_false_iff, decide_eq_false_iff_not, decide_eq_false_iff_not]; omega
 unfold formedM
 rw [this]; rfl
end
end Rb

namespace Rb
open Go
theorem i64max : maxLen = 9223372036854775807 := by decide
theorem GExpr.ok_parts {e : GExpr} (h : e.ok) : (e.kids.length ≤ 9223372036854775807 ∧ ∀ k ∈ e.kids, k.ok) ∧ e.place.ok := by
 rw [← i64max]
 cases e with
 | mk kind n name op order place kids =>
  obtain ⟨_, _, _, _, _, h6, h7, h8⟩ := h
  exact ⟨⟨h7, GExpr.oks_iff.1 h8⟩, h6⟩
theorem GPlace.ok_parts {x : GPlace} (h : x.ok) : x.parts.length ≤ 9223372036854775807 ∧ ∀ p ∈ x.parts, p.index.length ≤ 9223372036854775807 ∧ ∀ i ∈ p.index, i.ok := by
 rw [← i64max]
 cases x with
 | mk var parts =>
  obtain ⟨_, h2, h3⟩ := h
  refine ⟨h2, fun p hp => ?_⟩
  have := GPart.oks_iff.1 h3 p hp
  cases p with
  | mk field index =>
   obtain ⟨_, h5, h6⟩ := this
   exact ⟨h5, GExpr.oks_iff.1 h6⟩
theorem GExpr.ind {P : GExpr → Prop} (h : ∀ e : GExpr, (∀ k ∈ e.kids, P k) → (∀ p ∈ e.place.parts, ∀ i ∈ p.index, P i) → P e) : ∀ e, P e := by
 have main : ∀ (n : Nat) (e : GExpr), sizeOf e < n → P e := by
  intro n
  induction n with
  | zero => intro e he; omega
  | succ n ih =>
   intro e he
   refine h e (fun k hk => ih _ ?_) fun p hp i hi => ih _ ?_
   · cases e with
     | mk kind n name op order place kids =>
      have := List.sizeOf_lt_of_mem hk
      simp at this he ⊢; omega
   · cases e with
     | mk kind n name op order place kids =>
      cases place with
      | mk var parts =>
       have h1 := List.sizeOf_lt_of_mem hp
       cases p with
       | mk field index =>
        have h2 := List.sizeOf_lt_of_mem hi
        simp at h1 h2 he ⊢; omega
 exact fun e => main _ e (Nat.lt_succ_self _)
section
variable {C : Ctx} (hGT : GTok C) (hT : Cl (ACall C) S.tab_Chk)
include hGT hT
theorem order_val (k o : Int) : Val (ACall C) K.f100 [.int .i64 k, .int .i64 o] (.bool (orderM k o)) := fun H Q hQ => S.cl_f100 hT (check_Order_specM hQ)
theorem formed_val (e : GExpr) : Val (ACall C) K.f161 [.agg e.cells] (.bool (formedM e)) := fun H Q hQ => S.cl_f161 hT (check_formed_spec hT hQ)
theorem fits_val (k : Int) (t : GType) : Val (ACall C) K.f134 [.int .i64 k, .agg t.cells] (.bool (fitsM k t)) := fun H Q hQ => S.cl_f134 hT (check_fits_spec hQ)
theorem part_val (t : GType) (p : GPart) (hs : sndT t = 0) (hl : p.index.length ≤ maxLen) : Val (ACall C) K.f160 [.agg t.cells, .agg p.cells] (resV (partM t p)) :=
 Val.of hGT (by simp [AV.frozs, AV.froz, GType.froz, GPart.froz]) (resV_froz _) fun Q hQ => S.cl_f160 hT (check_part_spec hT hs hl hQ)
theorem place_val (vars : List GVar) (x : GPlace) (hl : vars.length ≤ maxLen) (hv : ∀ v ∈ vars, v.ok) (hx : x.ok) : Val (ACall C) K.f133 [lstA GVar.cells vars, .agg x.cells] (resV (placeM vars x)) := by
 have hp := GPlace.ok_parts hx
 rw [← i64max] at hp
 exact Val.of hGT (by simp [AV.frozs, AV.froz, GPlace.froz, lstA_froz GVar.froz]) (resV_froz _) fun Q hQ =>
  S.cl_f133 hT (check_Place_spec hT hl hp.1 (fun v hv' => kindSoundM_val hGT hT v.type (hv v hv').2) (fun t p hs hp' => part_val hGT hT t p hs (hp.2 p hp').1) hQ)
end
def ExprS (C : Ctx) (id : Nat) (vars : List GVar) (e : GExpr) : Prop :=
 ∀ (s : CSt) (d : Int) (loc : AV) (H : AH) (Q : Post), At H id (.row (ckC vars s loc)) → LocR H id loc s.locals → s.locals.length ≤ 1000 →
  (∀ H', KeepC id H H' → At H' id (.row (ckC vars (exM vars s d e) loc)) → Q (.tup []) H') → ACall C K.f135 [.ptr id 0, .agg e.cells, .int .i64 d] H Q
def resTC (r : Int × GType) : List AV := if r.1 = 0 then r.2.cells else zeroC
theorem resTC_len (r : Int × GType) : (resTC r).length = 6 := by unfold resTC; split; exact r.2.len; rfl
theorem resTC_scalar (r : Int × GType) : (resTC r).all AV.scalar = true := by unfold resTC; split; exact r.2.scalar; rfl
theorem resV_eq (r : Int × GType) : resV r = .tup [.agg (resTC r), .int .i64 r.1] := by unfold resV resTC; split; rename_i h; rw [h]; rfl
section
variable {C : Ctx} (hGT : GTok C) (hT : Cl (ACall C) S.tab_Chk) {id : Nat} {vars : List GVar}
include hGT hT
theorem exprs_spec {l : List GExpr} (hl : l.length ≤ 9223372036854775807) (hE : ∀ e ∈ l, ExprS C id vars e) {s : CSt} {d : Int} {loc : AV} {H : AH} {Q : Post} (hat : At H id (.row (ckC vars s loc))) (hloc : LocR H id loc s.locals) (hb : s.locals.length ≤ 1000)
  (hQ : ∀ H', KeepC id H H' → At H' id (.row (ckC vars (exsM vars s d l) loc)) → Q (.tup []) H') : ACall C K.f103 [.ptr id 0, lstA GExpr.cells l, .int .i64 d] H Q := by
 refine S.cl_f103 hT ?_
 unfold S.f103
 simp only [lstA_len', Do_of]
 have main : ∀ (r : List GExpr) (i : Nat) (s' : CSt) (H1 : AH), l.drop i = r → Still s s' → KeepC id H H1 → At H1 id (.row (ckC vars s' loc)) → exsM vars s' d r = exsM vars s d l →
   LoopP (S.f103_l2 (ACall C) (.ptr id 0) (lstA GExpr.cells l) (.int .i64 d) (.int .i64 l.length) Q) ([.int .i64 i], H1) := by
  intro r
  induction r with
  | nil =>
   intro i s' H1 hd hst hk ha he
   have hle := drop_nil_le hd
   refine LoopP.step ?_
   simp only [S.f103_l2, sl_zero, abin_lss, Do_of, Gd_true]
   rw [if_neg (by simp only [decide_eq_true_eq]; omega)]
   rw [exsM] at he
   exact hQ H1 hk (by rw [← he]; exact ha)
  | cons e r ih =>
   intro i s' H1 hd hst hk ha he
   obtain ⟨hlt, hx, hd'⟩ := drop_cons_lt hd
   refine LoopP.step ?_
   simp only [S.f103_l2, sl_zero, abin_lss, Do_of, Gd_true]
   rw [if_pos (by simp only [decide_eq_true_eq]; omega), lstA_addr hlt]
   simp only [Do_of]
   rw [elA_load GExpr.len (by decide) _ hx]
   simp only [Do_of, DoH_some, abox, if_true]
   rw [store_new _ _ _ 8 e.len e.scalar rfl]
   simp only [Do_of]
   have ha2 := ha.push (.row e.cells)
   have hk2 := hk.trans (KeepC.push id H1 (.row e.cells))
   have hld : aload (H1.push (.row e.cells)) 8 true (.ptr H1.n 0) = some (.agg e.cells) := by rw [load_push, takeCells_whole e.len]
   have next : ∀ (s2 : CSt) (H3 : AH), KeepC id H H3 → At H3 id (.row (ckC vars s2 loc)) → Still s s2 → exsM vars s2 d r = exsM vars s d l →
     JoinP (S.f103_k1 (ACall C) ([.int .i64 i], H1) (LoopP (S.f103_l2 (ACall C) (.ptr id 0) (lstA GExpr.cells l) (.int .i64 d) (.int .i64 l.length) Q)) Q) [] H3 := by
    intro s2 H3 k3 a3 h3 e3
    simp only [JoinP_def, S.f103_k1, sl_zero, abin_add, Do_of]
    rw [wrap_i64 (by omega) (by omega), show ((i : Int) + 1) = ((i + 1 : Nat) : Int) by simp]
    exact ih (i + 1) s2 H3 hd' h3 k3 a3 e3
   rw [exsM] at he
   generalize H1.push (.row e.cells) = H2 at *
   refine S.cl_f47 hT (ck_bad ha2 ?_)
   simp only [aun_not, Do_of, Gd_true]
   refine ite_both (fun h => ?_) (fun h => ?_)
   · have h0 : s'.fkind = 0 := by simpa using h
     rw [if_neg (by simpa using h0)] at he
     simp only [hld, Do_of, abin_add]
     refine hE e (List.mem_of_getElem? hx) s' _ loc H2 _ ha2 ((hloc.keep hk2).still hst) (by rw [hst.1]; exact hb) fun H3 k3 a3 => ?_
     exact next _ H3 (hk2.trans k3) a3 (hst.trans (still_exM vars e s' _)) he
   · have h0 : s'.fkind ≠ 0 := by simpa using h
     rw [if_pos h0] at he
     exact next s' H2 hk2 ha2 hst he
 exact main l 0 s H rfl (Still.refl s) (KeepC.refl id H) hat rfl
theorem ckplace_spec (hlv : vars.length ≤ maxLen) (hv : ∀ v ∈ vars, v.ok) {x : GPlace} (hx : x.ok) (hE : ∀ p ∈ x.parts, ∀ i ∈ p.index, ExprS C id vars i) {s : CSt} {k d : Int} {loc : AV} {H : AH} {Q : Post} (hat : At H id (.row (ckC vars s loc))) (hloc : LocR H id loc s.locals) (hb : s.locals.length ≤ 1000)
  (hQ : ∀ H', KeepC id H H' → At H' id (.row (ckC vars (plM vars s k d x) loc)) → Q (.tup []) H') : ACall C K.f102 [.ptr id 0, .int .i64 k, .agg x.cells, .int .i64 d] H Q := by
 obtain ⟨hlp, hpi⟩ := GPlace.ok_parts hx
 refine S.cl_f102 hT ?_
 unfold S.f102
 simp only [pc_box, DoH_some]
 refine S.cl_f47 hT (ck_bad hat ?_)
 simp only [Gd_true]
 rw [plM_eq] at hQ
 refine ite_both (fun h => ?_) (fun h => ?_)
 · rw [if_pos (by simpa using h)] at hQ
   exact hQ H (KeepC.refl _ _) hat
 · have h0 : s.fkind = 0 := by simpa using h
   rw [if_neg (by simpa using h0)] at hQ
   simp only [anilck, afaddr, Do_of, Nat.zero_add, Nat.add_zero]
   have l0 : aload H 1 false (.ptr id 0) = some (lstA GVar.cells vars) := by rw [hat.load]; rfl
   have l8 : aload H 2 true (.fptr x.cells) = some (.agg x.cells) := takeCells_whole x.len
   simp only [l0, l8, Do_of]
   refine place_val hGT hT vars x hlv hv hx _ _ ?_
   rw [resV_eq]
   simp only [aextract, List.getElem?_cons_zero, List.getElem?_cons_succ, Do_of, DoH_some, abox, if_true]
   have a2 := hat.push (.row zeroC)
   refine ⟨(a2.load 1 0 false).trans rfl, takeCells_whole x.len, ?_⟩
   change Do (astore (H.push (.row zeroC)) 6 (.ptr H.n 0) (.agg (resTC (placeM vars x)))) _
   rw [store_new _ _ _ 6 (resTC_len _) (resTC_scalar _) rfl]
   simp only [Do_of, abin_eql]
   have a3 := hat.push (.row (resTC (placeM vars x)))
   have k3 := KeepC.push id H (.row (resTC (placeM vars x)))
   have at13 := At.new H (.row (resTC (placeM vars x)))
   have hne : H.n ≠ id := Ne.symm hat.lt_new
   generalize H.push (.row (resTC (placeM vars x))) = H2 at *
   generalize H.n = id13 at *
   refine ck_need hT a3 fun H4 k4 a4 => ?_
   have at13b := k4.2 _ _ hne at13
   have k4' := k3.trans k4
   have parts : ∀ (s1 : CSt) (H5 : AH), Still s s1 → KeepC id H H5 → At H5 id (.row (ckC vars s1 loc)) → ptsM vars s1 d x.parts = ptsM vars (placeS vars s k x) d x.parts → JoinP (S.f102_k4 (ACall C) (.ptr id 0) (.int .i64 d) (.fptr x.cells) Q) [] H5 := by
    intro s1 H5 hst hk ha he
    simp only [JoinP_def, S.f102_k4, pc_addr, pc_l1, lstA_len', Do_of]
    have main : ∀ (r : List GPart) (i : Nat) (s' : CSt) (H1 : AH), x.parts.drop i = r → Still s s' → KeepC id H H1 → At H1 id (.row (ckC vars s' loc)) → ptsM vars s' d r = ptsM vars (placeS vars s k x) d x.parts →
      LoopP (S.f102_l3 (ACall C) (.ptr id 0) (.int .i64 d) (lstA GPart.cells x.parts) (.int .i64 x.parts.length) Q) ([.int .i64 i], H1) := by
     intro r
     induction r with
     | nil =>
      intro i s' H1 hd hst hk ha he
      have hle := drop_nil_le hd
      refine LoopP.step ?_
      simp only [S.f102_l3, sl_zero, abin_lss, Do_of, Gd_true]
      rw [if_neg (by simp only [decide_eq_true_eq]; omega)]
      rw [ptsM] at he
      exact hQ H1 hk (by rw [← he]; exact ha)
     | cons p r ih =>
      intro i s' H1 hd hst hk ha he
      obtain ⟨hlt, hp, hd'⟩ := drop_cons_lt hd
      have hpm := List.mem_of_getElem? hp
      refine LoopP.step ?_
      simp only [S.f102_l3, sl_zero, abin_lss, Do_of, Gd_true]
      rw [if_pos (by simp only [decide_eq_true_eq]; omega), lstA_addr hlt]
      simp only [Do_of]
      rw [elA_load GPart.len (by decide) _ hp]
      simp only [Do_of, DoH_some, abox, if_true]
      rw [store_new _ _ _ 2 p.len p.scalar rfl]
      simp only [Do_of, afaddr, Nat.zero_add]
      have ha2 := ha.push (.row p.cells)
      have hk2 := hk.trans (KeepC.push id H1 (.row p.cells))
      have hld : aload (H1.push (.row p.cells)) 1 false (.ptr H1.n 1) = some (lstA GExpr.cells p.index) := by rw [load_push, GPart.cells_eq]; rfl
      simp only [hld, Do_of, lstA_len']
      rw [ptsM, ptM_eq] at he
      have inner : ∀ (q : List GExpr) (j : Nat) (s2 : CSt) (H3 : AH), p.index.drop j = q → Still s s2 → KeepC id H H3 → At H3 id (.row (ckC vars s2 loc)) → ptsM vars (idxM vars s2 d q) d r = ptsM vars (placeS vars s k x) d x.parts →
        LoopP (S.f102_l2 (ACall C) (.ptr id 0) (.int .i64 d) (lstA GExpr.cells p.index) (.int .i64 p.index.length) ([.int .i64 i], H1) (LoopP (S.f102_l3 (ACall C) (.ptr id 0) (.int .i64 d) (lstA GPart.cells x.parts) (.int .i64 x.parts.length) Q)) Q) ([.int .i64 j], H3) := by
       intro q
       induction q with
       | nil =>
        intro j s2 H3 hd3 hst3 hk3 ha3 he3
        have hle := drop_nil_le hd3
        refine LoopP.step ?_
        simp only [S.f102_l2, sl_zero, abin_lss, Do_of, Gd_true]
        rw [if_neg (by simp only [decide_eq_true_eq]; omega)]
        simp only [JoinP_def, S.f102_k1, sl_zero, abin_add, Do_of]
        rw [wrap_i64 (by omega) (by omega), show ((i : Int) + 1) = ((i + 1 : Nat) : Int) by simp]
        rw [idxM] at he3
        exact ih (i + 1) s2 H3 hd' hst3 hk3 ha3 he3
       | cons e q ih2 =>
        intro j s2 H3 hd3 hst3 hk3 ha3 he3
        obtain ⟨hlt3, hx3, hd3'⟩ := drop_cons_lt hd3
        have hpl := (hpi p hpm).1
        refine LoopP.step ?_
        simp only [S.f102_l2, sl_zero, abin_lss, Do_of, Gd_true]
        rw [if_pos (by simp only [decide_eq_true_eq]; omega), lstA_addr hlt3]
        simp only [Do_of]
        rw [elA_load GExpr.len (by decide) _ hx3]
        simp only [Do_of, DoH_some, abox, if_true]
        rw [store_new _ _ _ 8 e.len e.scalar rfl]
        simp only [Do_of]
        have ha4 := ha3.push (.row e.cells)
        have hk4 := hk3.trans (KeepC.push id H3 (.row e.cells))
        have hld4 : aload (H3.push (.row e.cells)) 8 true (.ptr H3.n 0) = some (.agg e.cells) := by rw [load_push, takeCells_whole e.len]
        simp only [hld4, Do_of, abin_add]
        rw [idxM] at he3
        refine hE p hpm e (List.mem_of_getElem? hx3) s2 _ loc _ _ ha4 ((hloc.keep hk4).still hst3) (by rw [hst3.1]; exact hb) fun H5 k5 a5 => ?_
        rw [wrap_i64 (by omega) (by omega), show ((j : Int) + 1) = ((j + 1 : Nat) : Int) by simp]
        exact ih2 (j + 1) _ H5 hd3' (hst3.trans (still_exM vars e s2 _)) (hk4.trans k5) a5 he3
      exact inner p.index 0 s' _ rfl hst hk2 ha2 he
    exact main x.parts 0 s1 H5 rfl hst hk ha he
   refine S.cl_f47 hT (ck_bad a4 ?_)
   simp only [Gd3_false]
   refine ite_boolf (fun h => ?_) (fun h => ?_)
   · rw [at13b.load, takeCells_whole (resTC_len _)]
     simp only [Do_of]
     have hr : (placeM vars x).1 = 0 := by
      by_cases hr : (placeM vars x).1 = 0
      · exact hr
      · have : (s.need ((placeM vars x).1 == 0) (placeM vars x).1).fkind = (placeM vars x).1 := by
          unfold CSt.need
          rw [if_pos ⟨by simpa using hr, h0⟩]
        rw [this] at h
        simp at h
        exact absurd h hr
     have hc : resTC (placeM vars x) = (placeM vars x).2.cells := by unfold resTC; rw [if_pos hr]
     rw [hc]
     refine fits_val hGT hT _ _ _ _ ?_
     refine ck_need hT a4 fun H6 k6 a6 => ?_
     refine parts _ H6 ((still_need _ _ _).trans (still_need _ _ _)) (k4'.trans k6) a6 ?_
     unfold placeS
     simp only [h, Bool.false_or]
   · refine ck_need hT a4 fun H6 k6 a6 => ?_
     refine parts _ H6 ((still_need _ _ _).trans (still_need _ _ _)) (k4'.trans k6) a6 ?_
     unfold placeS
     simp only [h, Bool.true_or]
theorem expr_spec (hlv : vars.length ≤ maxLen) (hv : ∀ v ∈ vars, v.ok) : ∀ e : GExpr, e.ok → ExprS C id vars e := by
 refine GExpr.ind fun e ihk ihp he => ?_
 obtain ⟨⟨hkl, hkk⟩, hpl⟩ := GExpr.ok_parts he
 have hpp := GPlace.ok_parts hpl
 intro s d loc H Q hat hloc hb hQ
 refine S.cl_f135 hT ?_
 unfold S.f135
 simp only [ex_box, DoH_some, abin_leq, Do_of]
 refine ck_need hT hat fun H1 k1 a1 => ?_
 simp only [ex_all, Do_of]
 refine formed_val hGT hT e _ _ ?_
 refine ck_need hT a1 fun H2 k2 a2 => ?_
 simp only [ex_addr, ex_l0, ex_l4, Do_of, abin_add]
 refine order_val hGT hT _ _ _ _ ?_
 refine ck_need hT a2 fun H3 k3 a3 => ?_
 have kk := k1.trans (k2.trans k3)
 rw [exM_eq] at hQ
 change At H3 id (.row (ckC vars (headE s d e) loc)) at a3
 have st1 := still_headE s d e
 generalize headE s d e = s1 at *
 refine S.cl_f47 hT (ck_bad a3 ?_)
 simp only [Gd_true]
 refine ite_both (fun h => ?_) (fun h => ?_)
 · rw [if_pos (by simpa using h)] at hQ
   exact hQ H3 kk a3
 · rw [if_neg (by simpa using h)] at hQ
   simp only [abin_eql, Do_of, Gd_true]
   have kids : ∀ (s3 : CSt) (H4 : AH), Still s s3 → KeepC id H H4 → At H4 id (.row (ckC vars s3 loc)) → (∀ H', KeepC id H H' → At H' id (.row (ckC vars (exsM vars s3 d e.kids) loc)) → Q (.tup []) H') → JoinP (S.f135_k1 (ACall C) (.ptr id 0) (.int .i64 d) (.fptr e.cells) Q) [] H4 := by
    intro s3 H4 hst hk ha hq
    simp only [JoinP_def, S.f135_k1, ex_addr, ex_l7, Do_of]
    exact exprs_spec hGT hT hkl (fun k hk' => ihk k hk' (hkk k hk')) ha ((hloc.keep hk).still hst) (by rw [hst.1]; exact hb) fun H' k' a' => hq H' (hk.trans k') a'
   have mid : ∀ (s2 : CSt) (H4 : AH), Still s s2 → KeepC id H H4 → At H4 id (.row (ckC vars s2 loc)) → (∀ H', KeepC id H H' → At H' id (.row (ckC vars (exsM vars (if e.kind ≥ 4 then plM vars s2 (w64 (10 + e.kind)) d e.place else s2) d e.kids) loc)) → Q (.tup []) H') →
     JoinP (S.f135_k2 (ACall C) (.ptr id 0) (.int .i64 d) (.fptr e.cells) Q) [] H4 := by
    intro s2 H4 hst hk ha hq
    simp only [JoinP_def, S.f135_k2, ex_addr, ex_l0, ex_l5, Do_of, abin_geq, Gd_true, abin_add]
    refine ite_both (fun h => ?_) (fun h => ?_)
    · rw [if_pos (by simpa using h)] at hq
      refine ckplace_spec hGT hT hlv hv hpl (fun p hp i hi => ihp p hp i hi ((hpp.2 p hp).2 i hi)) ha ((hloc.keep hk).still hst) (by rw [hst.1]; exact hb) fun H' k' a' => ?_
      exact kids _ H' (hst.trans (still_plM vars _ _ _ _)) (hk.trans k') a' hq
    · rw [if_neg (by simpa using h)] at hq
      exact kids _ H4 hst hk ha hq
   refine ite_both (fun h => ?_) (fun h => ?_)
   · rw [show (if e.kind = 2 then s1.need (s1.has e.name) 6 else s1) = s1.need (s1.has e.name) 6 from if_pos (by simpa using h)] at hQ
     simp only [ex_l2, Do_of]
     refine ck_there hT a3 ((hloc.keep kk).still st1) (by rw [st1.1]; exact hb) ?_
     refine ck_need hT a3 fun H4 k4 a4 => ?_
     exact mid _ H4 (st1.trans (still_need _ _ _)) (kk.trans k4) a4 hQ
   · rw [show (if e.kind = 2 then s1.need (s1.has e.name) 6 else s1) = s1 from if_neg (by simpa using h)] at hQ
     exact mid _ H3 st1 kk a3 hQ
end
end Rb

namespace Rb
open Go
section
variable {Φ : Calls'} {H : AH} {Q : Post}
theorem check_form_spec (hT : Cl Φ S.tab_Chk) {x : GStmt} (hQ : ∀ H', Q (.bool (formM x)) H') : S.f99 Φ (.agg x.cells) H Q := by
 have fin : ∀ (b : Bool) H', b = formM x → Q (.bool b) H' := fun b H' h => by rw [h]; exact hQ H'
 clear hQ
 unfold S.f99
 simp only [st_box, DoH_some, st_addr, st_l0, Do_of]
 refine S.cl_f131 hT (check_of_spec fun H1 => ?_)
 simp only [aextract, List.getElem?_cons_zero, List.getElem?_cons_succ, Do_of, DoH_some, abox, if_true]
 rw [store_new _ _ _ 6 (hasC_len _) (hasC_scalar _) rfl]
 simp only [Do_of]
 have at9 := At.new H1 (.row (hasC x.kind))
 generalize H1.push (.row (hasC x.kind)) = H2 at *
 generalize H1.n = id9 at *
 by_cases hk : (decide (1 ≤ x.kind) && decide (x.kind ≤ 10)) = true
 · have hc : hasC x.kind = [.bool (hasM x.kind).1, .bool (hasM x.kind).2.1, .bool (hasM x.kind).2.2.1, .int .i64 (hasM x.kind).2.2.2.1, .bool (hasM x.kind).2.2.2.2.1, .bool (hasM x.kind).2.2.2.2.2] := by
     unfold hasC; rw [if_pos (by simpa using hk)]
   rw [hc] at at9
   unfold formM at fin
   rw [hk] at fin ⊢
   simp only [Bool.true_and] at fin
   generalize hasM x.kind = h at *
   obtain ⟨h0, h1, h2, h3, h4, h5⟩ := h
   simp only at at9 fin
   have k1 : ∀ (b : Bool) (H' : AH), At H' id9 (.row [.bool h0, .bool h1, .bool h2, .int .i64 h3, .bool h4, .bool h5]) → (∀ c H'', c = (b && (h5 || x.els.length == 0)) → Q (.bool c) H'') → JoinP (S.f99_k1 Φ (.fptr x.cells) (.ptr id9 0) Q) [.bool b] H' := by
    intro b H' ha hb
    have l : aload H' 1 false (.ptr id9 5) = some (.bool h5) := by rw [ha.load]; rfl
    simp only [JoinP_def, S.f99_k1, sl_zero, Gd3_true, Gd3_false, afaddr, Nat.zero_add, st_l9, Do_of, lstA_len', abin_eql, l, len_eq0]
    cases b
    · exact hb _ _ rfl
    · rw [if_pos rfl]
      refine ite_boolf (fun h => ?_) (fun h => ?_)
      · exact hb _ _ (by rw [h]; rfl)
      · exact hb _ _ (by rw [h]; rfl)
   have k2 : ∀ (b : Bool) (H' : AH), At H' id9 (.row [.bool h0, .bool h1, .bool h2, .int .i64 h3, .bool h4, .bool h5]) → (∀ c H'', c = (b && (h4 || x.thn.length == 0) && (h5 || x.els.length == 0)) → Q (.bool c) H'') → JoinP (S.f99_k2 Φ (.fptr x.cells) (.ptr id9 0) Q) [.bool b] H' := by
    intro b H' ha hb
    have l : aload H' 1 false (.ptr id9 4) = some (.bool h4) := by rw [ha.load]; rfl
    simp only [JoinP_def, S.f99_k2, sl_zero, Gd3_true, Gd3_false, afaddr, Nat.zero_add, st_l8, Do_of, lstA_len', abin_eql, l, len_eq0]
    cases b
    · exact k1 _ _ ha fun c H'' hc => hb c H'' (by rw [hc]; rfl)
    · rw [if_pos rfl]
      refine ite_boolf (fun h => ?_) (fun h => ?_)
      · exact k1 _ _ ha fun c H'' hc => hb c H'' (by rw [hc, h]; rfl)
      · exact k1 _ _ ha fun c H'' hc => hb c H'' (by rw [hc, h]; rfl)
   have k3 : ∀ (b : Bool) (H' : AH), At H' id9 (.row [.bool h0, .bool h1, .bool h2, .int .i64 h3, .bool h4, .bool h5]) → (∀ c H'', c = (b && ((x.exprs.length : Int) == h3) && (h4 || x.thn.length == 0) && (h5 || x.els.length == 0)) → Q (.bool c) H'') →
     JoinP (S.f99_k3 Φ (.fptr x.cells) (.ptr id9 0) Q) [.bool b] H' := by
    intro b H' ha hb
    have l : aload H' 1 false (.ptr id9 3) = some (.int .i64 h3) := by rw [ha.load]; rfl
    simp only [JoinP_def, S.f99_k3, sl_zero, Gd3_true, Gd3_false, afaddr, Nat.zero_add, st_l7, Do_of, lstA_len', abin_eql, l]
    cases b
    · exact k2 _ _ ha fun c H'' hc => hb c H'' (by rw [hc]; rfl)
    · rw [if_pos rfl]
      exact k2 _ _ ha fun c H'' hc => hb c H'' (by rw [hc]; rfl)
   have k4 : ∀ (b : Bool) (H' : AH), At H' id9 (.row [.bool h0, .bool h1, .bool h2, .int .i64 h3, .bool h4, .bool h5]) → (∀ c H'', c = (b && (h2 || emptyM x.place) && ((x.exprs.length : Int) == h3) && (h4 || x.thn.length == 0) && (h5 || x.els.length == 0)) → Q (.bool c) H'') →
     JoinP (S.f99_k4 Φ (.fptr x.cells) (.ptr id9 0) Q) [.bool b] H' := by
    intro b H' ha hb
    have l : aload H' 1 false (.ptr id9 2) = some (.bool h2) := by rw [ha.load]; rfl
    simp only [JoinP_def, S.f99_k4, sl_zero, Gd3_true, Gd3_false, afaddr, Nat.zero_add, st_l5, Do_of, l]
    cases b
    · exact k3 _ _ ha fun c H'' hc => hb c H'' (by rw [hc]; rfl)
    · rw [if_pos rfl]
      refine ite_boolf (fun h => ?_) (fun h => ?_)
      · refine S.cl_f132 hT (check_empty_spec ?_)
        exact k3 _ _ ha fun c H'' hc => hb c H'' (by rw [hc, h]; rfl)
      · exact k3 _ _ ha fun c H'' hc => hb c H'' (by rw [hc, h]; rfl)
   have k5 : ∀ (b : Bool) (H' : AH), At H' id9 (.row [.bool h0, .bool h1, .bool h2, .int .i64 h3, .bool h4, .bool h5]) → (∀ c H'', c = (b && (h1 || x.name2 == []) && (h2 || emptyM x.place) && ((x.exprs.length : Int) == h3) && (h4 || x.thn.length == 0) && (h5 || x.els.length == 0)) → Q (.bool c) H'') →
     JoinP (S.f99_k5 Φ (.fptr x.cells) (.ptr id9 0) Q) [.bool b] H' := by
    intro b H' ha hb
    have l : aload H' 1 false (.ptr id9 1) = some (.bool h1) := by rw [ha.load]; rfl
    simp only [JoinP_def, S.f99_k5, sl_zero, Gd3_true, Gd3_false, afaddr, Nat.zero_add, st_l3, Do_of, l, abin_streq']
    cases b
    · exact k4 _ _ ha fun c H'' hc => hb c H'' (by rw [hc]; rfl)
    · rw [if_pos rfl]
      refine ite_boolf (fun h => ?_) (fun h => ?_)
      · exact k4 _ _ ha fun c H'' hc => hb c H'' (by rw [hc, h]; rfl)
      · exact k4 _ _ ha fun c H'' hc => hb c H'' (by rw [hc, h]; rfl)
   have l : aload H2 1 false (.ptr id9 0) = some (.bool h0) := by rw [at9.load]; rfl
   simp only [Gd3_true, Gd3_false, afaddr, Nat.zero_add, Nat.add_zero, l, Do_of, st_l2, abin_streq', if_true]
   refine ite_boolf (fun h => ?_) (fun h => ?_)
   · exact k5 _ _ at9 fun c H'' hc => fin c H'' (by rw [hc, h]; rfl)
   · exact k5 _ _ at9 fun c H'' hc => fin c H'' (by rw [hc, h]; rfl)
 · simp only [Bool.not_eq_true] at hk
   rw [hk]
   simp only [Gd3_true, S.f99_k1, S.f99_k2, S.f99_k3, S.f99_k4, S.f99_k5, JoinP_def, sl_zero, Bool.false_eq_true, if_false]
   refine fin _ _ ?_
   unfold formM
   rw [hk]; rfl
end
def CInv (s : CSt) : Prop := (s.locals.length : Int) ≤ s.lets ∧ s.lets ≤ 41 ∧ (s.fkind = 0 → s.lets ≤ 40)
theorem need_zero {s : CSt} {ok : Bool} {e : Int} (he : e ≠ 0) (h : (s.need ok e).fkind = 0) : s.fkind = 0 ∧ ok = true := by
 unfold CSt.need at h
 split at h
 · exact absurd h he
 · rename_i hn
   refine ⟨h, ?_⟩
   cases ok with
   | true => rfl
   | false => exact absurd ⟨rfl, h⟩ hn
section
variable (vars : List GVar) (kw : List UInt8 → Bool)
theorem still_frontS (s : CSt) (d : Int) (x : GStmt) : Still s (frontS vars kw s d x) := by
 unfold frontS
 split
 · exact (still_need _ _ _).trans ((still_need _ _ _).trans (still_need _ _ _))
 · split
   · exact still_need _ _ _
   · split
     · exact still_plM vars _ _ _ _
     · exact Still.refl s
theorem frontS_let {s : CSt} {d : Int} {x : GStmt} (hk : x.kind = 1) (h : (frontS vars kw s d x).fkind = 0) : s.lets < 40 := by
 unfold frontS at h
 rw [if_pos hk] at h
 have := (need_zero (by decide) h).2
 exact of_decide_eq_true this
theorem exsM_zero {s : CSt} {d : Int} {l : List GExpr} (h : (exsM vars s d l).fkind = 0) : s.fkind = 0 := by
 by_cases h0 : s.fkind = 0
 · exact h0
 · rw [exsM_bad vars h0] at h; exact absurd h h0
theorem still_rear {s : CSt} {x : GStmt} (hk : x.kind ≠ 1) : Still s (rearS s x) := by
 unfold rearS
 rw [if_neg hk]
 split
 · exact (still_need _ _ _).trans ((still_need _ _ _).trans (still_need _ _ _))
 · exact Still.refl s
theorem bodyS_inv {s : CSt} {d : Int} {x : GStmt} (h0 : s.fkind = 0) (hi : CInv s) : CInv (bodyS vars kw s d x) ∧ s.lets ≤ (bodyS vars kw s d x).lets ∧ s.locals.length ≤ (bodyS vars kw s d x).locals.length := by
 obtain ⟨i1, i2, i3⟩ := hi
 have i4 := i3 h0
 have s1 : Still s (exsM vars (frontS vars kw (headS s d x) d x) d x.exprs) := (still_headS s d x).trans ((still_frontS vars kw _ d x).trans (still_exsM vars _ _ _))
 unfold bodyS
 by_cases hk : x.kind = 1
 · have hl : (exsM vars (frontS vars kw (headS s d x) d x) d x.exprs).fkind = 0 → s.lets < 40 := by
     intro h
     have := frontS_let vars kw hk (exsM_zero vars h)
     rw [(still_headS s d x).2] at this
     exact this
   generalize exsM vars (frontS vars kw (headS s d x) d x) d x.exprs = t at *
   unfold rearS
   rw [if_pos hk]
   unfold CSt.letIn CInv
   simp only [List.length_append, List.length_singleton]
   obtain ⟨s2, s3⟩ := s1
   rw [s2, s3]
   have e : w64 (s.lets + 1) = s.lets + 1 := wrap_i64 (by omega) (by omega)
   rw [e]
   refine ⟨⟨by omega, by omega, fun k => ?_⟩, by omega, by omega⟩
   have := hl k
   omega
 · have s2 := s1.trans (still_rear (s := exsM vars (frontS vars kw (headS s d x) d x) d x.exprs) hk)
   refine ⟨⟨by rw [s2.1, s2.2]; exact i1, by rw [s2.2]; exact i2, fun _ => by rw [s2.2]; exact i4⟩, by rw [s2.2]; exact Int.le_refl _, by rw [s2.1]; exact Nat.le_refl _⟩
mutual
theorem stM_inv : ∀ (x : GStmt) (s : CSt) (d : Int), s.fkind = 0 → CInv s → CInv (stM vars kw s d x) ∧ s.lets ≤ (stM vars kw s d x).lets ∧ s.locals.length ≤ (stM vars kw s d x).locals.length
 | .mk kind line name name2 order place exprs thn els, s, d, h0, hi => by
  rw [stM]
  have h1 := bodyS_inv vars kw (d := d) (x := .mk kind line name name2 order place exprs thn els) h0 hi
  generalize bodyS vars kw s d (.mk kind line name name2 order place exprs thn els) = s1 at *
  have h2 := blM_inv thn s1 s1.locals.length (w64 (d + 1)) h1.1 (Nat.le_refl _)
  generalize blM vars kw s1 s1.locals.length (w64 (d + 1)) thn = s2 at *
  have e1 : (s2.at line).lets = s2.lets := rfl
  have e2 : (s2.at line).locals.length = s2.locals.length := rfl
  have hi2 : CInv (s2.at line) := h2.1
  generalize s2.at line = t at *
  have h3 := blM_inv els t t.locals.length (w64 (d + 1)) hi2 (Nat.le_refl _)
  exact ⟨h3.1, by omega, by omega⟩
theorem blM_inv : ∀ (l : List GStmt) (s : CSt) (n : Nat) (d : Int), CInv s → n ≤ s.locals.length → CInv (blM vars kw s n d l) ∧ s.lets ≤ (blM vars kw s n d l).lets ∧ (blM vars kw s n d l).locals.length = n
 | [], s, n, d, hi, hn => by
  rw [blM]
  obtain ⟨i1, i2, i3⟩ := hi
  have e : (s.back n).locals.length = n := by show (s.locals.take n).length = n; rw [List.length_take]; omega
  exact ⟨⟨by rw [e]; show (n : Int) ≤ s.lets; omega, i2, i3⟩, Int.le_refl _, e⟩
 | x :: r, s, n, d, hi, hn => by
  rw [blM]
  by_cases h0 : s.fkind = 0
  · rw [if_neg (by simpa using h0)]
    have h1 := stM_inv x (s.at x.line) d h0 hi
    have e1 : (s.at x.line).lets = s.lets := rfl
    have e2 : (s.at x.line).locals = s.locals := rfl
    rw [e1, e2] at h1
    have h2 := blM_inv r (stM vars kw (s.at x.line) d x) n d h1.1 (by omega)
    exact ⟨h2.1, by omega, h2.2.2⟩
  · rw [if_pos h0]
    exact blM_inv r s n d hi hn
end
theorem blockM_inv {s : CSt} {d : Int} {l : List GStmt} (hi : CInv s) : CInv (blockM vars kw s d l) ∧ s.lets ≤ (blockM vars kw s d l).lets ∧ (blockM vars kw s d l).locals.length = s.locals.length := blM_inv vars kw l s _ d hi (Nat.le_refl _)
end
def Frame (id : Nat) (loc : AV) (H : AH) (loc' : AV) (H' : AH) : Prop :=
 H.n ≤ H'.n ∧ (∀ i o, i ≠ id → (∀ n, loc ≠ .row i 0 n 1) → At H i o → At H' i o) ∧ ∀ j n, loc' = .row j 0 n 1 → (∃ m, loc = .row j 0 m 1) ∨ H.n ≤ j
theorem Frame.of {id : Nat} {loc : AV} {H H' : AH} (h : KeepC id H H') : Frame id loc H loc H' := ⟨h.1, fun i o hi _ ho => h.2 i o hi ho, fun j n e => .inl ⟨n, e⟩⟩
theorem Frame.trans {id : Nat} {l0 l1 l2 : AV} {a b c : AH} (h : Frame id l0 a l1 b) (k : Frame id l1 b l2 c) : Frame id l0 a l2 c := by
 refine ⟨Nat.le_trans h.1 k.1, fun i o hi hn ho => k.2.1 i o hi (fun n e => ?_) (h.2.1 i o hi hn ho), fun j n e => ?_⟩
 · rcases h.2.2 i n e with ⟨m, e'⟩ | hge
   · exact hn m e'
   · exact absurd ho.1 (by omega)
 · rcases k.2.2 j n e with ⟨m, e'⟩ | hge
   · exact h.2.2 j m e'
   · right; have := h.1; omega
end Rb

namespace Rb
open Go
theorem GStmt.ok_parts {x : GStmt} (h : x.ok) : x.place.ok ∧ (x.exprs.length ≤ 9223372036854775807 ∧ ∀ e ∈ x.exprs, e.ok) ∧ (x.thn.length ≤ 9223372036854775807 ∧ ∀ y ∈ x.thn, y.ok) ∧ (x.els.length ≤ 9223372036854775807 ∧ ∀ y ∈ x.els, y.ok) := by
 rw [← i64max]
 cases x with
 | mk kind line name name2 order place exprs thn els =>
  obtain ⟨_, _, _, _, _, h6, h7, h8, h9, h10, h11, h12⟩ := h
  exact ⟨h6, ⟨h7, GExpr.oks_iff.1 h8⟩, ⟨h9, GStmt.oks_iff.1 h10⟩, h11, GStmt.oks_iff.1 h12⟩
theorem GStmt.ind {P : GStmt → Prop} (h : ∀ x : GStmt, (∀ y ∈ x.thn, P y) → (∀ y ∈ x.els, P y) → P x) : ∀ x, P x := by
 have main : ∀ (n : Nat) (x : GStmt), sizeOf x < n → P x := by
  intro n
  induction n with
  | zero => intro x hx; omega
  | succ n ih =>
   intro x hx
   refine h x (fun y hy => ih _ ?_) fun y hy => ih _ ?_
   · cases x with
     | mk kind line name name2 order place exprs thn els =>
      have := List.sizeOf_lt_of_mem hy
      simp at this hx ⊢; omega
   · cases x with
     | mk kind line name name2 order place exprs thn els =>
      have := List.sizeOf_lt_of_mem hy
      simp at this hx ⊢; omega
 exact fun x => main _ x (Nat.lt_succ_self _)
theorem setCells_one (cs : List AV) (n : Nat) (v : AV) : setCells cs n [v] = cs.set n v := rfl
theorem loc_append {H : AH} {id : Nat} {loc : AV} {l : List (List UInt8)} {x : List UInt8} {cs0 : List AV} (hat : At H id (.row cs0)) (hloc : LocR H id loc l) (hb : l.length ≤ 1000) {K : Post}
  (hK : ∀ loc' H', Frame id loc H loc' H' → At H' id (.row cs0) → LocR H' id loc' (l ++ [x]) → K loc' H') : DoH (aappend H true 1 16 loc (.lst .full 1 [.str x])) K := by
 have hy : acells H 1 (.lst .full 1 [.str x]) = some (1, [.str x]) := rfl
 rcases hloc with ⟨rfl, rfl⟩ | ⟨j, cs, rfl, h2, h3, h4, h5⟩
 · refine ⟨.row H.n 0 1 1, H.push (.row [.str x]), rfl, ?_⟩
   refine hK _ _ ⟨Nat.le_succ _, fun i o _ _ h => h.push _, fun j n e => ?_⟩ (hat.push _) (.inr ⟨H.n, [.str x], rfl, Ne.symm hat.lt_new, At.new H _, Nat.le_refl _, rfl⟩)
   cases e
   right; exact Nat.le_refl _
 · by_cases hc : l.length + 1 ≤ cs.length
   · refine ⟨.row j 0 (l.length + 1) 1, H.set j (.row (setCells cs (l.length * 1) [.str x])), ?_, ?_⟩
     · simp only [aappend, hy, h3.2]
       simp only [List.all_cons, List.all_nil, AV.scalar, Bool.and_true, not_true_eq_false, if_false]
       rw [if_neg (by decide), if_neg (by simp only [Decidable.not_not]; exact ⟨trivial, trivial, by omega, by omega⟩), if_pos (by omega)]
     · rw [Nat.mul_one, setCells_one]
       refine hK _ _ ⟨Nat.le_refl _, fun i o hi hn h => h.set_ne (fun e => hn l.length (by rw [e])) _, fun i n e => ?_⟩ (hat.set_ne (Ne.symm h2) _) (.inr ⟨j, cs.set l.length (.str x), by simp, h2, h3.set _, by simpa using hc, ?_⟩)
       · cases e
         left; exact ⟨_, rfl⟩
       · rw [List.length_append, List.length_singleton, List.take_add_one, List.getElem?_set_self (by omega), List.take_set_of_le (by omega), h5]
         simp
   · have hce : cs.length = l.length := by omega
     refine ⟨.row H.n 0 (l.length + 1) 1, (H.set j .gone).push (.row (cs ++ [.str x])), ?_, ?_⟩
     · simp only [aappend, hy, h3.2]
       simp only [List.all_cons, List.all_nil, AV.scalar, Bool.and_true, not_true_eq_false, if_false]
       rw [if_neg (by decide), if_neg (by simp only [Decidable.not_not]; exact ⟨trivial, trivial, by omega, by omega⟩), if_neg (by omega), if_pos (by omega)]
     · refine hK _ _ ⟨by simp, fun i o hi hn h => (h.set_ne (fun e => hn l.length (by rw [e])) _).push _, fun i n e => ?_⟩ ((hat.set_ne (Ne.symm h2) _).push _) (.inr ⟨H.n, cs ++ [.str x], by simp, Ne.symm hat.lt_new, ?_, by simp; omega, ?_⟩)
       · cases e
         right; exact Nat.le_refl _
       · exact At.new (H.set j .gone) _
       · rw [List.length_append, List.length_singleton, List.take_of_length_le (by simp; omega)]
         rw [← hce, List.take_length] at h5
         rw [h5]; simp
def StmtS (C : Ctx) (id : Nat) (vars : List GVar) (kw : List UInt8 → Bool) (x : GStmt) : Prop :=
 ∀ (s : CSt) (d : Int) (loc : AV) (H : AH) (Q : Post), s.fkind = 0 → CInv s → At H id (.row (ckC vars s loc)) → LocR H id loc s.locals →
  (∀ H' loc', Frame id loc H loc' H' → At H' id (.row (ckC vars (stM vars kw s d x) loc')) → LocR H' id loc' (stM vars kw s d x).locals → Q (.tup []) H') → ACall C K.f75 [.ptr id 0, .agg x.cells, .int .i64 d] H Q
section
variable {C : Ctx} (hGT : GTok C) (hT : Cl (ACall C) S.tab_Chk) {id : Nat} {vars : List GVar} {kw : List UInt8 → Bool}
include hGT hT
theorem form_val (x : GStmt) : Val (ACall C) K.f99 [.agg x.cells] (.bool (formM x)) :=
 Val.of hGT (by simp [AV.frozs, AV.froz, GStmt.froz]) rfl fun Q hQ => S.cl_f99 hT (check_form_spec hT hQ)
theorem block_spec {l : List GStmt} (hl : l.length ≤ 9223372036854775807) (hS : ∀ x ∈ l, StmtS C id vars kw x) {s : CSt} {d : Int} {loc : AV} {H : AH} {Q : Post} (hi : CInv s) (hat : At H id (.row (ckC vars s loc))) (hloc : LocR H id loc s.locals)
  (hQ : ∀ H' loc', Frame id loc H loc' H' → At H' id (.row (ckC vars (blockM vars kw s d l) loc')) → LocR H' id loc' (blockM vars kw s d l).locals → Q (.tup []) H') : ACall C K.f46 [.ptr id 0, lstA GStmt.cells l, .int .i64 d] H Q := by
 refine S.cl_f46 hT ?_
 unfold S.f46
 simp only [anilck, afaddr, Do_of, Nat.zero_add]
 rw [hat.load, show takeCells (ckC vars s loc) 1 1 false = some loc from rfl]
 simp only [Do_of]
 have hlen : ∀ {H : AH} {lc : AV} {xs : List (List UInt8)}, LocR H id lc xs → alen false lc = some (.int .i64 xs.length) := by
  intro H lc xs h
  rcases h with ⟨rfl, rfl⟩ | ⟨j, cs, rfl, _⟩
  · rfl
  · rfl
 rw [hlen hloc]
 simp only [Do_of, lstA_len']
 have main : ∀ (r : List GStmt) (i : Nat) (s' : CSt) (loc1 : AV) (H1 : AH), l.drop i = r → CInv s' → s.locals.length ≤ s'.locals.length → Frame id loc H loc1 H1 → At H1 id (.row (ckC vars s' loc1)) → LocR H1 id loc1 s'.locals → blM vars kw s' s.locals.length d r = blockM vars kw s d l →
   LoopP (S.f46_l3 (ACall C) (.ptr id 0) (lstA GStmt.cells l) (.int .i64 d) (.int .i64 s.locals.length) (.int .i64 l.length) Q) ([.int .i64 i], H1) := by
  intro r
  induction r with
  | nil =>
   intro i s' loc1 H1 hd hi1 hle1 hf ha hlo he
   have hle := drop_nil_le hd
   refine LoopP.step ?_
   simp only [S.f46_l3, sl_zero, abin_lss, Do_of, Gd_true]
   rw [if_neg (by simp only [decide_eq_true_eq]; omega)]
   simp only [JoinP_def, S.f46_k2, anilck, afaddr, Do_of, Nat.zero_add]
   rw [ha.load, show takeCells (ckC vars s' loc1) 1 1 false = some loc1 from rfl]
   simp only [Do_of]
   rw [blM] at he
   have cut : ∃ loc2, aslice 1 loc1 none (some (.int .i64 s.locals.length)) none = some loc2 ∧ Frame id loc1 H1 loc2 H1 ∧ (∀ cs, At (H1.set id (.row cs)) id (.row cs) → LocR (H1.set id (.row cs)) id loc2 (s'.locals.take s.locals.length)) ∧ loc2.known = true ∧ loc2.cells = [loc2] ∧ loc2.scalar = true := by
    rcases hlo with ⟨rfl, h⟩ | ⟨j, cs, rfl, h2, h3, h4, h5⟩
    · have h0 : s.locals.length = 0 := by rw [h] at hle1; simpa using hle1
      refine ⟨.lst .nil 0 [], ?_, ⟨Nat.le_refl _, fun _ _ _ _ h => h, fun _ _ e => by cases e⟩, fun _ _ => .inl ⟨rfl, by rw [h]; simp⟩, rfl, rfl, rfl⟩
      rw [h0]; rfl
    · refine ⟨.row j 0 s.locals.length 1, ?_, ⟨Nat.le_refl _, fun _ _ _ _ h => h, fun i n e => by cases e; exact .inl ⟨_, rfl⟩⟩, fun cs' _ => .inr ⟨j, cs, ?_, h2, h3.set_ne h2 _, ?_, ?_⟩, rfl, rfl, rfl⟩
      · simp only [aslice, abound]
        rw [if_pos (by omega)]
        simp only [Option.map_none]
        rw [if_pos ⟨Nat.zero_le _, by omega, trivial⟩, if_pos (.inl trivial)]
        simp
      · rw [List.length_take, Nat.min_eq_left hle1]
      · rw [List.length_take]; omega
      · rw [List.length_take, Nat.min_eq_left hle1, List.map_take, ← h5, List.take_take, Nat.min_eq_left hle1]
   obtain ⟨loc2, e1, f2, l2, g1, g2, g3⟩ := cut
   rw [e1]
   simp only [Do_of]
   rw [ha.store, if_pos ⟨g1, by rw [g2]; rfl, by rw [g2]; simp [g3], by simp [ckC]⟩, g2]
   simp only [Do_of]
   have e2 : setCells (ckC vars s' loc1) 1 [loc2] = ckC vars (s'.back s.locals.length) loc2 := rfl
   rw [e2]
   refine hQ _ loc2 ((hf.trans f2).trans (Frame.of (KeepC.set id H1 _))) (by rw [← he]; exact ha.set _) ?_
   rw [← he]
   exact l2 _ (ha.set _)
  | cons x r ih =>
   intro i s' loc1 H1 hd hi1 hle1 hf ha hlo he
   obtain ⟨hlt, hx, hd'⟩ := drop_cons_lt hd
   have hxm := List.mem_of_getElem? hx
   refine LoopP.step ?_
   simp only [S.f46_l3, sl_zero, abin_lss, Do_of, Gd_true]
   rw [if_pos (by simp only [decide_eq_true_eq]; omega), lstA_addr hlt]
   simp only [Do_of]
   rw [elA_load GStmt.len (by decide) _ hx]
   simp only [Do_of, DoH_some, abox, if_true]
   rw [store_new _ _ _ 10 x.len x.scalar rfl]
   simp only [Do_of, afaddr, Nat.zero_add]
   have ha2 := ha.push (.row x.cells)
   have hk2 : KeepC id H1 (H1.push (.row x.cells)) := KeepC.push id H1 (.row x.cells)
   have hat15 := At.new H1 (.row x.cells)
   have hne : H1.n ≠ id := Ne.symm ha.lt_new
   have next : ∀ (s2 : CSt) (loc3 : AV) (H3 : AH), CInv s2 → s.locals.length ≤ s2.locals.length → Frame id loc H loc3 H3 → At H3 id (.row (ckC vars s2 loc3)) → LocR H3 id loc3 s2.locals → blM vars kw s2 s.locals.length d r = blockM vars kw s d l →
     JoinP (S.f46_k1 (ACall C) ([.int .i64 i], H1) (LoopP (S.f46_l3 (ACall C) (.ptr id 0) (lstA GStmt.cells l) (.int .i64 d) (.int .i64 s.locals.length) (.int .i64 l.length) Q)) Q) [] H3 := by
    intro s2 loc3 H3 i3 hl3 f3 a3 l3 e3
    simp only [JoinP_def, S.f46_k1, sl_zero, abin_add, Do_of]
    rw [wrap_i64 (by omega) (by omega), show ((i : Int) + 1) = ((i + 1 : Nat) : Int) by simp]
    exact ih (i + 1) s2 loc3 H3 hd' i3 hl3 f3 a3 l3 e3
   rw [blM] at he
   generalize H1.push (.row x.cells) = H2 at *
   generalize H1.n = id15 at *
   refine S.cl_f47 hT (ck_bad ha2 ?_)
   simp only [aun_not, Do_of, Gd_true]
   refine ite_both (fun h => ?_) (fun h => ?_)
   · have h0 : s'.fkind = 0 := by simpa using h
     rw [if_neg (by simpa using h0)] at he
     have ll : aload H2 1 false (.ptr id15 1) = some (.int .i64 x.line) := by rw [hat15.load, GStmt.cells_eq, GPlace.cells_eq]; rfl
     simp only [ll, Do_of, anilck]
     rw [ha2.store, if_pos ⟨rfl, rfl, rfl, by simp [ckC]⟩]
     simp only [Do_of]
     have e4 : setCells (ckC vars s' loc1) 3 (AV.int .i64 x.line).cells = ckC vars (s'.at x.line) loc1 := rfl
     rw [e4]
     have a4 : At (H2.set id (.row (ckC vars (s'.at x.line) loc1))) id (.row (ckC vars (s'.at x.line) loc1)) := ha2.set _
     have k4 : KeepC id H1 (H2.set id (.row (ckC vars (s'.at x.line) loc1))) := hk2.trans (KeepC.set id H2 _)
     have at15 : At (H2.set id (.row (ckC vars (s'.at x.line) loc1))) id15 (.row x.cells) := hat15.set_ne hne _
     generalize H2.set id (.row (ckC vars (s'.at x.line) loc1)) = H3 at *
     rw [at15.load, takeCells_whole x.len]
     simp only [Do_of]
     have inv := stM_inv vars kw x (s'.at x.line) d h0 hi1
     refine hS x hxm (s'.at x.line) d loc1 H3 _ h0 hi1 a4 (hlo.keep k4) fun H5 loc5 f5 a5 l5 => ?_
     exact next _ loc5 H5 inv.1 (Nat.le_trans hle1 inv.2.2) ((hf.trans (Frame.of k4)).trans f5) a5 l5 he
   · have h0 : s'.fkind ≠ 0 := by simpa using h
     rw [if_pos h0] at he
     exact next s' loc1 H2 hi1 hle1 (hf.trans (Frame.of hk2)) ha2 (hlo.keep hk2) he
 exact main l 0 s loc H rfl hi (Nat.le_refl _) (Frame.of (KeepC.refl id H)) hat hloc rfl
theorem stmt_spec (hlv : vars.length ≤ maxLen) (hv : ∀ v ∈ vars, v.ok) (hkw : ∀ x, Val (ACall C) K.f72 [.str x] (.bool (kw x))) : ∀ x : GStmt, x.ok → StmtS C id vars kw x := by
 refine GStmt.ind fun x ihT ihE hx => ?_
 obtain ⟨hpl, ⟨hel, hee⟩, ⟨htl, htt⟩, hsl, hss⟩ := GStmt.ok_parts hx
 have hpp := GPlace.ok_parts hpl
 have hexpr : ∀ e : GExpr, e.ok → ExprS C id vars e := expr_spec hGT hT hlv hv
 intro s d loc H Q h0 hi hat hloc hQ
 have hb : s.locals.length ≤ 1000 := by have := hi.1; have := hi.2.1; omega
 have binv := bodyS_inv vars kw (d := d) (x := x) h0 hi
 rw [stM_eq] at hQ
 refine S.cl_f75 hT ?_
 unfold S.f75
 simp only [st_box, DoH_some, abin_leq, Do_of]
 refine ck_need hT hat fun H1 k1 a1 => ?_
 simp only [st_all, Do_of]
 refine form_val hGT hT x _ _ ?_
 refine ck_need hT a1 fun H2 k2 a2 => ?_
 simp only [st_addr, st_l0, st_l4, Do_of]
 refine order_val hGT hT _ _ _ _ ?_
 refine ck_need hT a2 fun H3 k3 a3 => ?_
 have kk := k1.trans (k2.trans k3)
 change At H3 id (.row (ckC vars (headS s d x) loc)) at a3
 have st1 := still_headS s d x
 have tail : ∀ (loc3 : AV) (H4 : AH), Frame id loc H loc3 H4 → At H4 id (.row (ckC vars (bodyS vars kw s d x) loc3)) → LocR H4 id loc3 (bodyS vars kw s d x).locals → JoinP (S.f75_k1 (ACall C) (.ptr id 0) (.int .i64 d) (.fptr x.cells) Q) [] H4 := by
  intro loc3 H4 f4 a4 l4
  generalize bodyS vars kw s d x = s3 at *
  simp only [JoinP_def, S.f75_k1, st_addr, st_l8, Do_of, abin_add]
  have b1 := blockM_inv vars kw (d := w64 (d + 1)) (l := x.thn) binv.1
  refine block_spec hGT hT htl (fun y hy => ihT y hy (htt y hy)) binv.1 a4 l4 fun H5 loc5 f5 a5 l5 => ?_
  simp only [st_l1, Do_of, anilck, afaddr, Nat.zero_add]
  change At H5 id (.row (ckC vars (blockM vars kw s3 (w64 (d + 1)) x.thn) loc5)) at a5
  generalize blockM vars kw s3 (w64 (d + 1)) x.thn = s4 at *
  rw [a5.store, if_pos ⟨rfl, rfl, rfl, by simp [ckC]⟩]
  simp only [Do_of]
  have e4 : setCells (ckC vars s4 loc5) 3 (AV.int .i64 x.line).cells = ckC vars (s4.at x.line) loc5 := rfl
  rw [e4]
  simp only [Do_of, st_addr, st_l9]
  refine block_spec hGT hT hsl (fun y hy => ihE y hy (hss y hy)) (s := s4.at x.line) b1.1 (a5.set _) (l5.keep (KeepC.set id H5 _)) fun H6 loc6 f6 a6 l6 => ?_
  exact hQ H6 loc6 (((f4.trans f5).trans (Frame.of (KeepC.set id H5 _))).trans f6) a6 l6
 have mid : ∀ (H4 : AH), KeepC id H H4 → At H4 id (.row (ckC vars (frontS vars kw (headS s d x) d x) loc)) → JoinP (S.f75_k2 (ACall C) (.ptr id 0) (.int .i64 d) (.fptr x.cells) Q) [] H4 := by
  intro H4 k4 a4
  have st2 := st1.trans (still_frontS vars kw (headS s d x) d x)
  simp only [JoinP_def, S.f75_k2, st_addr, st_l7, Do_of]
  refine exprs_spec hGT hT hel (fun e he => hexpr e (hee e he)) a4 ((hloc.keep k4).still st2) (by rw [st2.1]; exact hb) fun H5 k5 a5 => ?_
  have st3 := st2.trans (still_exsM vars x.exprs (frontS vars kw (headS s d x) d x) d)
  have kk5 := k4.trans k5
  have hbody : bodyS vars kw s d x = rearS (exsM vars (frontS vars kw (headS s d x) d x) d x.exprs) x := rfl
  rw [hbody] at tail
  generalize exsM vars (frontS vars kw (headS s d x) d x) d x.exprs = s4 at *
  simp only [st_l0, Do_of, abin_eql, Gd_true]
  refine ite_both (fun h => ?_) (fun h => ?_)
  · have hk1 : x.kind = 1 := by simpa using h
    have er : rearS s4 x = s4.letIn x.name := by unfold rearS; rw [if_pos hk1]
    rw [er] at tail
    simp only [anilck, afaddr, Do_of, Nat.zero_add]
    rw [a5.load, show takeCells (ckC vars s4 loc) 1 1 false = some loc from rfl]
    simp only [Do_of, st_addr, st_l2]
    rw [show abslice H5 false 1 1 [.str []] [(0, 1, .str x.name)] = some (.lst .full 1 [.str x.name], H5) from rfl]
    simp only [DoH_some]
    refine loc_append a5 ((hloc.keep kk5).still st3) (by rw [st3.1]; exact hb) fun loc6 H6 f6 a6 l6 => ?_
    have kn : loc6.known = true ∧ loc6.cells = [loc6] ∧ loc6.scalar = true := by
     rcases l6 with ⟨rfl, _⟩ | ⟨j, cs, rfl, _⟩
     · exact ⟨rfl, rfl, rfl⟩
     · exact ⟨rfl, rfl, rfl⟩
    rw [a6.store, if_pos ⟨kn.1, by rw [kn.2.1]; rfl, by rw [kn.2.1]; simp [kn.2.2], by simp [ckC]⟩, kn.2.1]
    simp only [Do_of]
    have e7 : setCells (ckC vars s4 loc) 1 [loc6] = ckC vars s4 loc6 := rfl
    rw [e7]
    have a7 : At (H6.set id (.row (ckC vars s4 loc6))) id (.row (ckC vars s4 loc6)) := a6.set _
    have k7 : KeepC id H6 (H6.set id (.row (ckC vars s4 loc6))) := KeepC.set id H6 _
    generalize H6.set id (.row (ckC vars s4 loc6)) = H7 at *
    rw [a7.load, show takeCells (ckC vars s4 loc6) 2 1 false = some (.int .i64 s4.lets) from rfl]
    simp only [Do_of, abin_add]
    rw [a7.store, if_pos ⟨rfl, rfl, rfl, by simp [ckC]⟩]
    simp only [Do_of]
    have k8 := k7.trans (KeepC.set id H7 (.row (setCells (ckC vars s4 loc6) 2 (AV.int .i64 (IntKind.wrap .i64 (s4.lets + 1))).cells)))
    exact tail loc6 _ (((Frame.of kk5).trans f6).trans (Frame.of k8)) (a7.set _) (l6.keep k8)
  · have hk1 : x.kind ≠ 1 := by simpa using h
    refine ite_both (fun h5 => ?_) (fun h5 => ?_)
    · have hk5 : x.kind = 5 := by simpa using h5
      have er : rearS s4 x = ((s4.need (s4.has x.name) 6).need ((s4.need (s4.has x.name) 6).has x.name2) 6).need (!(x.name == x.name2)) 7 := by
       unfold rearS
       rw [if_neg hk1, if_pos hk5]
       have : (s4.need (s4.has x.name) 6).has x.name2 = s4.has x.name2 := by unfold CSt.has; rw [(still_need s4 _ _).1]
       rw [this]
      rw [er] at tail
      simp only [st_l2, st_l3, Do_of]
      refine ck_there hT a5 ((hloc.keep kk5).still st3) (by rw [st3.1]; exact hb) ?_
      refine ck_need hT a5 fun H6 k6 a6 => ?_
      have st4 := st3.trans (still_need s4 (s4.has x.name) 6)
      refine ck_there hT a6 ((hloc.keep (kk5.trans k6)).still st4) (by rw [st4.1]; exact hb) ?_
      refine ck_need hT a6 fun H7 k7 a7 => ?_
      simp only [abin_strne, Do_of]
      refine ck_need hT a7 fun H8 k8 a8 => ?_
      have k9 := kk5.trans (k6.trans (k7.trans k8))
      refine tail loc H8 (Frame.of k9) a8 ((hloc.keep k9).still (st4.trans ((still_need _ _ _).trans (still_need _ _ _))))
    · have hk5 : x.kind ≠ 5 := by simpa using h5
      have er : rearS s4 x = s4 := by unfold rearS; rw [if_neg hk1, if_neg hk5]
      rw [er] at tail
      exact tail loc H5 (Frame.of kk5) a5 ((hloc.keep kk5).still st3)
 have hfr : frontS vars kw (headS s d x) d x = frontS vars kw (headS s d x) d x := rfl
 conv at hfr => rhs; unfold frontS
 rw [hfr] at mid
 clear hfr
 generalize headS s d x = s1 at *
 simp only [st_l0, Do_of, abin_eql, Gd_true]
 refine ite_both (fun h => ?_) (fun h => ?_)
 · rw [if_pos (by simpa using h)] at mid
   have k3' : ∀ (b : Bool) (H4 : AH), b = (nameOk x.name && !kw x.name) → KeepC id H H4 → At H4 id (.row (ckC vars (s1.need b 6) loc)) → JoinP (S.f75_k3 (ACall C) (.ptr id 0) (.int .i64 d) (.fptr x.cells) Q) [] H4 := by
    intro b H4 hb4 k4 a4
    rw [← hb4] at mid
    have st2 := st1.trans (still_need s1 b 6)
    have ehas : (s1.need b 6).has x.name = s1.has x.name := by unfold CSt.has; rw [(still_need s1 b 6).1]
    have elets : ((s1.need b 6).need (!s1.has x.name) 7).lets = s1.lets := ((still_need s1 b 6).trans (still_need _ _ _)).2
    simp only [JoinP_def, S.f75_k3, st_addr, st_l2, Do_of]
    refine ck_there hT a4 ((hloc.keep k4).still st2) (by rw [st2.1]; exact hb) ?_
    rw [ehas]
    simp only [aun_not, Do_of]
    refine ck_need hT a4 fun H5 k5 a5 => ?_
    simp only [anilck, afaddr, Do_of, Nat.zero_add]
    rw [a5.load, show takeCells (ckC vars ((s1.need b 6).need (!s1.has x.name) 7) loc) 2 1 false = some (.int .i64 ((s1.need b 6).need (!s1.has x.name) 7).lets) from rfl, elets]
    simp only [Do_of, abin_lss]
    refine ck_need hT a5 fun H6 k6 a6 => ?_
    exact mid H6 (k4.trans (k5.trans k6)) a6
   simp only [st_l2, Do_of]
   refine kindName_val hGT hT x.name _ _ ?_
   simp only [Gd3_true]
   refine ite_bool (fun hn => ?_) (fun hn => ?_)
   · refine hkw x.name _ _ ?_
     simp only [aun_not, Do_of]
     refine ck_need hT a3 fun H4 k4 a4 => ?_
     exact k3' _ H4 (by rw [hn]; rfl) (kk.trans k4) a4
   · refine ck_need hT a3 fun H4 k4 a4 => ?_
     exact k3' _ H4 (by rw [hn]; rfl) (kk.trans k4) a4
 · rw [if_neg (by simpa using h)] at mid
   refine ite_both (fun h2 => ?_) (fun h2 => ?_)
   · rw [if_pos (by simpa using h2)] at mid
     simp only [st_l2, Do_of]
     refine ck_there hT a3 ((hloc.keep kk).still st1) (by rw [st1.1]; exact hb) ?_
     refine ck_need hT a3 fun H4 k4 a4 => ?_
     exact mid H4 (kk.trans k4) a4
   · rw [if_neg (by simpa using h2)] at mid
     have k4' : ∀ b : Bool, (b = true ↔ (x.kind = 3 ∨ x.kind = 4 ∨ x.kind = 5 ∨ x.kind = 6)) → JoinP (S.f75_k4 (ACall C) (.ptr id 0) (.int .i64 d) (.fptr x.cells) Q) [.bool b] H3 := by
      intro b hb4
      simp only [JoinP_def, S.f75_k4, sl_zero, Gd_true, st_addr, st_l0, st_l5, Do_of]
      refine ite_both (fun h => ?_) (fun h => ?_)
      · rw [if_pos (hb4.1 h)] at mid
        refine ckplace_spec hGT hT hlv hv hpl (fun p hp i hi => hexpr i ((hpp.2 p hp).2 i hi)) a3 ((hloc.keep kk).still st1) (by rw [st1.1]; exact hb) fun H' k' a' => ?_
        exact mid H' (kk.trans k') a'
      · rw [if_neg fun y => h (hb4.2 y)] at mid
        exact mid H3 kk a3
     refine ite_both (fun h3 => ?_) (fun h3 => ?_)
     · refine k4' _ ?_
       simp only [beq_iff_eq] at h3
       simp [h3]
     · refine ite_both (fun h4 => ?_) (fun h4 => ?_)
       · refine k4' _ ?_
         simp only [beq_iff_eq] at h4
         simp [h4]
       · refine ite_both (fun h5 => ?_) (fun h5 => ?_)
         · refine k4' _ ?_
           simp only [beq_iff_eq] at h5
           simp [h5]
         · refine k4' _ ?_
           simp only [beq_iff_eq] at h3 h4 h5
           simp [h3, h4, h5]
end
end Rb

namespace Rb
open Go
theorem upW_bnd {n step : Int} (h1 : 0 ≤ n) (h2 : n ≤ 1000000000) (h3 : 1 ≤ step) (h4 : step ≤ 1000000) : n ≤ upW n step ∧ upW n step ≤ n + step - 1 := by
 rw [upW_eq h1 h2 h3 h4]
 have h5 := Int.mul_ediv_add_emod (n + step - 1) step
 have h6 := Int.emod_lt_of_pos (n + step - 1) (show 0 < step by omega)
 have h7 := Int.emod_nonneg (n + step - 1) (show step ≠ 0 by omega)
 rw [Int.mul_comm] at h5
 omega
def PInv (k : Int) (p : PL) : Prop := 0 ≤ p.bit ∧ p.bit ≤ k * 1000000 ∧ 0 ≤ p.size ∧ p.size ≤ k * 1000000 ∧ 1 ≤ p.align ∧ p.align ≤ 16
theorem tdiv8 {n : Int} (h1 : 0 ≤ n) (h2 : n ≤ 1000000000) : w64 (n.tdiv 8) = n / 8 := by
 rw [Int.tdiv_eq_ediv_of_nonneg h1]
 exact wrap_i64 (by omega) (by omega)
theorem sizeM_inv {k : Int} {p : PL} (h1 : 0 ≤ p.bit) (h2 : p.bit ≤ (k + 1) * 1000000) (h3 : 0 ≤ p.size) (h4 : p.size ≤ k * 1000000) (h5 : 1 ≤ p.align) (h6 : p.align ≤ 16) (hk : 0 ≤ k) (hk2 : k ≤ 40) : PInv (k + 1) (sizeM p) := by
 obtain ⟨a, b⟩ := upW_bnd (n := p.bit) (step := 8) h1 (by omega) (by omega) (by omega)
 have e : w64 ((upW p.bit 8).tdiv 8) = upW p.bit 8 / 8 := tdiv8 (by omega) (by omega)
 refine ⟨h1, h2, ?_, ?_, h5, h6⟩
 · show 0 ≤ max p.size _
   omega
 · show max p.size (w64 ((upW p.bit 8).tdiv 8)) ≤ _
   rw [e]
   omega
theorem fieldM_inv {k : Int} {packed : Bool} {kind : Int} {seen : List (List UInt8)} {p : PL} {f : GField} {g : Int × Int} (hp : PInv k p) (hk : 0 ≤ k) (hk2 : k ≤ 40) (hs : sndF packed seen f = 0) (h1 : 0 ≤ g.1) (h2 : g.1 ≤ 65536) (h3 : 1 ≤ g.2) (h4 : g.2 ≤ 16) : PInv (k + 1) (fieldM packed kind p f g) := by
 obtain ⟨b1, b2, s1, s2, a1, a2⟩ := hp
 have hb : f.bits = true → (f.type.size = 1 ∨ f.type.size = 2 ∨ f.type.size = 4 ∨ f.type.size = 8) ∧ 0 ≤ f.width ∧ f.width ≤ 64 := by
  intro hbits
  rw [sndF_eq] at hs
  split at hs
  · cases hs
  split at hs
  · cases hs
  split at hs
  · rename_i hz; exact absurd hs hz
  rename_i hz
  split at hs
  · cases hs
  rename_i hn
  split at hs
  · cases hs
  rename_i hw
  have hk1 : f.type.kind = 1 := by
   by_cases hk : f.type.kind = 1
   · exact hk
   · exact absurd (.inr ⟨hbits, .inl hk⟩) hn
  have h0 : sndT f.type = 0 := by simpa using hz
  have hsz : f.type.size = 1 ∨ f.type.size = 2 ∨ f.type.size = 4 ∨ f.type.size = 8 := by
   rw [sndT_eq, hk1] at h0
   split at h0
   · cases h0
   · simp only [if_true] at h0
     split at h0
     · rename_i hp
       simp [pow2] at hp
       omega
     · cases h0
  have hw' : ¬ f.width < 0 ∧ ¬ 8 * f.type.size < f.width := ⟨fun h => hw ⟨hbits, .inl h⟩, fun h => hw ⟨hbits, .inr (.inl h)⟩⟩
  exact ⟨hsz, by omega, by omega⟩
 have hwide : 1 ≤ wideM packed f g.2 ∧ wideM packed f g.2 ≤ 16 := by
  unfold wideM
  split
  · omega
  · split
    · rename_i hbits
      have := hb hbits
      omega
    · omega
 unfold fieldM
 simp only
 generalize hp1 : ({ p with align := max p.align (wideM packed f g.2), bit := if kind = 4 then 0 else p.bit } : PL) = p1
 have c1 : 0 ≤ p1.bit := by rw [← hp1]; show 0 ≤ (if kind = 4 then 0 else p.bit); split <;> omega
 have c2 : p1.bit ≤ k * 1000000 := by rw [← hp1]; show (if kind = 4 then 0 else p.bit) ≤ _; split <;> omega
 have c3 : p1.size = p.size := by rw [← hp1]
 have c4 : 1 ≤ p1.align ∧ p1.align ≤ 16 := by rw [← hp1]; show 1 ≤ max p.align _ ∧ max p.align _ ≤ 16; omega
 by_cases hbits : f.bits = true
 · rw [if_pos hbits]
   obtain ⟨hsz, w1, w2⟩ := hb hbits
   have e8 : w64 (8 * f.type.size) = 8 * f.type.size := wrap_i64 (by omega) (by omega)
   obtain ⟨u1, u2⟩ := upW_bnd (n := p1.bit) (step := 8 * f.type.size) c1 (by omega) (by omega) (by omega)
   unfold bitsM
   split
   · refine sizeM_inv ?_ ?_ ?_ ?_ ?_ ?_ hk hk2
     · show 0 ≤ upW p1.bit (w64 (8 * f.type.size)); rw [e8]; omega
     · show upW p1.bit (w64 (8 * f.type.size)) ≤ _; rw [e8]; omega
     · show 0 ≤ p1.size; omega
     · show p1.size ≤ _; omega
     · exact c4.1
     · exact c4.2
   · have o1 : p1.bit ≤ bitOf p1 f ∧ bitOf p1 f ≤ p1.bit + 63 := by
       unfold bitOf
       rw [e8]
       split <;> omega
     have e9 : w64 (bitOf p1 f + f.width) = bitOf p1 f + f.width := wrap_i64 (by omega) (by omega)
     refine sizeM_inv ?_ ?_ ?_ ?_ ?_ ?_ hk hk2
     · show 0 ≤ w64 (bitOf p1 f + f.width); rw [e9]; omega
     · show w64 (bitOf p1 f + f.width) ≤ _; rw [e9]; omega
     · show 0 ≤ p1.size; omega
     · show p1.size ≤ _; omega
     · exact c4.1
     · exact c4.2
 · rw [if_neg hbits]
   unfold plainM
   obtain ⟨u1, u2⟩ := upW_bnd (n := p1.bit) (step := 8) c1 (by omega) (by omega) (by omega)
   have e1 : w64 ((upW p1.bit 8).tdiv 8) = upW p1.bit 8 / 8 := tdiv8 (by omega) (by omega)
   obtain ⟨v1, v2⟩ := upW_bnd (n := upW p1.bit 8 / 8) (step := wideM packed f g.2) (by omega) (by omega) hwide.1 (by omega)
   have e2 : w64 (upW (upW p1.bit 8 / 8) (wideM packed f g.2) + g.1) = upW (upW p1.bit 8 / 8) (wideM packed f g.2) + g.1 := wrap_i64 (by omega) (by omega)
   have e3 : w64 (8 * (upW (upW p1.bit 8 / 8) (wideM packed f g.2) + g.1)) = 8 * (upW (upW p1.bit 8 / 8) (wideM packed f g.2) + g.1) := wrap_i64 (by omega) (by omega)
   rw [e1, e2, e3]
   refine sizeM_inv ?_ ?_ ?_ ?_ ?_ ?_ hk hk2
   · show 0 ≤ 8 * (upW (upW p1.bit 8 / 8) (wideM packed f g.2) + g.1); omega
   · show 8 * (upW (upW p1.bit 8 / 8) (wideM packed f g.2) + g.1) ≤ _; omega
   · show 0 ≤ p1.size; omega
   · show p1.size ≤ _; omega
   · exact c4.1
   · exact c4.2
theorem placeFs_inv {packed : Bool} {kind : Int} : ∀ {l : List GField} {seen : List (List UInt8)} {k : Int} {p q : PL}, PInv k p → 0 ≤ k → k + l.length ≤ 40 → sndFs packed seen l = 0 →
  (∀ f ∈ l, sndT f.type = 0 → (ofT f.type).2 = true → 0 ≤ (ofT f.type).1.1 ∧ (ofT f.type).1.1 ≤ 65536 ∧ 1 ≤ (ofT f.type).1.2 ∧ (ofT f.type).1.2 ≤ 16) → placeFs packed kind p l = some q → PInv 40 q
 | [], seen, k, p, q, hp, hk, hk2, _, _, h => by
  simp only [placeFs, Option.some.injEq] at h
  subst h
  obtain ⟨b1, b2, s1, s2, a1, a2⟩ := hp
  simp at hk2
  exact ⟨b1, by omega, s1, by omega, a1, a2⟩
 | f :: r, seen, k, p, q, hp, hk, hk2, hs, hf, h => by
  simp only [placeFs] at h
  split at h
  · rename_i hok
    rw [ofF_eq] at hok h
    have hs' : sndF packed seen f = 0 ∧ sndFs packed (seen ++ [f.name]) r = 0 := by
     simp only [sndFs] at hs
     by_cases hz : sndF packed seen f = 0
     · rw [if_neg (by simpa using hz)] at hs; exact ⟨hz, hs⟩
     · rw [if_pos hz] at hs; exact absurd hs hz
    have hst : sndT f.type = 0 := sndFs_mem hs f (by simp)
    obtain ⟨g1, g2, g3, g4⟩ := hf f (by simp) hst hok
    simp only [List.length_cons] at hk2
    exact placeFs_inv (k := k + 1) (fieldM_inv hp hk (by omega) hs'.1 g1 g2 g3 g4) (by omega) (by omega) hs'.2 (fun f' hf' => hf f' (by simp [hf'])) h
  · cases h
theorem ofT_bnd : ∀ t : GType, sndT t = 0 → (ofT t).2 = true → 0 ≤ (ofT t).1.1 ∧ (ofT t).1.1 ≤ 65536 ∧ 1 ≤ (ofT t).1.2 ∧ (ofT t).1.2 ≤ 16 := by
 refine GType.ind fun t ihf ihe hs h => ?_
 rw [ofT_eq] at h ⊢
 split at h
 · rename_i h12
   rw [if_pos h12]
   rw [sndT_eq] at hs
   split at hs
   · cases hs
   · have hp : pow2 t.size 8 = true ∨ pow2 t.size 16 = true := by
       rcases h12 with h1 | h1
       · rw [if_pos h1] at hs
         split at hs
         · exact .inl ‹_›
         · cases hs
       · rw [if_neg (by omega), if_pos h1] at hs
         split at hs
         · exact .inr ‹_›
         · cases hs
     show 0 ≤ t.size ∧ t.size ≤ 65536 ∧ 1 ≤ t.size ∧ t.size ≤ 16
     rcases hp with hp | hp <;> (simp [pow2] at hp; omega)
 · rename_i h12
   rw [if_neg h12]
   split at h
   · rename_i h5
     rw [if_pos h5]
     obtain ⟨e, he, hse⟩ := snd_arr hs h5
     have hc : 1 ≤ t.count ∧ t.count ≤ 65536 := by
      rw [sndT_eq, h5] at hs
      split at hs
      · cases hs
      · simp at hs
        split at hs
        · cases hs
        · omega
     rw [he] at h ⊢
     simp only [ofE, Bool.and_eq_true] at h ⊢
     obtain ⟨h, hle⟩ := h
     have hle := of_decide_eq_true hle
     obtain ⟨g1, g2, g3, g4⟩ := ihe e (by rw [he]; simp) hse h
     have hm : 0 ≤ (ofT e).1.1 * t.count := Int.mul_nonneg g1 (by omega)
     have hm2 : (ofT e).1.1 * t.count ≤ 65536 * 65536 := Int.mul_le_mul g2 hc.2 (by omega) (by omega)
     have e1 : w64 ((ofT e).1.1 * t.count) = (ofT e).1.1 * t.count := wrap_i64 (by omega) (by omega)
     rw [e1] at hle ⊢
     exact ⟨hm, hle, g3, g4⟩
   · rename_i h5
     rw [if_neg h5]
     cases hp : placeFs t.packed t.kind ⟨0, 1, [], 0⟩ t.fields with
     | none => rw [hp] at h; cases h
     | some p =>
      rw [hp] at h
      simp only [decide_eq_true_eq] at h ⊢
      have hg : t.kind = 3 ∨ t.kind = 4 := by
       rcases snd_kind hs with h | h | h | h | h <;> omega
      have hfs : sndFs t.packed [] t.fields = 0 := by
       rw [sndT_eq] at hs
       split at hs
       · cases hs
       · rw [if_neg (by omega), if_neg (by omega), if_neg (by omega)] at hs
         first
          | exact hs
          | (split at hs
             · cases hs
             · exact hs)
      obtain ⟨b1, b2, s1, s2, a1, a2⟩ := placeFs_inv (k := 0) (p := ⟨0, 1, [], 0⟩) ⟨by decide, by decide, by decide, by decide, by decide, by decide⟩ (by omega) (by have := (snd_grp hs hg).2; omega) hfs (fun f hf => ihf f hf) hp
      obtain ⟨u1, u2⟩ := upW_bnd (n := p.size) (step := p.align) s1 (by omega) a1 (by omega)
      exact ⟨by omega, h, a1, a2⟩
theorem layM_bnd {t : GType} (h : (layM t).2 = 0) : 0 ≤ (layM t).1.1 ∧ (layM t).1.1 ≤ 65536 ∧ 1 ≤ (layM t).1.2 ∧ (layM t).1.2 ≤ 16 := by
 unfold layM at h ⊢
 split at h
 · rename_i hs; exact absurd h hs
 · rename_i hs
   split at h
   · cases h
   · rename_i ht
     split at h
     · cases h
     · rename_i ho
       rw [if_neg hs, if_neg ht, if_neg ho]
       exact ofT_bnd t (soundM_snd (by simpa using hs)) (by simpa using ho)
def z5 : List UInt8 := [122, 122, 122, 122, 122]
def Sim (a b : CSt) : Prop := a = b ∨ a.fkind = 6
theorem Sim.refl (a : CSt) : Sim a a := .inl rfl
theorem Sim.bad {a b : CSt} (h : a.fkind = 6) : Sim a b := .inr h
section
variable (vars : List GVar) (z : GVar)
variable (kw : List UInt8 → Bool)
end
end Rb

namespace Rb
open Go
theorem weaks_app (a b : List AV) : AV.weaks (a ++ b) = AV.weaks a ++ AV.weaks b := by rw [weaks_map, weaks_map, weaks_map, List.map_append]
section
variable {Φ : Calls'} {H : AH} {Q : Post}
theorem vars_contains (hT : Cl Φ S.tab_Chk) {p : GVar → Bool} {key : Nat} {caps : List AV} {xs : List GVar} (hf : ∀ x ∈ xs, ∀ (R : Post), R (.bool (p x)) H → Φ key ([.agg x.cells] ++ caps) H R) (hl : xs.length ≤ 9223372036854775807)
  (hQ : Q (.bool (xs.any p)) H) (hkb : bkey key = none := by first | assumption | rfl) : Φ K.f73 [lstA GVar.cells xs, .fn key caps] H Q := by
 refine S.cl_f73 hT ?_
 unfold S.f73
 refine S.cl_f97 hT (varIndex hf hl ?_)
 simp only [abin_geq, Do_of, idxI_any]
 exact hQ
theorem vars_c1 {w : GVar} {id : Nat} {v : GVar} (hat : At H id (.row v.cells)) (hQ : Q (.bool (w.name == v.name)) H) : S.f74 Φ (.agg w.cells) (.ptr id 0) H Q := by
 unfold S.f74
 have hb : aboxv H false 7 (.agg w.cells) = some (.fptr w.cells, H) := by unfold aboxv; rw [if_pos ⟨rfl, w.len⟩]; rfl
 have l0 : aload H 1 false (.fptr (w.cells.drop 0)) = some (.str w.name) := vr_t0 w
 have l1 : aload H 1 false (.ptr id 0) = some (.str v.name) := by rw [hat.load]; exact vr_t0 v
 rw [hb]
 simp only [DoH_some, afaddr, Do_of, l0, Nat.add_zero, l1, abin_streq']
 exact hQ
end
section
variable {C : Ctx} (hGT : GTok C) (hT : Cl (ACall C) S.tab_Chk) {kw : List UInt8 → Bool} (hkw : ∀ x, Val (ACall C) K.f72 [.str x] (.bool (kw x)))
include hGT hT hkw
theorem vars_spec {vars : List GVar} (hv : ∀ v ∈ vars, v.ok) {H : AH} {Q : Post} (hQ : ∀ H', Q (.int .i64 (varsM kw vars)) H') : S.f45 (ACall C) (lstA GVar.cells vars) H Q := by
 have fin : ∀ z H', z = varsM kw vars → Q (.int .i64 z) H' := fun z H' h => by rw [h]; exact hQ H'
 clear hQ
 unfold S.f45
 simp only [lstA_len', Do_of, abin_gtr, Gd_true]
 unfold varsM at fin
 refine ite_both (fun h => ?_) (fun h => ?_)
 · exact fin _ _ (by rw [if_pos (by simp only [decide_eq_true_eq, gt_iff_lt] at h; omega)])
 · have hl : vars.length ≤ 32 := by simp only [decide_eq_true_eq, gt_iff_lt] at h; omega
   rw [if_neg (by omega)] at fin
   have main : ∀ (r : List GVar) (i : Nat) (a : Int) (H1 : AH), vars.drop i = r → varsL kw ((vars.take i).map GVar.name) a r = varsL kw [] 0 vars →
     LoopP (S.f45_l5 (ACall C) (lstA GVar.cells vars) (.int .i64 vars.length) Q) ([.int .i64 a, .int .i64 i], H1) := by
    intro r
    induction r with
    | nil =>
     intro i a H1 hd he
     have hle := drop_nil_le hd
     refine LoopP.step ?_
     simp only [S.f45_l5, sl_zero, sl_succ, abin_lss, Do_of, Gd_true]
     rw [if_neg (by simp only [decide_eq_true_eq]; omega)]
     simp only [JoinP_def, S.f45_k4, sl_zero, abin_gtr, Do_of, Gd_true]
     rw [varsL] at he
     refine ite_both (fun h => ?_) (fun h => ?_)
     · exact fin _ _ (by rw [← he, if_pos (by simpa using h)])
     · exact fin _ _ (by rw [← he, if_neg (by simpa using h)])
    | cons v r ih =>
     intro i a H1 hd he
     obtain ⟨hlt, hx, hd'⟩ := drop_cons_lt hd
     have hvm := List.mem_of_getElem? hx
     refine LoopP.step ?_
     simp only [S.f45_l5, sl_zero, sl_succ, abin_lss, Do_of, Gd_true]
     rw [if_pos (by simp only [decide_eq_true_eq]; omega), lstA_addr hlt]
     simp only [Do_of]
     rw [elA_load GVar.len (by decide) _ hx]
     simp only [Do_of, DoH_some, abox, if_true]
     rw [store_new _ _ _ 7 v.len v.scalar rfl]
     simp only [Do_of, afaddr, Nat.zero_add, Nat.add_zero]
     have at13 := At.new H1 (.row v.cells)
     generalize H1.push (.row v.cells) = H2 at *
     generalize H1.n = id13 at *
     have l0 : aload H2 1 false (.ptr id13 0) = some (.str v.name) := by rw [at13.load]; exact vr_t0 v
     have l1 : aload H2 6 true (.ptr id13 1) = some (.agg v.type.cells) := by
      rw [at13.load, takeCells_drop (by rw [v.len]; omega)]
      show takeCells (v.cells.drop 1) 0 6 true = _
      exact takeCells_whole v.type.len
     simp only [l0, Do_of]
     rw [varsL] at he
     have k2 : ¬ (nameOk v.name = false ∨ kw v.name = true) → ¬ ((vars.take i).map GVar.name).contains v.name = true →
       JoinP (S.f45_k2 (ACall C) (.ptr id13 0) ([.int .i64 a, .int .i64 i], H1) (LoopP (S.f45_l5 (ACall C) (lstA GVar.cells vars) (.int .i64 vars.length) Q)) Q) [] H2 := by
      intro n1 n2
      rw [if_neg n1, if_neg n2] at he
      simp only [JoinP_def, S.f45_k2, afaddr, Nat.zero_add, Do_of, l1]
      refine layout_Of_val hGT hT v.type (hv v hvm).2 _ _ ?_
      simp only [aextract, List.getElem?_cons_zero, List.getElem?_cons_succ, Do_of, abin_neq, Gd_true]
      refine ite_both (fun h => ?_) (fun h => ?_)
      · rw [if_pos (by simpa using h)] at he
        exact fin _ _ he
      · have h0 : (layM v.type).2 = 0 := by simpa using h
        rw [if_neg (by simpa using h0)] at he
        have hb := layM_bnd h0
        simp only [sl_zero, abin_add, abin_sub, abin_mul, Do_of]
        rw [abin_quo _ _ _ (by omega)]
        simp only [Do_of, abin_mul, abin_add, JoinP_def, S.f45_k1, sl_zero, sl_succ]
        rw [wrap_i64 (n := (i : Int) + 1) (by omega) (by omega), show ((i : Int) + 1) = ((i + 1 : Nat) : Int) by simp]
        refine ih (i + 1) _ H2 hd' ?_
        rw [← he, List.take_add_one, hx]
        simp [upW]
     have k3 : ∀ b : Bool, (b = true ↔ (nameOk v.name = false ∨ kw v.name = true)) → JoinP (S.f45_k3 (ACall C) (lstA GVar.cells vars) (.ptr id13 0) ([.int .i64 a, .int .i64 i], H1) (LoopP (S.f45_l5 (ACall C) (lstA GVar.cells vars) (.int .i64 vars.length) Q)) Q) [.bool b] H2 := by
      intro b hb
      simp only [JoinP_def, S.f45_k3, sl_zero, sl_succ, Gd_true]
      refine ite_both (fun h => ?_) (fun h => ?_)
      · rw [if_pos (hb.1 h)] at he
        exact fin _ _ he
      · have n1 : ¬ (nameOk v.name = false ∨ kw v.name = true) := fun y => h (hb.2 y)
        rw [slice_take GVar.len (Nat.le_of_lt hlt)]
        simp only [Do_of]
        refine vars_contains hT (p := fun w => w.name == v.name) (fun w _ R hR => S.cl_f74 hT (vars_c1 at13 hR)) (by rw [List.length_take]; omega) ?_
        simp only [Gd_true]
        have hc : ((vars.take i).any fun w => w.name == v.name) = true ↔ ((vars.take i).map GVar.name).contains v.name = true := by
         rw [List.any_eq_true, List.contains_iff_mem, List.mem_map]
         simp only [beq_iff_eq]
        refine ite_both (fun h => ?_) (fun h => ?_)
        · rw [if_neg n1, if_pos (hc.1 h)] at he
          exact fin _ _ he
        · exact k2 n1 fun y => h (hc.2 y)
     refine kindName_val hGT hT v.name _ _ ?_
     simp only [aun_not, Do_of, Gd3_false]
     refine ite_boolf (fun h => ?_) (fun h => ?_)
     · simp only [l0, Do_of]
       refine hkw v.name _ _ ?_
       refine k3 _ ?_
       simp only [Bool.not_eq_false'] at h
       simp [h]
     · refine k3 _ ?_
       simp only [Bool.not_eq_true'] at h
       simp [h]
   exact main vars 0 0 H rfl rfl
def progV (r : Int × Int) : AV := .agg [.int .i64 r.1, .int .i64 r.2]
theorem prog_val (p : GProg) (hp : p.ok) : Val (ACall C) K.f18 [.agg p.cells] (progV (progM kw p)) := by
 obtain ⟨⟨hvl, hv⟩, htl, ht⟩ := hp
 refine Val.of hGT (by simp [AV.frozs, AV.froz, GProg.froz]) rfl fun Q hQ => S.cl_f18 hT ?_
 have fin : ∀ (a b : Int) H', (a, b) = progM kw p → Q (.agg [.int .i64 a, .int .i64 b]) H' := fun a b H' h => by have := hQ H'; rw [← h] at this; exact this
 clear hQ
 have hbox : aboxv AH.mt false 2 (.agg p.cells) = some (.fptr p.cells, AH.mt) := by unfold aboxv; rw [if_pos ⟨rfl, rfl⟩]; rfl
 have pl0 : ∀ H, aload H 1 false (.fptr (p.cells.drop 0)) = some (lstA GVar.cells p.vars) := fun _ => rfl
 have pl1 : ∀ H, aload H 1 false (.fptr (p.cells.drop 1)) = some (lstA thrCells p.threads) := fun _ => rfl
 unfold S.f18
 simp only [hbox, DoH_some, abox, if_true, afaddr, Do_of, pl0, lstA_len', abin_gtr, Gd3_false]
 generalize hH0 : AH.mt = H0
 have at3 := At.new H0 (.row [.int .i64 0, .int .i64 0])
 generalize H0.push (.row [.int .i64 0, .int .i64 0]) = H4 at *
 generalize H0.n = id3 at *
 have out : ∀ (a b : Int) (H1 : AH), At H1 id3 (.row [.int .i64 0, .int .i64 0]) → (a, b) = progM kw p → Do (astore H1 2 (.ptr id3 0) (.agg [.int .i64 a, .int .i64 b])) fun H2 => Do (aload H2 2 true (.ptr id3 0)) fun x => Q x H2 := by
  intro a b H1 ha he
  rw [ha.put (n := 2) rfl rfl rfl]
  simp only [Do_of]
  rw [(ha.set _).all (n := 2) rfl]
  simp only [Do_of]
  exact fin a b _ he
 unfold progM at out
 have k3 : ¬ (32 < p.vars.length ∨ p.threads.length < 1 ∨ 8 < p.threads.length) → JoinP (S.f18_k3 (ACall C) (.fptr p.cells) (.ptr id3 0) Q) [] H4 := by
  intro hn
  rw [if_neg hn] at out
  simp only [JoinP_def, S.f18_k3, afaddr, Do_of, pl0]
  refine Val.of hGT (by simp [AV.frozs, lstA_froz GVar.froz]) rfl (fun Q' hQ' => S.cl_f45 hT (vars_spec hGT hT hkw hv hQ')) _ _ ?_
  simp only [abin_neq, Do_of, Gd_true]
  refine ite_both (fun h => ?_) (fun h => ?_)
  · rw [if_pos (by simpa using h)] at out
    rw [show abuild [.int .i64 0, .int .i64 0] [(1, 1, .int .i64 (varsM kw p.vars))] = some (.agg [.int .i64 0, .int .i64 (varsM kw p.vars)]) from rfl]
    simp only [Do_of]
    exact out 0 _ H4 at3 rfl
  · rw [if_neg (by simpa using h)] at out
    simp only [pl1, Do_of, lstA_len']
    have main : ∀ (r : List (List GStmt)) (i : Nat) (H1 : AH), p.threads.drop i = r → At H1 id3 (.row [.int .i64 0, .int .i64 0]) → thrsM kw p.vars r = thrsM kw p.vars p.threads →
      LoopP (S.f18_l2 (ACall C) (.fptr p.cells) (.ptr id3 0) (lstA thrCells p.threads) (.int .i64 p.threads.length) Q) ([.int .i64 i], H1) := by
     intro r
     induction r with
     | nil =>
      intro i H1 hd ha he
      have hle := drop_nil_le hd
      refine LoopP.step ?_
      simp only [S.f18_l2, sl_zero, abin_lss, Do_of, Gd_true]
      rw [if_neg (by simp only [decide_eq_true_eq]; omega)]
      simp only [JoinP_def, S.f18_k1]
      rw [show abuild [.int .i64 0, .int .i64 0] [] = some (.agg [.int .i64 0, .int .i64 0]) from rfl]
      simp only [Do_of]
      exact out 0 0 H1 ha he
     | cons t r ih =>
      intro i H1 hd ha he
      obtain ⟨hlt, hx, hd'⟩ := drop_cons_lt hd
      obtain ⟨htl', hts⟩ := ht t (List.mem_of_getElem? hx)
      refine LoopP.step ?_
      simp only [S.f18_l2, sl_zero, abin_lss, Do_of, Gd_true]
      rw [if_pos (by simp only [decide_eq_true_eq]; omega), lstA_addr hlt]
      simp only [Do_of]
      have hld : aload H1 1 false (elA thrCells 1 p.threads i) = some (lstA GStmt.cells t) := one_load (c := fun l => lstA GStmt.cells l) H1 hx
      rw [hld]
      simp only [Do_of, afaddr, pl0]
      rw [show abuild [.lst .nil 0 [], .lst .nil 0 [], .int .i64 0, .int .i64 0, .int .i64 0, .int .i64 0] [(0, 1, lstA GVar.cells p.vars)] = some (.agg (ckC p.vars s0 (.lst .nil 0 []))) from rfl]
      simp only [Do_of]
      have hb : aboxv H1 true 6 (.agg (ckC p.vars s0 (.lst .nil 0 []))) = some (.ptr H1.n 0, H1.push (.row (ckC p.vars s0 (.lst .nil 0 [])))) := by unfold aboxv; rw [if_pos ⟨rfl, rfl⟩]; rfl
      rw [hb]
      simp only [DoH_some]
      have a47 := At.new H1 (.row (ckC p.vars s0 (.lst .nil 0 [])))
      have hne : id3 ≠ H1.n := ha.lt_new
      have a3 := ha.push (.row (ckC p.vars s0 (.lst .nil 0 [])))
      generalize H1.push (.row (ckC p.vars s0 (.lst .nil 0 []))) = H2 at *
      generalize H1.n = id at *
      have hm := i64max
      refine block_spec hGT hT (kw := kw) (by omega) (fun x hx' => stmt_spec hGT hT hvl hv hkw x (hts x hx')) (s := s0) ⟨by decide, by decide, by decide⟩ a47 (.inl ⟨rfl, rfl⟩) fun H5 loc5 f5 a5 l5 => ?_
      have a3' := f5.2.1 id3 _ hne (fun n e => by cases e) a3
      rw [thrsM] at he
      generalize blockM p.vars kw s0 1 t = s5 at *
      refine S.cl_f47 hT (ck_bad a5 ?_)
      simp only [Gd_true]
      refine ite_both (fun h => ?_) (fun h => ?_)
      · rw [if_pos (by simpa using h)] at he
        simp only [anilck, afaddr, Do_of, Nat.zero_add]
        rw [a5.load, show takeCells (ckC p.vars s5 loc5) 4 2 true = some (.agg [.int .i64 s5.fline, .int .i64 s5.fkind]) from rfl]
        simp only [Do_of]
        exact out _ _ H5 a3' he
      · rw [if_neg (by simpa using h)] at he
        simp only [abin_add, Do_of]
        rw [wrap_i64 (by omega) (by omega), show ((i : Int) + 1) = ((i + 1 : Nat) : Int) by simp]
        exact ih (i + 1) H5 hd' a3' he
    exact main p.threads 0 H4 rfl at3 rfl
 have k4 : ∀ b : Bool, (b = true ↔ (32 < p.vars.length ∨ p.threads.length < 1 ∨ 8 < p.threads.length)) → JoinP (S.f18_k4 (ACall C) (.fptr p.cells) (.ptr id3 0) Q) [.bool b] H4 := by
  intro b hb
  simp only [JoinP_def, S.f18_k4, sl_zero, Gd_true]
  refine ite_both (fun h => ?_) (fun h => ?_)
  · rw [if_pos (hb.1 h)] at out
    rw [show abuild [.int .i64 0, .int .i64 0] [(1, 1, .int .i64 12)] = some (.agg [.int .i64 0, .int .i64 12]) from rfl]
    simp only [Do_of]
    exact out 0 12 H4 at3 rfl
  · exact k3 fun y => h (hb.2 y)
 have k5 : ∀ b : Bool, (b = true ↔ (32 < p.vars.length ∨ p.threads.length < 1)) → JoinP (S.f18_k5 (ACall C) (.fptr p.cells) (.ptr id3 0) Q) [.bool b] H4 := by
  intro b hb
  simp only [JoinP_def, S.f18_k5, sl_zero, Gd3_false, afaddr, Do_of, pl1, lstA_len', abin_gtr]
  refine ite_boolf (fun h => ?_) (fun h => ?_)
  · refine k4 _ ?_
    have hn : ¬ (32 < p.vars.length ∨ p.threads.length < 1) := fun y => by have := hb.2 y; rw [h] at this; cases this
    simp only [decide_eq_true_eq, gt_iff_lt]; omega
  · refine k4 _ ?_
    have := hb.1 h
    simp only [true_iff]; omega
 refine ite_boolf (fun h => ?_) (fun h => ?_)
 · simp only [pl1, Do_of, lstA_len', abin_lss]
   refine k5 _ ?_
   simp only [decide_eq_false_iff_not, gt_iff_lt] at h
   simp only [decide_eq_true_eq]; omega
 · refine k5 _ ?_
   simp only [decide_eq_true_eq, gt_iff_lt] at h
   simp only [true_iff]; omega
end
end Rb

namespace Rb
open Go
abbrev wu64 (n : Int) : Int := IntKind.wrap .u64 n
mutual
def cntE : GExpr → Int → Int
 | .mk kind n name op order place kids, m => if kind ≥ 4 then w64 (w64 (m + w64 (cntP place + cntEs kids 0)) + 1) else w64 (m + w64 (cntP place + cntEs kids 0))
def cntEs : List GExpr → Int → Int
 | [], m => m
 | e :: r, m => cntEs r (cntE e m)
def cntP : GPlace → Int
 | .mk var parts => cntPs parts 0
def cntPs : List GPart → Int → Int
 | [], m => m
 | p :: r, m => cntPs r (cntR p m)
def cntR : GPart → Int → Int
 | .mk field index, m => w64 (m + cntEs index 0)
end
mutual
def cntS : GStmt → Int → Int
 | .mk kind line name name2 order place exprs thn els, m =>
  if 3 ≤ kind ∧ kind ≤ 7 then w64 (w64 (m + w64 (w64 (w64 (cntP place + cntEs exprs 0) + cntSs thn 0) + cntSs els 0)) + 1)
  else w64 (m + w64 (w64 (w64 (cntP place + cntEs exprs 0) + cntSs thn 0) + cntSs els 0))
def cntSs : List GStmt → Int → Int
 | [], m => m
 | x :: r, m => cntSs r (cntS x m)
end
structure WantM where
 kind : Int
 site : Int
 line : Int
 spot : GSpot
 order : Int
 op : Int
 d0 : Int
 d1 : Int
def spotZ : GSpot := ⟨0, 0, 0, false, 0, 0⟩
def wantZ : WantM := ⟨0, 0, 0, spotZ, 0, 0, 0, 0⟩
def WantM.cells (w : WantM) : List AV := .int .i64 w.kind :: .int .i64 w.site :: .int .i64 w.line :: (w.spot.cells ++ [.int .i64 w.order, .int .i64 w.op, .int .u64 w.d0, .int .u64 w.d1])
structure RS where
 ans : List (Int × Int)
 locs : List (List UInt8 × Int)
 pr : List Int
 line : Int
 fuel : Int
 fin : Int
 want : WantM
 stop : Bool
 empty : Bool
def RS.burn (s : RS) : RS := if s.stop = true then s else if s.fuel < 1 then { s with stop := true, empty := true, fuel := w64 (s.fuel - 1) } else { s with fuel := w64 (s.fuel - 1) }
def RS.ask (s : RS) (w : WantM) : RS × Int × Int :=
 if s.stop = true then (s, 0, 0) else match s.ans with
 | [] => ({ s with want := { w with line := s.line }, stop := true }, 0, 0)
 | x :: r => ({ s with ans := r }, x.1, x.2)
def RS.get (s : RS) (x : List UInt8) : Int := match s.locs.find? (fun l => l.1 == x) with | some l => l.2 | none => 0
def RS.put (s : RS) (x : List UInt8) (v : Int) : RS := match s.locs.findIdx? (fun l => l.1 == x) with | some i => { s with locs := s.locs.set i (x, v) } | none => s
def oand (a b : Int) : Int := IntKind.wrap .u64 (BitVec.ofInt 64 a &&& BitVec.ofInt 64 b).toNat
def oor (a b : Int) : Int := IntKind.wrap .u64 (BitVec.ofInt 64 a ||| BitVec.ofInt 64 b).toNat
def oxor (a b : Int) : Int := IntKind.wrap .u64 (BitVec.ofInt 64 a ^^^ BitVec.ofInt 64 b).toNat
def oandn (a b : Int) : Int := IntKind.wrap .u64 (BitVec.ofInt 64 a &&& ~~~BitVec.ofInt 64 b).toNat
def oshl (a b : Int) : Int := IntKind.wrap .u64 (a * 2 ^ (min b.toNat 64))
def oshr (a b : Int) : Int := a.fdiv (2 ^ (min b.toNat 64))
def omask (n : Int) : Int := if n < 1 then 0 else if n ≥ 64 then 18446744073709551615 else IntKind.wrap .u64 (oshl 1 n - 1)
def oin (n : Int) : Bool := decide (n ≥ 0) && decide (n < 64)
def oget (x a n : Int) : Int := if oin a = true then oand (oshr x a) (omask n) else 0
def oput (x a n v : Int) : Int := if oin a = true then oor (oandn x (oshl (omask n) a)) (oshl (oand v (omask n)) a) else x
def operM (op a b : Int) : Int :=
 if op = 1 then IntKind.wrap .u64 (a + b) else if op = 2 then IntKind.wrap .u64 (a - b) else if op = 3 then IntKind.wrap .u64 (a * b)
 else if op = 4 then oand a b else if op = 5 then oor a b else if op = 6 then oxor a b
 else if op = 7 then oshl a (b.tmod 64) else if op = 8 then oshr a (b.tmod 64)
 else if (if op = 9 then a == b else if op = 10 then a != b else decide (a < b)) = true then 1 else 0
def mapL : List GVar → Int → List GSpot → Int × Int × List GSpot
 | [], at', acc => (0, at', acc)
 | v :: r, at', acc => if (layM v.type).2 ≠ 0 then ((layM v.type).2, 0, []) else
  let x := w64 (w64 (Int.tdiv (w64 (w64 (at' + (layM v.type).1.2) - 1)) (layM v.type).1.2) * (layM v.type).1.2)
  let y := if x > 65536 then 65537 else x
  mapL r (w64 (y + (layM v.type).1.1)) (acc ++ [⟨w64 (65536 + y), (layM v.type).1.1, 0, false, 0, 0⟩])
def mapM (vars : List GVar) : Int × Int × List GSpot :=
 if (mapL vars 0 []).1 ≠ 0 then ((mapL vars 0 []).1, 0, []) else if (mapL vars 0 []).2.1 > 65536 then (9, 0, []) else mapL vars 0 []
def manyM : List GPart → Int → Int
 | [], n => n
 | p :: r, n => manyM r (w64 (n + p.index.length))
def spotsM (t : GType) : List GSpot := match placeFs t.packed t.kind ⟨0, 1, [], 0⟩ t.fields with | some p => p.spots | none => []
def walkM : List GPart → GType → GSpot → List Int → Option GSpot
 | [], _, sp, _ => some sp
 | p :: r, t, sp, idx =>
  if p.index.length = 1 then (match idx with
    | [] => none
    | i :: q => if i ≥ wu64 t.count then none else match t.elem with
     | [] => none
     | e :: _ => walkM r e { sp with at_ := w64 (sp.at_ + w64 (IntKind.wrap .i64 i * (layM e).1.1)), len := (layM e).1.1 } q)
  else match t.fields.findIdx? (fun f => f.name == p.field) with
   | none => none
   | some n => match t.fields[n]?, (spotsM t)[n]? with
    | some f, some s => walkM r f.type { s with at_ := w64 (s.at_ + sp.at_) } idx
    | _, _ => none
def findM (vars : List GVar) (x : GPlace) (idx : List Int) : GSpot :=
 if (mapM vars).1 ≠ 0 then spotZ else if (placeM vars x).1 ≠ 0 then spotZ else if ¬ ((placeM vars x).2.kind = 1 ∨ (placeM vars x).2.kind = 2) then spotZ
 else if (idx.length : Int) ≠ manyM x.parts 0 then spotZ else
 match vars.findIdx? (fun v => v.name == x.var) with
 | none => spotZ
 | some n => match vars[n]?, (mapM vars).2.2[n]? with
  | some v, some g => match walkM x.parts v.type { spotZ with at_ := g.at_, len := g.len } idx with
   | some sp => { sp with kind := (placeM vars x).2.kind }
   | none => spotZ
  | _, _ => spotZ
def cntM (vars : List GVar) (x : GPlace) : Int := if (placeM vars x).1 = 0 then (placeM vars x).2.count else 0
def accW (kind order : Int) (sp : GSpot) (a1 : Int) (kids : List GExpr) (vs : List Int) : WantM := ⟨if kind ≥ 6 then 3 else 1, w64 (w64 (a1 + cntEs kids 0) + 1), 0, sp, order, if kind ≥ 6 then kind else 0, vs.getD 0 0, vs.getD 1 0⟩
def bitV (sp : GSpot) (g : RS × Int × Int) : RS × Int := (g.1, if sp.bits = true then oget g.2.1 sp.bit sp.width else g.2.1)
section
variable (vars : List GVar)
mutual
def exR : GExpr → Int → RS → RS × Int
 | .mk kind n name op order place kids, a, s =>
  if s.burn.stop = true then (s.burn, 0)
  else if kind = 1 then (s.burn, n)
  else if kind = 2 then (s.burn, s.burn.get name)
  else if kind = 3 then ((kidsR kids a s.burn).1, operM op ((kidsR kids a s.burn).2.getD 0 0) ((kidsR kids a s.burn).2.getD 1 0))
  else match (plR place a s.burn).2 with
   | none => ((plR place a s.burn).1, 0)
   | some sp => bitV sp ((kidsR kids (w64 (a + cntP place)) (plR place a s.burn).1).1.ask (accW kind order sp (w64 (a + cntP place)) kids (kidsR kids (w64 (a + cntP place)) (plR place a s.burn).1).2))
def kidsR : List GExpr → Int → RS → RS × List Int
 | [], a, s => (s, [])
 | x :: r, a, s => ((kidsR r (w64 (a + cntE x 0)) (exR x a s).1).1, (exR x a s).2 :: (kidsR r (w64 (a + cntE x 0)) (exR x a s).1).2)
def plR : GPlace → Int → RS → RS × Option GSpot
 | .mk var parts, a, s => ((ptsR (.mk var parts) parts 0 a [] s).1, (ptsR (.mk var parts) parts 0 a [] s).2.map fun idx => findM vars (.mk var parts) idx)
def ptsR (x : GPlace) : List GPart → Nat → Int → List Int → RS → RS × Option (List Int)
 | [], k, a, idx, s => (s, some idx)
 | p :: r, k, a, idx, s => match ptR p a s with
  | none => ptsR x r (k + 1) a idx s
  | some q => if q.1.stop = true then (q.1, none) else if q.2 ≥ wu64 (cntM vars ⟨x.var, x.parts.take k⟩) then ({ q.1 with fin := 2, stop := true }, none) else ptsR x r (k + 1) (w64 (a + cntR p 0)) (idx ++ [q.2]) q.1
def ptR : GPart → Int → RS → Option (RS × Int)
 | .mk field index, a, s => hdR index a s
def hdR : List GExpr → Int → RS → Option (RS × Int)
 | [], _, _ => none
 | e :: _, a, s => some (exR e a s)
end
def firstR (l : List GExpr) (a : Int) (s : RS) : RS × Int := match l with | [] => (s, 0) | e :: _ => exR vars e a s
def wrO (sp : GSpot) (site : Int) (s : RS) : RS × Int × Int := if sp.bits = true then s.ask ⟨1, site, 0, sp, 0, 0, 0, 0⟩ else (s, 0, 0)
def wrD (sp : GSpot) (o v : Int) : Int := oand (if sp.bits = true then oput o sp.bit sp.width v else v) (omask (w64 (8 * sp.len)))
def wrT (exprs : List GExpr) (order a1 : Int) (sp : GSpot) (s : RS) : RS :=
 ((wrO sp (w64 (w64 (a1 + cntEs exprs 0) + 1)) (kidsR vars exprs a1 s).1).1.ask ⟨2, w64 (w64 (a1 + cntEs exprs 0) + 1), 0, sp, order, 0, wrD sp (wrO sp (w64 (w64 (a1 + cntEs exprs 0) + 1)) (kidsR vars exprs a1 s).1).2.1 ((kidsR vars exprs a1 s).2.getD 0 0), (kidsR vars exprs a1 s).2.getD 1 0⟩).1
def wrR (place : GPlace) (exprs : List GExpr) (order a : Int) (s : RS) : RS :=
 match (plR vars place a s).2 with
 | none => (plR vars place a s).1
 | some sp => wrT vars exprs order (w64 (a + cntP place)) sp (plR vars place a s).1
def ldU (name name2 : List UInt8) (g : RS × Int × Int) : RS := if g.1.stop = true then g.1 else (g.1.put name g.2.1).put name2 g.2.2
def ldR (name name2 : List UInt8) (place : GPlace) (order a : Int) (s : RS) : RS :=
 match (plR vars place a s).2 with
 | none => (plR vars place a s).1
 | some sp => ldU name name2 ((plR vars place a s).1.ask ⟨1, w64 (w64 (a + cntP place) + 1), 0, sp, order, 0, 0, 0⟩)
def whR (cond : RS → RS × Int) (body : RS → RS) : Nat → RS → RS
 | 0, s => s
 | c + 1, s => if (cond s).2 ≠ 0 ∧ (cond s).1.stop = false then whR cond body c (body (cond s).1) else (cond s).1
variable (c : Nat)
mutual
def stR : GStmt → Int → RS → RS
 | .mk kind line name name2 order place exprs thn els, a, s =>
  if kind = 3 ∨ kind = 4 ∨ kind = 6 then wrR vars place exprs order a s
  else if kind = 5 then ldR vars name name2 place order a s
  else if kind = 7 then (s.ask ⟨4, w64 (a + 1), 0, spotZ, order, 0, 0, 0⟩).1
  else if kind = 9 then whR (firstR vars exprs a) (fun s1 => { blR thn (w64 (a + cntEs exprs 0)) s1.locs.length s1 with line := line }) c s
  else if (firstR vars exprs a s).1.stop = true then (firstR vars exprs a s).1
  else if kind = 1 then { (firstR vars exprs a s).1 with locs := (firstR vars exprs a s).1.locs ++ [(name, (firstR vars exprs a s).2)] }
  else if kind = 2 then (firstR vars exprs a s).1.put name (firstR vars exprs a s).2
  else if kind = 10 then { (firstR vars exprs a s).1 with pr := (firstR vars exprs a s).1.pr ++ [(firstR vars exprs a s).2] }
  else if (firstR vars exprs a s).2 ≠ 0 then blR thn (w64 (a + cntEs exprs 0)) (firstR vars exprs a s).1.locs.length (firstR vars exprs a s).1
  else blR els (w64 (w64 (a + cntEs exprs 0) + cntSs thn 0)) (firstR vars exprs a s).1.locs.length (firstR vars exprs a s).1
def blR : List GStmt → Int → Nat → RS → RS
 | [], a, n, s => { s with locs := s.locs.take n }
 | x :: r, a, n, s => if s.stop = true then s else blR r (w64 (a + cntS x 0)) n (stR x a ({ s with line := x.line } : RS).burn)
end
end
def RS.init (ans : List (Int × Int)) (fuel : Int) : RS := ⟨ans, [], [], 0, fuel, 0, wantZ, false, false⟩
def nextR (vars : List GVar) (c : Nat) (l : List GStmt) (ans : List (Int × Int)) (fuel : Int) : WantM × Int × List Int × Int :=
 let s := blR vars c l 0 0 (RS.init ans fuel)
 if s.empty = true then (wantZ, 0, [], 16) else if s.stop = false then (s.want, 1, s.pr, 0) else (s.want, s.fin, s.pr, 0)
end Rb

namespace Rb
open Go
section
variable {H : AH} {id : Nat}
theorem er_l0 {e : GExpr} (h : At H id (.row e.cells)) : aload H 1 false (.ptr id 0) = some (.int .i64 e.kind) := by rw [h.load, GExpr.cells_eq, GPlace.cells_eq]; rfl
theorem er_l5 {e : GExpr} (h : At H id (.row e.cells)) : aload H 2 true (.ptr id 5) = some (.agg e.place.cells) := by rw [h.load, GExpr.cells_eq, GPlace.cells_eq]; rfl
theorem er_l7 {e : GExpr} (h : At H id (.row e.cells)) : aload H 1 false (.ptr id 7) = some (lstA GExpr.cells e.kids) := by rw [h.load, GExpr.cells_eq, GPlace.cells_eq]; rfl
theorem er_all {e : GExpr} (h : At H id (.row e.cells)) : aload H 8 true (.ptr id 0) = some (.agg e.cells) := by rw [h.load, takeCells_whole e.len]
theorem sr_l0 {e : GStmt} (h : At H id (.row e.cells)) : aload H 1 false (.ptr id 0) = some (.int .i64 e.kind) := by rw [h.load, GStmt.cells_eq, GPlace.cells_eq]; rfl
theorem sr_l1 {e : GStmt} (h : At H id (.row e.cells)) : aload H 1 false (.ptr id 1) = some (.int .i64 e.line) := by rw [h.load, GStmt.cells_eq, GPlace.cells_eq]; rfl
theorem sr_l5 {e : GStmt} (h : At H id (.row e.cells)) : aload H 2 true (.ptr id 5) = some (.agg e.place.cells) := by rw [h.load, GStmt.cells_eq, GPlace.cells_eq]; rfl
theorem sr_l7 {e : GStmt} (h : At H id (.row e.cells)) : aload H 1 false (.ptr id 7) = some (lstA GExpr.cells e.exprs) := by rw [h.load, GStmt.cells_eq, GPlace.cells_eq]; rfl
theorem sr_l8 {e : GStmt} (h : At H id (.row e.cells)) : aload H 1 false (.ptr id 8) = some (lstA GStmt.cells e.thn) := by rw [h.load, GStmt.cells_eq, GPlace.cells_eq]; rfl
theorem sr_l9 {e : GStmt} (h : At H id (.row e.cells)) : aload H 1 false (.ptr id 9) = some (lstA GStmt.cells e.els) := by rw [h.load, GStmt.cells_eq, GPlace.cells_eq]; rfl
theorem sr_all {e : GStmt} (h : At H id (.row e.cells)) : aload H 10 true (.ptr id 0) = some (.agg e.cells) := by rw [h.load, takeCells_whole e.len]
theorem pr_l1 {e : GPart} (h : At H id (.row e.cells)) : aload H 1 false (.ptr id 1) = some (lstA GExpr.cells e.index) := by rw [h.load, GPart.cells_eq]; rfl
end
theorem plc_box (x : GPlace) (H : AH) : aboxv H false 2 (.agg x.cells) = some (.fptr x.cells, H) := by unfold aboxv; rw [if_pos ⟨rfl, x.len⟩]; rfl
theorem plc_addr (x : GPlace) (i : Nat) : afaddr i (.fptr x.cells) = some (.fptr (x.cells.drop i)) := rfl
theorem plc_l0 (x : GPlace) (H : AH) : aload H 1 false (.fptr (x.cells.drop 0)) = some (.str x.var) := by rw [GPlace.cells_eq]; rfl
theorem plc_l1 (x : GPlace) (H : AH) : aload H 1 false (.fptr (x.cells.drop 1)) = some (lstA GPart.cells x.parts) := by rw [GPlace.cells_eq]; rfl
theorem plc_all (x : GPlace) (H : AH) : aload H 2 true (.fptr x.cells) = some (.agg x.cells) := takeCells_whole x.len
theorem cntE_eq (e : GExpr) (m : Int) : cntE e m = if e.kind ≥ 4 then w64 (w64 (m + w64 (cntP e.place + cntEs e.kids 0)) + 1) else w64 (m + w64 (cntP e.place + cntEs e.kids 0)) := by cases e; rw [cntE]
theorem cntP_eq (x : GPlace) : cntP x = cntPs x.parts 0 := by cases x; rw [cntP]
theorem cntR_eq (p : GPart) (m : Int) : cntR p m = w64 (m + cntEs p.index 0) := by cases p; rw [cntR]
theorem cntS_eq (x : GStmt) (m : Int) : cntS x m = if 3 ≤ x.kind ∧ x.kind ≤ 7 then w64 (w64 (m + w64 (w64 (w64 (cntP x.place + cntEs x.exprs 0) + cntSs x.thn 0) + cntSs x.els 0)) + 1)
  else w64 (m + w64 (w64 (w64 (cntP x.place + cntEs x.exprs 0) + cntSs x.thn 0) + cntSs x.els 0)) := by cases x; rw [cntS]
section
variable {C : Ctx} (hGT : GTok C) (hT : Cl (ACall C) S.tab_Chk)
include hGT hT
def CntOK (C : Ctx) (e : GExpr) : Prop := Val (ACall C) K.f110 [lstA GExpr.cells e.kids] (.int .i64 (cntEs e.kids 0)) ∧ Val (ACall C) K.f107 [.agg e.place.cells] (.int .i64 (cntP e.place))
theorem exprs_of {l : List GExpr} (hl : l.length ≤ 9223372036854775807) (h : ∀ e ∈ l, CntOK C e) : Val (ACall C) K.f110 [lstA GExpr.cells l] (.int .i64 (cntEs l 0)) := by
 refine Val.of hGT (by simp [AV.frozs, lstA_froz GExpr.froz]) rfl fun Q hQ => S.cl_f110 hT ?_
 unfold S.f110
 simp only [lstA_len', Do_of]
 have main : ∀ (r : List GExpr) (i : Nat) (m : Int) (H1 : AH), l.drop i = r → cntEs r m = cntEs l 0 → LoopP (S.f110_l2 (ACall C) (lstA GExpr.cells l) (.int .i64 l.length) Q) ([.int .i64 m, .int .i64 i], H1) := by
  intro r
  induction r with
  | nil =>
   intro i m H1 hd he
   have hle := drop_nil_le hd
   refine LoopP.step ?_
   simp only [S.f110_l2, sl_zero, sl_succ, abin_lss, Do_of, Gd_true]
   rw [if_neg (by simp only [decide_eq_true_eq]; omega)]
   rw [cntEs] at he
   rw [he]; exact hQ _
  | cons e r ih =>
   intro i m H1 hd he
   obtain ⟨hlt, hx, hd'⟩ := drop_cons_lt hd
   obtain ⟨c1, c2⟩ := h e (List.mem_of_getElem? hx)
   refine LoopP.step ?_
   simp only [S.f110_l2, sl_zero, sl_succ, abin_lss, Do_of, Gd_true]
   rw [if_pos (by simp only [decide_eq_true_eq]; omega), lstA_addr hlt]
   simp only [Do_of]
   rw [elA_load GExpr.len (by decide) _ hx]
   simp only [Do_of, DoH_some, abox, if_true]
   rw [store_new _ _ _ 8 e.len e.scalar rfl]
   have a2 := At.new H1 (.row e.cells)
   simp only [Do_of, afaddr, Nat.zero_add]
   rw [er_l5 a2, er_l7 a2]
   simp only [Do_of]
   refine c2 _ _ ?_
   refine ⟨er_l7 a2, ?_⟩
   refine c1 _ _ ?_
   rw [cntEs, cntE_eq] at he
   simp only [abin_add, Do_of, er_l0 a2, abin_geq, Gd_true]
   have hw : IntKind.wrap .i64 ((i : Int) + 1) = ((i + 1 : Nat) : Int) := by rw [wrap_i64 (by omega) (by omega)]; simp
   refine ite_both (fun hk => ?_) (fun hk => ?_)
   · rw [if_pos (by simpa using hk)] at he
     simp only [JoinP_def, S.f110_k1, sl_zero, sl_succ, abin_add, Do_of, hw]
     exact ih (i + 1) _ _ hd' he
   · rw [if_neg (by simpa using hk)] at he
     simp only [JoinP_def, S.f110_k1, sl_zero, sl_succ, abin_add, Do_of, hw]
     exact ih (i + 1) _ _ hd' he
 exact main l 0 0 _ rfl rfl
theorem inner_of {x : GPlace} (hx : x.ok) (h : ∀ p ∈ x.parts, ∀ e ∈ p.index, CntOK C e) : Val (ACall C) K.f107 [.agg x.cells] (.int .i64 (cntP x)) := by
 obtain ⟨hl, hp⟩ := GPlace.ok_parts hx
 refine Val.of hGT (by simp [AV.frozs, AV.froz, GPlace.froz]) rfl fun Q hQ => S.cl_f107 hT ?_
 unfold S.f107
 simp only [plc_box, DoH_some, plc_addr, plc_l1, lstA_len', Do_of]
 rw [cntP_eq] at hQ
 have main : ∀ (r : List GPart) (i : Nat) (m : Int) (H1 : AH), x.parts.drop i = r → cntPs r m = cntPs x.parts 0 → LoopP (S.f107_l1 (ACall C) (lstA GPart.cells x.parts) (.int .i64 x.parts.length) Q) ([.int .i64 m, .int .i64 i], H1) := by
  intro r
  induction r with
  | nil =>
   intro i m H1 hd he
   have hle := drop_nil_le hd
   refine LoopP.step ?_
   simp only [S.f107_l1, sl_zero, sl_succ, abin_lss, Do_of, Gd_true]
   rw [if_neg (by simp only [decide_eq_true_eq]; omega)]
   rw [cntPs] at he
   rw [he]; exact hQ _
  | cons p r ih =>
   intro i m H1 hd he
   obtain ⟨hlt, hx, hd'⟩ := drop_cons_lt hd
   have hmem := List.mem_of_getElem? hx
   refine LoopP.step ?_
   simp only [S.f107_l1, sl_zero, sl_succ, abin_lss, Do_of, Gd_true]
   rw [if_pos (by simp only [decide_eq_true_eq]; omega), lstA_addr hlt]
   simp only [Do_of]
   rw [elA_load GPart.len (by decide) _ hx]
   simp only [Do_of, DoH_some, abox, if_true]
   rw [store_new _ _ _ 2 p.len p.scalar rfl]
   have a2 := At.new H1 (.row p.cells)
   simp only [Do_of, afaddr, Nat.zero_add]
   rw [pr_l1 a2]
   simp only [Do_of]
   refine exprs_of hGT hT (hp p hmem).1 (fun e he => h p hmem e he) _ _ ?_
   rw [cntPs, cntR_eq] at he
   simp only [abin_add, Do_of]
   have hw : IntKind.wrap .i64 ((i : Int) + 1) = ((i + 1 : Nat) : Int) := by rw [wrap_i64 (by omega) (by omega)]; simp
   rw [hw]
   exact ih (i + 1) _ _ hd' he
 exact main x.parts 0 0 _ rfl rfl
theorem cnt_ok : ∀ e : GExpr, e.ok → CntOK C e := by
 refine GExpr.ind fun e ihk ihp he => ?_
 obtain ⟨⟨hkl, hkk⟩, hpl⟩ := GExpr.ok_parts he
 have hpp := GPlace.ok_parts hpl
 exact ⟨exprs_of hGT hT hkl fun k hk => ihk k hk (hkk k hk), inner_of hGT hT hpl fun p hp i hi => ihp p hp i hi ((hpp.2 p hp).2 i hi)⟩
theorem exprs_val {l : List GExpr} (hl : l.length ≤ 9223372036854775807) (h : ∀ e ∈ l, e.ok) : Val (ACall C) K.f110 [lstA GExpr.cells l] (.int .i64 (cntEs l 0)) := exprs_of hGT hT hl fun e he => cnt_ok hGT hT e (h e he)
theorem inner_val {x : GPlace} (hx : x.ok) : Val (ACall C) K.f107 [.agg x.cells] (.int .i64 (cntP x)) := inner_of hGT hT hx fun p hp e he => cnt_ok hGT hT e ((GPlace.ok_parts hx).2 p hp |>.2 e he)
def StsOK (C : Ctx) (x : GStmt) : Prop := Val (ACall C) K.f78 [lstA GStmt.cells x.thn] (.int .i64 (cntSs x.thn 0)) ∧ Val (ACall C) K.f78 [lstA GStmt.cells x.els] (.int .i64 (cntSs x.els 0))
theorem stmts_of {l : List GStmt} (hl : l.length ≤ 9223372036854775807) (ho : ∀ x ∈ l, x.ok) (h : ∀ x ∈ l, StsOK C x) : Val (ACall C) K.f78 [lstA GStmt.cells l] (.int .i64 (cntSs l 0)) := by
 refine Val.of hGT (by simp [AV.frozs, lstA_froz GStmt.froz]) rfl fun Q hQ => S.cl_f78 hT ?_
 unfold S.f78
 simp only [lstA_len', Do_of]
 have main : ∀ (r : List GStmt) (i : Nat) (m : Int) (H1 : AH), l.drop i = r → cntSs r m = cntSs l 0 → LoopP (S.f78_l3 (ACall C) (lstA GStmt.cells l) (.int .i64 l.length) Q) ([.int .i64 m, .int .i64 i], H1) := by
  intro r
  induction r with
  | nil =>
   intro i m H1 hd he
   have hle := drop_nil_le hd
   refine LoopP.step ?_
   simp only [S.f78_l3, sl_zero, sl_succ, abin_lss, Do_of, Gd_true]
   rw [if_neg (by simp only [decide_eq_true_eq]; omega)]
   rw [cntSs] at he
   rw [he]; exact hQ _
  | cons e r ih =>
   intro i m H1 hd he
   obtain ⟨hlt, hx, hd'⟩ := drop_cons_lt hd
   have hmem := List.mem_of_getElem? hx
   obtain ⟨c1, c2⟩ := h e hmem
   obtain ⟨o1, o2, o3, o4⟩ := GStmt.ok_parts (ho e hmem)
   refine LoopP.step ?_
   simp only [S.f78_l3, sl_zero, sl_succ, abin_lss, Do_of, Gd_true]
   rw [if_pos (by simp only [decide_eq_true_eq]; omega), lstA_addr hlt]
   simp only [Do_of]
   rw [elA_load GStmt.len (by decide) _ hx]
   simp only [Do_of, DoH_some, abox, if_true]
   rw [store_new _ _ _ 10 e.len e.scalar rfl]
   have a2 := At.new H1 (.row e.cells)
   simp only [Do_of, afaddr, Nat.zero_add]
   rw [sr_l5 a2, sr_l7 a2, sr_l8 a2, sr_l9 a2]
   simp only [Do_of]
   refine inner_val hGT hT o1 _ _ ?_
   refine ⟨sr_l7 a2, sr_l8 a2, sr_l9 a2, ?_⟩
   refine exprs_val hGT hT o2.1 o2.2 _ _ ?_
   refine ⟨sr_l8 a2, sr_l9 a2, ?_⟩
   simp only [abin_add, Do_of]
   refine c1 _ _ ?_
   refine ⟨sr_l9 a2, ?_⟩
   simp only [abin_add, Do_of]
   refine c2 _ _ ?_
   rw [cntSs, cntS_eq] at he
   simp only [abin_add, Do_of, sr_l0 a2, abin_geq, abin_leq, Gd3_true]
   have hw : IntKind.wrap .i64 ((i : Int) + 1) = ((i + 1 : Nat) : Int) := by rw [wrap_i64 (by omega) (by omega)]; simp
   have k2 : ∀ b : Bool, (b = true ↔ 3 ≤ e.kind ∧ e.kind ≤ 7) → S.f78_k2 (ACall C) (.int .i64 (w64 (m + w64 (w64 (w64 (cntP e.place + cntEs e.exprs 0) + cntSs e.thn 0) + cntSs e.els 0)))) ([.int .i64 m, .int .i64 i], H1) (LoopP (S.f78_l3 (ACall C) (lstA GStmt.cells l) (.int .i64 l.length) Q)) Q [.bool b] (H1.push (.row e.cells)) := by
    intro b hb
    simp only [S.f78_k2, sl_zero, Gd_true, abin_add, Do_of, JoinP_def, S.f78_k1, sl_succ, hw]
    refine ite_both (fun hk => ?_) (fun hk => ?_)
    · rw [if_pos (hb.1 hk)] at he
      exact ih (i + 1) _ _ hd' he
    · rw [if_neg (fun e' => hk (hb.2 e'))] at he
      exact ih (i + 1) _ _ hd' he
   refine ite_both (fun hk => ?_) (fun hk => ?_)
   · refine k2 _ ?_
     simp only [decide_eq_true_eq] at hk ⊢
     omega
   · refine k2 false ⟨fun e' => (by cases e'), fun e' => ?_⟩
     simp only [decide_eq_true_eq] at hk
     omega
 exact main l 0 0 _ rfl rfl
theorem sts_ok : ∀ x : GStmt, x.ok → StsOK C x := by
 refine GStmt.ind fun x ihT ihE hx => ?_
 obtain ⟨_, _, o3, o4⟩ := GStmt.ok_parts hx
 exact ⟨stmts_of hGT hT o3.1 o3.2 fun y hy => ihT y hy (o3.2 y hy), stmts_of hGT hT o4.1 o4.2 fun y hy => ihE y hy (o4.2 y hy)⟩
theorem stmts_val {l : List GStmt} (hl : l.length ≤ 9223372036854775807) (h : ∀ x ∈ l, x.ok) : Val (ACall C) K.f78 [lstA GStmt.cells l] (.int .i64 (cntSs l 0)) := stmts_of hGT hT hl h fun x hx => sts_ok hGT hT x (h x hx)
end
end Rb

namespace Rb
open Go
theorem w64_dec {n : Int} (h0 : 0 ≤ n) (h1 : n ≤ 1000000) : w64 (n - 1) = n - 1 := wrap_i64 (by omega) (by omega)
structure Kp (s s' : RS) : Prop where
 locs : s'.locs = s.locs
 pr : s'.pr = s.pr
 line : s'.line = s.line
 st : s.stop = true → s' = s
 fu : 0 ≤ s.fuel → s.fuel ≤ 1000000 → s'.stop = false → 0 ≤ s'.fuel ∧ s'.fuel ≤ s.fuel
theorem Kp.refl (s : RS) : Kp s s := ⟨rfl, rfl, rfl, fun _ => rfl, fun h _ _ => ⟨h, Int.le_refl _⟩⟩
theorem Kp.stop {s s' : RS} (h : Kp s s') (h' : s'.stop = false) : s.stop = false := by
 cases hs : s.stop with
 | false => rfl
 | true => rw [h.st hs, hs] at h'; cases h'
theorem Kp.trans {a b c : RS} (h : Kp a b) (k : Kp b c) : Kp a c where
 locs := k.locs.trans h.locs
 pr := k.pr.trans h.pr
 line := k.line.trans h.line
 st := fun e => by
  have e1 := h.st e
  rw [e1] at k
  exact k.st e
 fu := fun h0 h1 h2 => by
  have hb := k.stop h2
  have x := h.fu h0 h1 hb
  have y := k.fu x.1 (by omega) h2
  exact ⟨y.1, by omega⟩
theorem Kp.burn (s : RS) : Kp s s.burn := by
 unfold RS.burn
 split
 · exact Kp.refl s
 · rename_i hs
   split
   · exact ⟨rfl, rfl, rfl, fun e => absurd e hs, fun _ _ h => by cases h⟩
   · exact ⟨rfl, rfl, rfl, fun e => absurd e hs, fun h0 h1 _ => by
       show 0 ≤ w64 (s.fuel - 1) ∧ w64 (s.fuel - 1) ≤ s.fuel
       rw [w64_dec h0 h1]; omega⟩
theorem burn_dec {s : RS} (h0 : 0 ≤ s.fuel) (h1 : s.fuel ≤ 1000000) (h : s.burn.stop = false) : s.burn.fuel = s.fuel - 1 ∧ 1 ≤ s.fuel := by
 unfold RS.burn at h ⊢
 split at h
 · rename_i hs; rw [hs] at h; cases h
 · rename_i hs
   rw [if_neg hs]
   split at h
   · cases h
   · rename_i hf
     rw [if_neg hf]
     exact ⟨w64_dec h0 h1, by omega⟩
theorem Kp.ask (s : RS) (w : WantM) : Kp s (s.ask w).1 := by
 unfold RS.ask
 split
 · exact Kp.refl s
 · rename_i hs
   split
   · exact ⟨rfl, rfl, rfl, fun e => absurd e hs, fun _ _ h => by cases h⟩
   · exact ⟨rfl, rfl, rfl, fun e => absurd e hs, fun h _ _ => ⟨h, Int.le_refl _⟩⟩
section
variable (vars : List GVar)
mutual
theorem exR_kp : ∀ (e : GExpr) (a : Int) (s : RS), Kp s (exR vars e a s).1
 | .mk kind n name op order place kids, a, s => by
  rw [exR]
  have hb := Kp.burn s
  split
  · exact hb
  · split
    · exact hb
    · split
      · exact hb
      · split
        · exact hb.trans (kidsR_kp kids a s.burn)
        · have hp := plR_kp place a s.burn
          split
          · exact hb.trans hp
          · exact (hb.trans hp).trans ((kidsR_kp kids _ _).trans (Kp.ask _ _))
theorem kidsR_kp : ∀ (l : List GExpr) (a : Int) (s : RS), Kp s (kidsR vars l a s).1
 | [], a, s => by rw [kidsR]; exact Kp.refl s
 | x :: r, a, s => by
  rw [kidsR]
  exact (exR_kp x a s).trans (kidsR_kp r _ _)
theorem plR_kp : ∀ (x : GPlace) (a : Int) (s : RS), Kp s (plR vars x a s).1
 | .mk var parts, a, s => by
  rw [plR]
  exact ptsR_kp (.mk var parts) parts 0 a [] s
theorem ptsR_kp (x : GPlace) : ∀ (l : List GPart) (k : Nat) (a : Int) (idx : List Int) (s : RS), Kp s (ptsR vars x l k a idx s).1
 | [], k, a, idx, s => by rw [ptsR]; exact Kp.refl s
 | p :: r, k, a, idx, s => by
  rw [ptsR]
  have hp := ptR_kp p a s
  cases hq : ptR vars p a s with
  | none => exact ptsR_kp x r (k + 1) a idx s
  | some q =>
   dsimp only
   have hq1 := hp q hq
   split
   · exact hq1
   · rename_i hs
     split
     · exact ⟨hq1.locs, hq1.pr, hq1.line, fun e => by
         have := hq1.st e
         rw [this] at hs
         exact absurd e hs, fun _ _ h => by cases h⟩
     · exact hq1.trans (ptsR_kp x r (k + 1) _ _ _)
theorem ptR_kp : ∀ (p : GPart) (a : Int) (s : RS) (q : RS × Int), ptR vars p a s = some q → Kp s q.1
 | .mk field index, a, s, q, h => by
  rw [ptR] at h
  exact hdR_kp index a s q h
theorem hdR_kp : ∀ (l : List GExpr) (a : Int) (s : RS) (q : RS × Int), hdR vars l a s = some q → Kp s q.1
 | [], a, s, q, h => by rw [hdR] at h; cases h
 | e :: r, a, s, q, h => by
  rw [hdR] at h
  cases h
  exact exR_kp e a s
end
theorem exR_dec (e : GExpr) (a : Int) (s : RS) (h0 : 0 ≤ s.fuel) (h1 : s.fuel ≤ 1000000) (h : (exR vars e a s).1.stop = false) : (exR vars e a s).1.fuel ≤ s.fuel - 1 ∧ 1 ≤ s.fuel := by
 have hk : Kp s.burn (exR vars e a s).1 := by
  cases e with
  | mk kind n name op order place kids =>
   rw [exR]
   split
   · exact Kp.refl _
   · split
     · exact Kp.refl _
     · split
       · exact Kp.refl _
       · split
         · exact kidsR_kp vars kids a s.burn
         · have hp := plR_kp vars place a s.burn
           split
           · exact hp
           · exact hp.trans ((kidsR_kp vars kids _ _).trans (Kp.ask _ _))
 have hb := hk.stop h
 obtain ⟨e1, e2⟩ := burn_dec h0 h1 hb
 have := hk.fu (by omega) (by omega) h
 exact ⟨by omega, e2⟩
theorem firstR_kp (l : List GExpr) (a : Int) (s : RS) : Kp s (firstR vars l a s).1 := by
 unfold firstR
 split
 · exact Kp.refl s
 · exact exR_kp vars _ a s
end
structure Ks (s s' : RS) : Prop where
 pr : s.pr <+: s'.pr
 st : s.stop = true → s' = s
 fu : 0 ≤ s.fuel → s.fuel ≤ 1000000 → s'.stop = false → 0 ≤ s'.fuel ∧ s'.fuel ≤ s.fuel
theorem Kp.ks {s s' : RS} (h : Kp s s') : Ks s s' := ⟨by rw [h.pr]; exact List.prefix_refl _, h.st, h.fu⟩
theorem Ks.refl (s : RS) : Ks s s := (Kp.refl s).ks
theorem Ks.stop {s s' : RS} (h : Ks s s') (h' : s'.stop = false) : s.stop = false := by
 cases hs : s.stop with
 | false => rfl
 | true => rw [h.st hs, hs] at h'; cases h'
theorem Ks.trans {a b c : RS} (h : Ks a b) (k : Ks b c) : Ks a c where
 pr := h.pr.trans k.pr
 st := fun e => by
  have e1 := h.st e
  rw [e1] at k
  exact k.st e
 fu := fun h0 h1 h2 => by
  have hb := k.stop h2
  have x := h.fu h0 h1 hb
  have y := k.fu x.1 (by omega) h2
  exact ⟨y.1, by omega⟩
theorem Ks.upd {s s1 s' : RS} (h : Kp s s1) (hs : s1.stop = false) (hp : s1.pr <+: s'.pr) (hf : s'.fuel = s1.fuel) : Ks s s' :=
 ⟨by rw [← h.pr]; exact hp, fun e => (by have := h.st e; rw [this] at hs; rw [e] at hs; cases hs), fun h0 h1 _ => (by have := h.fu h0 h1 hs; rw [hf]; exact this)⟩
section
variable (vars : List GVar)
theorem wrO_kp (sp : GSpot) (site : Int) (s : RS) : Kp s (wrO sp site s).1 := by
 unfold wrO
 split
 · exact Kp.ask _ _
 · exact Kp.refl s
theorem wrT_kp (exprs : List GExpr) (order a1 : Int) (sp : GSpot) (s : RS) : Kp s (wrT vars exprs order a1 sp s) := by
 unfold wrT
 exact (kidsR_kp vars exprs _ _).trans ((wrO_kp _ _ _).trans (Kp.ask _ _))
theorem wrR_kp (place : GPlace) (exprs : List GExpr) (order a : Int) (s : RS) : Kp s (wrR vars place exprs order a s) := by
 unfold wrR
 have hp := plR_kp vars place a s
 split
 · exact hp
 · exact hp.trans (wrT_kp vars _ _ _ _ _)
theorem put_same (s : RS) (x : List UInt8) (v : Int) : (s.put x v).pr = s.pr ∧ (s.put x v).fuel = s.fuel ∧ (s.put x v).stop = s.stop ∧ (s.put x v).ans = s.ans ∧ (s.put x v).line = s.line ∧ (s.put x v).fin = s.fin ∧ (s.put x v).want = s.want ∧ (s.put x v).empty = s.empty := by
 unfold RS.put
 split <;> exact ⟨rfl, rfl, rfl, rfl, rfl, rfl, rfl, rfl⟩
theorem ldU_ks (name name2 : List UInt8) {s : RS} {g : RS × Int × Int} (hk : Kp s g.1) : Ks s (ldU name name2 g) := by
 unfold ldU
 split
 · exact hk.ks
 · rename_i hs
   have e1 := put_same g.1 name g.2.1
   have e2 := put_same (g.1.put name g.2.1) name2 g.2.2
   exact Ks.upd hk (by simpa using hs) (by rw [e2.1, e1.1]; exact List.prefix_refl _) (by rw [e2.2.1, e1.2.1])
theorem ldR_ks (name name2 : List UInt8) (place : GPlace) (order a : Int) (s : RS) : Ks s (ldR vars name name2 place order a s) := by
 unfold ldR
 have hp := plR_kp vars place a s
 split
 · exact hp.ks
 · exact ldU_ks name name2 (hp.trans (Kp.ask _ _))
theorem whR_ks {cond : RS → RS × Int} {body : RS → RS} (hc : ∀ s, Kp s (cond s).1) (hb : ∀ s, s.stop = false → Ks s (body s)) : ∀ (c : Nat) (s : RS), Ks s (whR cond body c s)
 | 0, s => Ks.refl s
 | c + 1, s => by
  unfold whR
  split
  · rename_i h
    exact (hc s).ks.trans ((hb _ h.2).trans (whR_ks hc hb c _))
  · exact (hc s).ks
variable (c : Nat)
mutual
theorem stR_ks : ∀ (x : GStmt) (a : Int) (s : RS), Ks s (stR vars c x a s)
 | .mk kind line name name2 order place exprs thn els, a, s => by
  rw [stR]
  have hf := firstR_kp vars exprs a s
  split
  · exact (wrR_kp vars place exprs order a s).ks
  · split
    · exact ldR_ks vars name name2 place order a s
    · split
      · exact (Kp.ask _ _).ks
      · split
        · refine whR_ks (firstR_kp vars exprs a) (fun s1 h1 => ?_) c s
          have hb := blR_ks thn (w64 (a + cntEs exprs 0)) s1.locs.length s1 h1
          exact ⟨hb.1, fun e => (by rw [h1] at e; cases e), hb.2⟩
        · split
          · exact hf.ks
          · rename_i hs
            have hs : (firstR vars exprs a s).1.stop = false := by simpa using hs
            split
            · exact Ks.upd hf hs (List.prefix_refl _) rfl
            · split
              · have e1 := put_same (firstR vars exprs a s).1 name (firstR vars exprs a s).2
                exact Ks.upd hf hs (by rw [e1.1]; exact List.prefix_refl _) e1.2.1
              · split
                · exact Ks.upd hf hs (List.prefix_append _ _) rfl
                · have bl : ∀ (l : List GStmt) (b : Int) (hl : ∀ b n s1, s1.stop = false → s1.pr <+: (blR vars c l b n s1).pr ∧ (0 ≤ s1.fuel → s1.fuel ≤ 1000000 → (blR vars c l b n s1).stop = false → 0 ≤ (blR vars c l b n s1).fuel ∧ (blR vars c l b n s1).fuel ≤ s1.fuel)), Ks s (blR vars c l b (firstR vars exprs a s).1.locs.length (firstR vars exprs a s).1) := by
                    intro l b hl
                    have hb := hl b (firstR vars exprs a s).1.locs.length (firstR vars exprs a s).1 hs
                    refine ⟨by rw [← hf.pr]; exact hb.1, fun e => ?_, fun h0 h1 h2 => ?_⟩
                    · have := hf.st e
                      rw [this, e] at hs; cases hs
                    · have x := hf.fu h0 h1 hs
                      have y := hb.2 x.1 (by omega) h2
                      exact ⟨y.1, by omega⟩
                  split
                  · exact bl thn _ (fun b n s1 h1 => blR_ks thn b n s1 h1)
                  · exact bl els _ (fun b n s1 h1 => blR_ks els b n s1 h1)
theorem blR_ks : ∀ (l : List GStmt) (a : Int) (n : Nat) (s : RS), s.stop = false → s.pr <+: (blR vars c l a n s).pr ∧ (0 ≤ s.fuel → s.fuel ≤ 1000000 → (blR vars c l a n s).stop = false → 0 ≤ (blR vars c l a n s).fuel ∧ (blR vars c l a n s).fuel ≤ s.fuel)
 | [], a, n, s, h => by rw [blR]; exact ⟨List.prefix_refl _, fun h0 _ _ => ⟨h0, Int.le_refl _⟩⟩
 | x :: r, a, n, s, h => by
  rw [blR, if_neg (by rw [h]; decide)]
  have k1 : Ks ({ s with line := x.line } : RS) (stR vars c x a ({ s with line := x.line } : RS).burn) := (Kp.burn _).ks.trans (stR_ks x a _)
  cases hs : (stR vars c x a ({ s with line := x.line } : RS).burn).stop with
  | false =>
   obtain ⟨q1, q2⟩ := blR_ks r (w64 (a + cntS x 0)) n (stR vars c x a ({ s with line := x.line } : RS).burn) hs
   refine ⟨k1.pr.trans q1, fun h0 h1 h2 => ?_⟩
   have y := k1.fu h0 h1 hs
   have y2 : (stR vars c x a ({ s with line := x.line } : RS).burn).fuel ≤ s.fuel := y.2
   have z := q2 y.1 (by omega) h2
   exact ⟨z.1, by omega⟩
  | true =>
   have e : ∀ (l : List GStmt) (b : Int) (m : Nat) (u : RS), u.stop = true → (blR vars c l b m u).pr = u.pr ∧ (blR vars c l b m u).stop = true := by
    intro l b m u hu
    cases l with
    | nil => rw [blR]; exact ⟨rfl, hu⟩
    | cons y t => rw [blR, if_pos hu]; exact ⟨rfl, hu⟩
   obtain ⟨e1, e2⟩ := e r (w64 (a + cntS x 0)) n _ hs
   refine ⟨by rw [e1]; exact k1.pr, fun _ _ h2 => ?_⟩
   rw [e2] at h2; cases h2
end
end
end Rb

namespace Rb
open Go
def ansC (a : Int × Int) : List AV := [.int .u64 a.1, .int .u64 a.2]
def locC (l : List UInt8 × Int) : List AV := [.str l.1, .int .u64 l.2]
def rmC (vars : List GVar) (s : RS) (lx px : AV) : List AV :=
 lstA GVar.cells vars :: lstA ansC s.ans :: lx :: px :: .int .i64 s.line :: .int .i64 s.fuel :: .int .i64 s.fin :: (s.want.cells ++ [.bool s.stop, .bool s.empty])
def LocV (H : AH) (id : Nat) (L : List (List UInt8 × Int)) (x : AV) : Prop :=
 (x = .lst .nil 0 [] ∧ L = []) ∨ ∃ j cs m, x = .row j 0 L.length 2 ∧ j ≠ id ∧ At H j (.row cs) ∧ cs.length = m * 2 ∧ L.length ≤ m ∧ cs.take (L.length * 2) = L.flatMap locC
theorem LocV.keep {H H' : AH} {id : Nat} {L : List (List UInt8 × Int)} {x : AV} (h : LocV H id L x) (k : KeepC id H H') : LocV H' id L x := by
 rcases h with h | ⟨j, cs, m, h1, h2, h3, h4⟩
 · exact .inl h
 · exact .inr ⟨j, cs, m, h1, h2, k.2 j _ h2 h3, h4⟩
theorem ite_P' {α : Type} {c : Prop} [Decidable c] {a b : α} (P : α → Prop) (h1 : c → P a) (h2 : ¬ c → P b) : P (if c then a else b) := by
 split
 · exact h1 ‹_›
 · exact h2 ‹_›
structure RS.ok (s : RS) : Prop where
 ans : ∀ x ∈ s.ans, u64ok x.1 ∧ u64ok x.2
 locs : ∀ l ∈ s.locs, u64ok l.2
theorem wu_lt (n : Int) : 0 ≤ IntKind.wrap .u64 n ∧ IntKind.wrap .u64 n < 18446744073709551616 := by
 unfold IntKind.wrap
 simp only [IntKind.signed, IntKind.bits]
 have := Int.emod_nonneg n (show (18446744073709551616 : Int) ≠ 0 by decide)
 have := Int.emod_lt_of_pos n (show (0 : Int) < 18446744073709551616 by decide)
 first | exact ⟨by simpa using ‹0 ≤ n % 18446744073709551616›, by simpa using ‹n % 18446744073709551616 < 18446744073709551616›⟩ | omega
theorem wu_ok (n : Int) : u64ok (IntKind.wrap .u64 n) := by
 have := wu_lt n
 unfold u64ok; omega
theorem z_ok : u64ok 0 := ⟨by decide, by decide⟩
theorem oshr_ok {a b : Int} (h : u64ok a) : u64ok (oshr a b) := by
 unfold oshr u64ok
 have hp : (0 : Int) < 2 ^ (min b.toNat 64) := Int.pow_pos (by decide)
 rw [Int.fdiv_eq_ediv_of_nonneg _ (Int.le_of_lt hp)]
 have h1 := Int.ediv_nonneg h.1 (Int.le_of_lt hp)
 have h2 := Int.ediv_le_self (2 ^ (min b.toNat 64)) h.1
 exact ⟨h1, Int.le_trans h2 h.2⟩
theorem operM_ok {op a b : Int} (ha : u64ok a) : u64ok (operM op a b) := by
 have one : u64ok 1 := ⟨by decide, by decide⟩
 unfold operM
 iterate 6 (refine ite_P' u64ok (fun _ => wu_ok _) (fun _ => ?_))
 refine ite_P' u64ok (fun _ => wu_ok _) (fun _ => ?_)
 refine ite_P' u64ok (fun _ => oshr_ok ha) (fun _ => ?_)
 exact ite_P' u64ok (fun _ => one) (fun _ => z_ok)
theorem oget_ok (x a n : Int) : u64ok (oget x a n) := by
 unfold oget
 exact ite_P' u64ok (fun _ => wu_ok _) (fun _ => z_ok)
theorem RS.ok.burn {s : RS} (h : s.ok) : s.burn.ok := by
 unfold RS.burn
 exact ite_P' RS.ok (fun _ => h) (fun _ => ite_P' RS.ok (fun _ => ⟨h.ans, h.locs⟩) (fun _ => ⟨h.ans, h.locs⟩))
theorem RS.ok.ask {s : RS} (h : s.ok) (w : WantM) : (s.ask w).1.ok ∧ u64ok (s.ask w).2.1 ∧ u64ok (s.ask w).2.2 := by
 unfold RS.ask
 refine ite_P' (fun z : RS × Int × Int => z.1.ok ∧ u64ok z.2.1 ∧ u64ok z.2.2) (fun _ => ⟨h, z_ok, z_ok⟩) (fun _ => ?_)
 cases ha : s.ans with
 | nil => exact ⟨⟨fun x hx => (by cases hx), h.locs⟩, z_ok, z_ok⟩
 | cons x r =>
  have h1 := h.ans
  rw [ha] at h1
  exact ⟨⟨fun y hy => h1 y (List.mem_cons_of_mem _ hy), h.locs⟩, (h1 x (List.mem_cons_self ..)).1, (h1 x (List.mem_cons_self ..)).2⟩
theorem RS.ok.get {s : RS} (h : s.ok) (x : List UInt8) : u64ok (s.get x) := by
 unfold RS.get
 split
 · rename_i l hl
   exact h.locs l (List.mem_of_find?_eq_some hl)
 · exact z_ok
theorem RS.ok.put {s : RS} (h : s.ok) (x : List UInt8) {v : Int} (hv : u64ok v) : (s.put x v).ok := by
 unfold RS.put
 split
 · refine ⟨h.ans, fun l hl => ?_⟩
   rcases List.mem_or_eq_of_mem_set hl with hl | rfl
   · exact h.locs l hl
   · exact hv
 · exact h
section
variable (vars : List GVar)
def ExOkM (e : GExpr) : Prop := ∀ (a : Int) (s : RS), s.ok → (exR vars e a s).1.ok ∧ u64ok (exR vars e a s).2
theorem kids_okM : ∀ {l : List GExpr}, (∀ e ∈ l, ExOkM vars e) → ∀ (a : Int) (s : RS), s.ok → (kidsR vars l a s).1.ok ∧ ∀ v ∈ (kidsR vars l a s).2, u64ok v
 | [], _, a, s, h => by rw [kidsR]; exact ⟨h, fun v hv => by cases hv⟩
 | x :: r, hE, a, s, h => by
  obtain ⟨h1, h2⟩ := hE x (List.mem_cons_self ..) a s h
  obtain ⟨h3, h4⟩ := kids_okM (fun e he => hE e (List.mem_cons_of_mem _ he)) (w64 (a + cntE x 0)) _ h1
  rw [kidsR]
  refine ⟨h3, fun v hv => ?_⟩
  rcases List.mem_cons.1 hv with rfl | hv
  · exact h2
  · exact h4 v hv
theorem ptR_eq (p : GPart) (a : Int) (s : RS) : ptR vars p a s = match p.index with | [] => none | e :: _ => some (exR vars e a s) := by
 cases p with
 | mk field index =>
  rw [ptR]
  cases index <;> rw [hdR]
theorem pts_okM (x : GPlace) : ∀ {l : List GPart}, (∀ p ∈ l, ∀ e ∈ p.index, ExOkM vars e) → ∀ (k : Nat) (a : Int) (idx : List Int) (s : RS), s.ok → (∀ v ∈ idx, u64ok v) → (ptsR vars x l k a idx s).1.ok ∧ ∀ i, (ptsR vars x l k a idx s).2 = some i → ∀ v ∈ i, u64ok v
 | [], _, k, a, idx, s, h, hi => by rw [ptsR]; exact ⟨h, fun i e => by cases e; exact hi⟩
 | p :: r, hE, k, a, idx, s, h, hi => by
  have ihr := pts_okM x (l := r) (fun q hq => hE q (List.mem_cons_of_mem _ hq))
  rw [ptsR, ptR_eq]
  cases hp : p.index with
  | nil => exact ihr _ _ _ _ h hi
  | cons e t =>
   dsimp only
   obtain ⟨h1, h2⟩ := hE p (List.mem_cons_self ..) e (by rw [hp]; exact List.mem_cons_self ..) a s h
   split
   · exact ⟨h1, fun i e => by cases e⟩
   · split
     · exact ⟨⟨h1.ans, h1.locs⟩, fun i e => by cases e⟩
     · refine ihr _ _ _ _ h1 fun v hv => ?_
       rcases List.mem_append.1 hv with hv | hv
       · exact hi v hv
       · rw [List.mem_singleton.1 hv]; exact h2
theorem plR_eq (x : GPlace) (a : Int) (s : RS) : plR vars x a s = ((ptsR vars x x.parts 0 a [] s).1, (ptsR vars x x.parts 0 a [] s).2.map fun idx => findM vars x idx) := by cases x; rw [plR]
theorem exR_eq (e : GExpr) (a : Int) (s : RS) : exR vars e a s =
  if s.burn.stop = true then (s.burn, 0)
  else if e.kind = 1 then (s.burn, e.n)
  else if e.kind = 2 then (s.burn, s.burn.get e.name)
  else if e.kind = 3 then ((kidsR vars e.kids a s.burn).1, operM e.op ((kidsR vars e.kids a s.burn).2.getD 0 0) ((kidsR vars e.kids a s.burn).2.getD 1 0))
  else match (plR vars e.place a s.burn).2 with
   | none => ((plR vars e.place a s.burn).1, 0)
   | some sp => bitV sp ((kidsR vars e.kids (w64 (a + cntP e.place)) (plR vars e.place a s.burn).1).1.ask (accW e.kind e.order sp (w64 (a + cntP e.place)) e.kids (kidsR vars e.kids (w64 (a + cntP e.place)) (plR vars e.place a s.burn).1).2)) := by cases e; first | (rw [exR]; done) | (rw [exR]; rfl)
theorem getD_ok {l : List Int} (h : ∀ v ∈ l, u64ok v) (k : Nat) : u64ok (l.getD k 0) := by
 rw [List.getD_eq_getElem?_getD]
 cases hk : l[k]? with
 | none => exact z_ok
 | some v => exact h v (List.mem_of_getElem? hk)
theorem bitV_ok (sp : GSpot) {g : RS × Int × Int} (h1 : g.1.ok) (h2 : u64ok g.2.1) : (bitV sp g).1.ok ∧ u64ok (bitV sp g).2 := by
 refine ⟨h1, ?_⟩
 show u64ok (if sp.bits = true then _ else _)
 exact ite_P' u64ok (fun _ => oget_ok _ _ _) (fun _ => h2)
theorem exR_okM : ∀ e : GExpr, e.ok → ExOkM vars e := by
 refine GExpr.ind fun e ihk ihp he => ?_
 obtain ⟨⟨hkl, hkk⟩, hpl⟩ := GExpr.ok_parts he
 have hpp := GPlace.ok_parts hpl
 have hn : u64ok e.n := by cases e; exact he.2.1
 intro a s h
 have hb := h.burn
 have hK := kids_okM vars (fun k hk => ihk k hk (hkk k hk))
 have hP := pts_okM vars e.place (l := e.place.parts) (fun p hp i hi => ihp p hp i hi ((hpp.2 p hp).2 i hi)) 0 a [] s.burn hb (fun v hv => by cases hv)
 rw [exR_eq]
 refine ite_P' (fun z : RS × Int => z.1.ok ∧ u64ok z.2) (fun _ => ⟨hb, z_ok⟩) (fun _ => ?_)
 refine ite_P' (fun z : RS × Int => z.1.ok ∧ u64ok z.2) (fun _ => ⟨hb, hn⟩) (fun _ => ?_)
 refine ite_P' (fun z : RS × Int => z.1.ok ∧ u64ok z.2) (fun _ => ⟨hb, hb.get _⟩) (fun _ => ?_)
 refine ite_P' (fun z : RS × Int => z.1.ok ∧ u64ok z.2) (fun _ => ⟨(hK a _ hb).1, operM_ok (getD_ok (hK a _ hb).2 0)⟩) (fun _ => ?_)
 have hp1 : (plR vars e.place a s.burn).1.ok := by rw [plR_eq]; exact hP.1
 cases (plR vars e.place a s.burn).2 with
 | none => exact ⟨hp1, z_ok⟩
 | some sp =>
  have hk := hK (w64 (a + cntP e.place)) _ hp1
  have hq := hk.1.ask (accW e.kind e.order sp (w64 (a + cntP e.place)) e.kids (kidsR vars e.kids (w64 (a + cntP e.place)) (plR vars e.place a s.burn).1).2)
  exact bitV_ok sp hq.1 hq.2.1
end
section
variable {vars : List GVar} {s : RS} {lx px : AV} {H : AH} {id : Nat} (h : At H id (.row (rmC vars s lx px)))
include h
theorem rm_vars : aload H 1 false (.ptr id 0) = some (lstA GVar.cells vars) := by rw [h.load]; rfl
theorem rm_ans : aload H 1 false (.ptr id 1) = some (lstA ansC s.ans) := by rw [h.load]; rfl
theorem rm_locs : aload H 1 false (.ptr id 2) = some lx := by rw [h.load]; rfl
theorem rm_pr : aload H 1 false (.ptr id 3) = some px := by rw [h.load]; rfl
theorem rm_line : aload H 1 false (.ptr id 4) = some (.int .i64 s.line) := by rw [h.load]; rfl
theorem rm_fuel : aload H 1 false (.ptr id 5) = some (.int .i64 s.fuel) := by rw [h.load]; rfl
theorem rm_fin : aload H 1 false (.ptr id 6) = some (.int .i64 s.fin) := by rw [h.load]; rfl
theorem rm_want : aload H 13 true (.ptr id 7) = some (.agg s.want.cells) := by rw [h.load]; rfl
theorem rm_stop : aload H 1 false (.ptr id 20) = some (.bool s.stop) := by rw [h.load]; rfl
theorem rm_empty : aload H 1 false (.ptr id 21) = some (.bool s.empty) := by rw [h.load]; rfl
theorem rm_sans (l : List (Int × Int)) : astore H 1 (.ptr id 1) (lstA ansC l) = some (H.set id (.row (rmC vars { s with ans := l } lx px))) := by
 rw [h.store, if_pos ⟨rfl, rfl, rfl, (by decide : 1 + 1 ≤ 22)⟩]; rfl
theorem rm_slocs {v : AV} (h1 : v.known = true) (h2 : v.cells = [v]) (h3 : v.scalar = true) : astore H 1 (.ptr id 2) v = some (H.set id (.row (rmC vars s v px))) := by
 rw [h.store, if_pos ⟨h1, by rw [h2]; rfl, by rw [h2]; simpa using h3, (by show 2 + 1 ≤ 22; decide)⟩, h2]; rfl
theorem rm_spr {v : AV} (h1 : v.known = true) (h2 : v.cells = [v]) (h3 : v.scalar = true) : astore H 1 (.ptr id 3) v = some (H.set id (.row (rmC vars s lx v))) := by
 rw [h.store, if_pos ⟨h1, by rw [h2]; rfl, by rw [h2]; simpa using h3, (by show 3 + 1 ≤ 22; decide)⟩, h2]; rfl
theorem rm_sline (v : Int) : astore H 1 (.ptr id 4) (.int .i64 v) = some (H.set id (.row (rmC vars { s with line := v } lx px))) := by
 rw [h.store, if_pos ⟨rfl, rfl, rfl, (by decide : 4 + 1 ≤ 22)⟩]; rfl
theorem rm_sfuel (v : Int) : astore H 1 (.ptr id 5) (.int .i64 v) = some (H.set id (.row (rmC vars { s with fuel := v } lx px))) := by
 rw [h.store, if_pos ⟨rfl, rfl, rfl, (by decide : 5 + 1 ≤ 22)⟩]; rfl
theorem rm_sfin (v : Int) : astore H 1 (.ptr id 6) (.int .i64 v) = some (H.set id (.row (rmC vars { s with fin := v } lx px))) := by
 rw [h.store, if_pos ⟨rfl, rfl, rfl, (by decide : 6 + 1 ≤ 22)⟩]; rfl
theorem rm_swant (w : WantM) : astore H 13 (.ptr id 7) (.agg w.cells) = some (H.set id (.row (rmC vars { s with want := w } lx px))) := by
 rw [h.store, if_pos ⟨rfl, rfl, rfl, (by decide : 7 + 13 ≤ 22)⟩]; rfl
theorem rm_swline (v : Int) : astore H 1 (.ptr id 9) (.int .i64 v) = some (H.set id (.row (rmC vars { s with want := { s.want with line := v } } lx px))) := by
 rw [h.store, if_pos ⟨rfl, rfl, rfl, (by decide : 9 + 1 ≤ 22)⟩]; rfl
theorem rm_sstop (b : Bool) : astore H 1 (.ptr id 20) (.bool b) = some (H.set id (.row (rmC vars { s with stop := b } lx px))) := by
 rw [h.store, if_pos ⟨rfl, rfl, rfl, (by decide : 20 + 1 ≤ 22)⟩]; rfl
theorem rm_sempty (b : Bool) : astore H 1 (.ptr id 21) (.bool b) = some (H.set id (.row (rmC vars { s with empty := b } lx px))) := by
 rw [h.store, if_pos ⟨rfl, rfl, rfl, (by decide : 21 + 1 ≤ 22)⟩]; rfl
end
end Rb

namespace Rb
open Go
theorem b_andn' (k : IntKind) (a b : Int) : abin .andNot (.int k a) (.int k b) = some (.int k (k.wrap (BitVec.ofInt k.bits a &&& ~~~BitVec.ofInt k.bits b).toNat)) := by simp [abin, abinInt, bitsOp]
section
variable {Φ : Calls'} {H : AH} {Q : Post}
theorem omask_spec {n : Int} (hQ : Q (.int .u64 (omask n)) H) : S.f70 Φ (.int .i64 n) H Q := by
 unfold S.f70
 unfold omask at hQ
 simp only [abin_lss, abin_geq, Do_of, Gd_true]
 refine ite_both (fun h => ?_) (fun h => ?_)
 · rw [if_pos (by simpa using h)] at hQ; exact hQ
 have h1 : ¬ n < 1 := by simpa using h
 rw [if_neg h1] at hQ
 refine ite_both (fun h => ?_) (fun h => ?_)
 · rw [if_pos (by simpa using h)] at hQ; exact hQ
 have h2 : ¬ n ≥ 64 := by simpa using h
 rw [if_neg h2] at hQ
 rw [abin_shl _ _ _ _ (by omega)]
 simp only [Do_of, abin_sub]
 exact hQ
theorem operate_spec {op a b : Int} (hb : u64ok b) (hQ : Q (.int .u64 (operM op a b)) H) : S.f141 Φ (.int .i64 op) (.int .u64 a) (.int .u64 b) H Q := by
 have hrem : 0 ≤ b.tmod 64 := Int.tmod_nonneg _ hb.1
 unfold S.f141
 unfold operM at hQ
 simp only [abin_eql, Do_of, Gd_true, abin_add, abin_sub, abin_mul, abin_and, abin_or, abin_xor, abin_rem _ _ _ (show (64 : Int) ≠ 0 by decide), abin_shl _ _ _ _ hrem, abin_shr _ _ _ _ hrem, abin_neq, abin_lss, JoinP_def, S.f141_k1, sl_zero]
 refine ite_both (fun h => ?_) (fun h => ?_)
 · rw [if_pos (by simpa using h)] at hQ; exact hQ
 rw [if_neg (by simpa using h)] at hQ
 refine ite_both (fun h => ?_) (fun h => ?_)
 · rw [if_pos (by simpa using h)] at hQ; exact hQ
 rw [if_neg (by simpa using h)] at hQ
 refine ite_both (fun h => ?_) (fun h => ?_)
 · rw [if_pos (by simpa using h)] at hQ; exact hQ
 rw [if_neg (by simpa using h)] at hQ
 refine ite_both (fun h => ?_) (fun h => ?_)
 · rw [if_pos (by simpa using h)] at hQ; exact hQ
 rw [if_neg (by simpa using h)] at hQ
 refine ite_both (fun h => ?_) (fun h => ?_)
 · rw [if_pos (by simpa using h)] at hQ; exact hQ
 rw [if_neg (by simpa using h)] at hQ
 refine ite_both (fun h => ?_) (fun h => ?_)
 · rw [if_pos (by simpa using h)] at hQ; exact hQ
 rw [if_neg (by simpa using h)] at hQ
 refine ite_both (fun h => ?_) (fun h => ?_)
 · rw [if_pos (by simpa using h)] at hQ; exact hQ
 rw [if_neg (by simpa using h)] at hQ
 refine ite_both (fun h => ?_) (fun h => ?_)
 · rw [if_pos (by simpa using h)] at hQ; exact hQ
 rw [if_neg (by simpa using h)] at hQ
 have fin : ∀ c : Bool, (if op = 9 then a == b else if op = 10 then a != b else decide (a < b)) = c → if c = true then Q (.int .u64 1) H else Q (.int .u64 0) H := by
  intro c hc
  rw [hc] at hQ
  cases c
  · rw [if_neg (by decide)] at hQ ⊢; exact hQ
  · rw [if_pos rfl] at hQ ⊢; exact hQ
 refine ite_both (fun h => ?_) (fun h => ?_)
 · exact fin _ (by rw [if_pos (by simpa using h)])
 have h9 : ¬ op = 9 := by simpa using h
 refine ite_both (fun h => ?_) (fun h => ?_)
 · exact fin _ (by rw [if_neg h9, if_pos (by simpa using h)])
 · exact fin _ (by rw [if_neg h9, if_neg (by simpa using h)])
end
section
variable {C : Ctx} (hGT : GTok C) (hT : Cl (ACall C) S.tab_Chk)
include hGT hT
theorem omask_val (n : Int) : Val (ACall C) K.f70 [.int .i64 n] (.int .u64 (omask n)) := fun H Q hQ => S.cl_f70 hT (omask_spec hQ)
theorem oin_val (n : Int) : Val (ACall C) K.f162 [.int .i64 n] (.bool (oin n)) := fun H Q hQ => S.cl_f162 hT (by
  unfold S.f162
  unfold oin at hQ
  simp only [abin_geq, abin_lss, Do_of, Gd3_true]
  refine ite_both (fun h => ?_) (fun h => ?_)
  · rw [h] at hQ; exact hQ
  · have h : decide (n ≥ 0) = false := by simpa using h
    rw [h] at hQ; exact hQ)
theorem oget_val (x a n : Int) : Val (ACall C) K.f166 [.int .u64 x, .int .i64 a, .int .i64 n] (.int .u64 (oget x a n)) := fun H Q hQ => S.cl_f166 hT (by
  unfold S.f166
  refine oin_val hGT hT _ _ _ ?_
  simp only [aun_not, Do_of, Gd_true]
  unfold oget at hQ
  refine ite_both (fun h => ?_) (fun h => ?_)
  · have h : oin a = false := by simpa using h
    rw [h] at hQ
    exact hQ
  · have h : oin a = true := by simpa using h
    rw [if_pos h] at hQ
    have h0 : 0 ≤ a := by unfold oin at h; simp only [Bool.and_eq_true, decide_eq_true_eq] at h; exact h.1
    first
     | (rw [abin_shr _ _ _ _ h0]; simp only [Do_of]; refine omask_val hGT hT _ _ _ ?_; simp only [abin_and, Do_of]; exact hQ)
     | (refine omask_val hGT hT _ _ _ ?_; rw [abin_shr _ _ _ _ h0]; simp only [Do_of, abin_and]; exact hQ))
theorem oput_val (x a n v : Int) : Val (ACall C) K.f137 [.int .u64 x, .int .i64 a, .int .i64 n, .int .u64 v] (.int .u64 (oput x a n v)) := fun H Q hQ => S.cl_f137 hT (by
  unfold S.f137
  refine oin_val hGT hT _ _ _ ?_
  simp only [aun_not, Do_of, Gd_true]
  unfold oput at hQ
  refine ite_both (fun h => ?_) (fun h => ?_)
  · have h : oin a = false := by simpa using h
    rw [h] at hQ
    exact hQ
  · have h : oin a = true := by simpa using h
    rw [if_pos h] at hQ
    have h0 : 0 ≤ a := by unfold oin at h; simp only [Bool.and_eq_true, decide_eq_true_eq] at h; exact h.1
    refine omask_val hGT hT _ _ _ ?_
    rw [abin_shl _ _ _ _ h0]
    simp only [Do_of]
    rw [b_andn']
    simp only [Do_of]
    refine omask_val hGT hT _ _ _ ?_
    simp only [abin_and, Do_of]
    rw [abin_shl _ _ _ _ h0]
    simp only [Do_of, abin_or]
    exact hQ)
theorem operate_val (op a : Int) {b : Int} (hb : u64ok b) : Val (ACall C) K.f141 [.int .i64 op, .int .u64 a, .int .u64 b] (.int .u64 (operM op a b)) := fun H Q hQ => S.cl_f141 hT (operate_spec hb hQ)
variable {vars : List GVar} {s : RS} {lx px : AV} {H : AH} {id : Nat} {Q : Post}
theorem burn_ok (h : At H id (.row (rmC vars s lx px))) (hQ : ∀ H', KeepC id H H' → At H' id (.row (rmC vars s.burn lx px)) → Q (.tup []) H') : ACall C K.f76 [.ptr id 0] H Q := by
 refine S.cl_f76 hT ?_
 unfold S.f76
 unfold RS.burn at hQ
 simp only [anilck, afaddr, Nat.zero_add, rm_stop h, Do_of, Gd_true, rm_fuel h, abin_lss, JoinP_def]
 refine ite_both (fun e => ?_) (fun e => ?_)
 · rw [if_pos e] at hQ
   exact hQ H (KeepC.refl id H) h
 rw [if_neg e] at hQ
 refine ite_both (fun e2 => ?_) (fun e2 => ?_)
 · rw [if_pos (by simpa using e2)] at hQ
   have h1 := h.set (.row (rmC vars { s with stop := true } lx px))
   rw [rm_sstop h]
   simp only [Do_of]
   rw [rm_sempty h1]
   simp only [Do_of]
   have h2 := h1.set (.row (rmC vars { s with stop := true, empty := true } lx px))
   simp only [S.f76_k1, anilck, afaddr, Nat.zero_add, rm_fuel h2, Do_of, abin_sub, rm_sfuel h2]
   exact hQ _ ((KeepC.set id H _).trans ((KeepC.set id _ _).trans (KeepC.set id _ _))) (h2.set _)
 · rw [if_neg (by simpa using e2)] at hQ
   simp only [S.f76_k1, anilck, afaddr, Nat.zero_add, rm_fuel h, Do_of, abin_sub, rm_sfuel h]
   exact hQ _ (KeepC.set id H _) (h.set _)
theorem ansC_len (l : List (Int × Int)) : (l.flatMap ansC).length = l.length * 2 := by
 induction l with
 | nil => rfl
 | cons x r ih =>
  rw [List.flatMap_cons, List.length_append, ih, List.length_cons]
  show 2 + _ = _
  omega
theorem ask_ok (h : At H id (.row (rmC vars s lx px))) (w : WantM) (hQ : ∀ H', KeepC id H H' → At H' id (.row (rmC vars (s.ask w).1 lx px)) → Q (.agg [.int .u64 (s.ask w).2.1, .int .u64 (s.ask w).2.2]) H') : ACall C K.f106 [.ptr id 0, .agg w.cells] H Q := by
 refine S.cl_f106 hT ?_
 unfold S.f106
 have hb : aboxv H false 13 (.agg w.cells) = some (.fptr w.cells, H) := by unfold aboxv; rw [if_pos ⟨rfl, rfl⟩]; rfl
 simp only [hb, DoH_some, abox, if_true]
 have h1 := h.push (.row [.int .u64 0, .int .u64 0])
 have k1 := KeepC.push id H (.row [.int .u64 0, .int .u64 0])
 have r1 := At.new H (.row [.int .u64 0, .int .u64 0])
 have hne : H.n ≠ id := Ne.symm h.lt_new
 generalize H.push (.row [.int .u64 0, .int .u64 0]) = H1 at *
 have z2 : abuild [.int .u64 0, .int .u64 0] [] = some (.agg [.int .u64 0, .int .u64 0]) := rfl
 have ret : ∀ (H2 : AH) (a b c d : Int) (s' : RS), KeepC id H1 H2 → At H2 H.n (.row [.int .u64 c, .int .u64 d]) → At H2 id (.row (rmC vars s' lx px)) → (∀ H', KeepC id H H' → At H' id (.row (rmC vars s' lx px)) → Q (.agg [.int .u64 a, .int .u64 b]) H') →
   Do (astore H2 2 (.ptr H.n 0) (.agg [.int .u64 a, .int .u64 b])) fun H3 => Do (aload H3 2 true (.ptr H.n 0)) fun x => Q x H3 := by
  intro H2 a b c d s' k2 r2 h2 hq
  rw [r2.store, if_pos ⟨rfl, rfl, rfl, (by decide : 0 + 2 ≤ 2)⟩]
  simp only [Do_of]
  rw [(r2.set _).load, show takeCells (setCells [AV.int .u64 c, .int .u64 d] 0 (AV.agg [.int .u64 a, .int .u64 b]).cells) 0 2 true = some (.agg [.int .u64 a, .int .u64 b]) from rfl]
  simp only [Do_of]
  refine hq _ ⟨Nat.le_trans k1.1 k2.1, fun i o hi ho => ((k2.2 i o hi (k1.2 i o hi ho))).set_ne (Nat.ne_of_lt ho.1) _⟩ (h2.set_ne hne.symm _)
 simp only [anilck, afaddr, Nat.zero_add, rm_stop h1, Do_of, Gd_true, rm_ans h1, lstA_len', abin_eql, z2]
 refine ite_both (fun e => ?_) (fun e => ?_)
 · have ea : s.ask w = (s, 0, 0) := by unfold RS.ask; rw [if_pos e]
   rw [ea] at hQ
   exact ret H1 0 0 0 0 s (KeepC.refl id H1) r1 h1 hQ
 cases ha : s.ans with
 | nil =>
  have ea : s.ask w = ({ s with want := { w with line := s.line }, stop := true }, 0, 0) := by unfold RS.ask; rw [if_neg e, ha]
  rw [ea] at hQ
  rw [if_pos (by simp)]
  have la : aload H1 13 true (.fptr w.cells) = some (.agg w.cells) := takeCells_whole (n := 13) rfl
  rw [la]
  simp only [Do_of]
  rw [rm_swant h1]
  simp only [Do_of]
  have h2 := h1.set (.row (rmC vars { s with want := w } lx px))
  rw [rm_sstop h2]
  simp only [Do_of]
  have h3 := h2.set (.row (rmC vars { s with want := w, stop := true } lx px))
  rw [rm_line h3]
  simp only [Do_of]
  rw [rm_swline h3]
  simp only [Do_of]
  have h4 := h3.set (.row (rmC vars { s with want := { w with line := s.line }, stop := true } lx px))
  exact ret _ 0 0 0 0 _ ((KeepC.set id _ _).trans ((KeepC.set id _ _).trans (KeepC.set id _ _))) (((r1.set_ne hne _).set_ne hne _).set_ne hne _) h4 hQ
 | cons x r =>
  have ea : s.ask w = ({ s with ans := r }, x.1, x.2) := by unfold RS.ask; rw [if_neg e, ha]
  rw [ea] at hQ
  rw [if_neg (by simp; omega)]
  have hx0 : aiaddr none 2 (lstA ansC (x :: r)) (.int .i64 0) = some (.fptr ((x :: r).flatMap ansC)) := by
   show (if 0 ≤ (0 : Int) ∧ (0 : Int) < ((x :: r).length : Nat) then some (AV.fptr (((x :: r).flatMap ansC).drop ((0 : Int).toNat * 2))) else none) = _
   rw [if_pos ⟨Int.le_refl _, by simp⟩]; rfl
  have hxl : ∀ H, aload H 2 true (.fptr ((x :: r).flatMap ansC)) = some (.agg (ansC x)) := fun H => by
   show takeCells (ansC x ++ r.flatMap ansC) 0 2 true = _
   exact takeCells_app rfl
  have hsl : aslice 2 (lstA ansC (x :: r)) (some (.int .i64 1)) none none = some (lstA ansC r) := by
   show aslice 2 (.lst .dead (x :: r).length ((x :: r).flatMap ansC)) (some (.int .i64 1)) none none = some (.lst .dead r.length (r.flatMap ansC))
   simp only [aslice, abound, Option.map_none]
   rw [if_pos (by omega)]
   simp only [show (1 : Int).toNat = 1 from rfl]
   rw [if_pos ⟨by simp, Nat.le_refl _, ansC_len hGT hT _⟩, if_neg (by simp), if_neg (by simp)]
   have e1 : ((x :: r).flatMap ansC).take ((x :: r).length * 2) = (x :: r).flatMap ansC := List.take_of_length_le (by rw [ansC_len hGT hT]; exact Nat.le_refl _)
   rw [e1]
   rfl
  simp only [hx0, hxl, Do_of]
  rw [store_new H1 [.int .u64 0, .int .u64 0] (ansC x) 2 rfl rfl rfl]
  simp only [Do_of]
  have h2 := h1.push (.row (ansC x))
  have r2 := r1.push (.row (ansC x))
  have x2 := At.new H1 (.row (ansC x))
  have k2 := KeepC.push id H1 (.row (ansC x))
  have hne2 : H1.n ≠ id := Ne.symm h1.lt_new
  have hne3 : H1.n ≠ H.n := Ne.symm r1.lt_new
  generalize H1.push (.row (ansC x)) = H2 at *
  have hans : aload H2 1 false (.ptr id 1) = some (lstA ansC (x :: r)) := by rw [rm_ans h2, ha]
  rw [hans]
  simp only [Do_of, hsl]
  rw [rm_sans h2]
  simp only [Do_of]
  have x3 := x2.set_ne hne2 (.row (rmC vars { s with ans := r } lx px))
  rw [x3.load, show takeCells (ansC x) 0 2 true = some (.agg [.int .u64 x.1, .int .u64 x.2]) from rfl]
  simp only [Do_of]
  exact ret _ x.1 x.2 0 0 _ (k2.trans (KeepC.set id _ _)) (r2.set_ne hne _) (h2.set _) hQ
end
end Rb

namespace Rb
open Go
def OwnT (n0 : Nat) (H : AH) (sz : Nat) (x : AV) (len : Nat) (cells : List AV) : Prop :=
 ∃ tk, x = .lst tk len cells ∧ cells.length = len * sz ∧ ((tk = .nil ∧ len = 0) ∨ tk = .full ∨ ∃ t, tk = .own t ∧ n0 ≤ t ∧ At H t (.tok (len * sz) sz))
theorem OwnT.nil (n0 : Nat) (H : AH) (sz : Nat) : OwnT n0 H sz (.lst .nil 0 []) 0 [] := ⟨.nil, rfl, by simp, .inl ⟨rfl, rfl⟩⟩
theorem OwnT.frame {n0 : Nat} {H H' : AH} {sz len : Nat} {x : AV} {cells : List AV} (h : OwnT n0 H sz x len cells) (k : ∀ t a b, At H t (.tok a b) → At H' t (.tok a b)) : OwnT n0 H' sz x len cells := by
 obtain ⟨tk, hx, hc, ht⟩ := h
 refine ⟨tk, hx, hc, ?_⟩
 rcases ht with ht | ht | ⟨t, h1, h2, h3⟩
 · exact .inl ht
 · exact .inr (.inl ht)
 · exact .inr (.inr ⟨t, h1, h2, k t _ _ h3⟩)
def Left (n0 : Nat) (H H' : AH) : Prop := H.n ≤ H'.n ∧ ∀ i o, At H i o → (i < n0 ∨ ∀ a b, o ≠ .tok a b) → At H' i o
theorem OwnT.app {n0 sz bytes len m : Nat} {H : AH} {x y : AV} {cells news : List AV} {K : Post} (h : OwnT n0 H sz x len cells) (hn0 : n0 ≤ H.n) (hy : acells H sz y = some (m, news)) (hn : news.length = m * sz) (hs : news.all AV.scalar = true) (hm : m ≠ 0)
  (hb : (len + m) * bytes ≤ 140737488355328) (hl : len + m ≤ 9223372036854775807) (hK : ∀ x' H', OwnT n0 H' sz x' (len + m) (cells ++ news) → Left n0 H H' → K x' H') : DoH (aappend H false sz bytes x y) K := by
 obtain ⟨tk, rfl, hc, htk⟩ := h
 have hlen : (cells ++ news).length = (len + m) * sz := by simp [hc, hn, Nat.add_mul]
 have grow : ∀ tk : Tok, tk = .full ∨ (tk = .nil ∧ len = 0) → aappend H false sz bytes (.lst tk len cells) y = some (.lst (.own H.n) (len + m) (cells ++ news), H.push (.tok ((len + m) * sz) sz)) := by
  intro tk ht
  simp only [aappend, hy, hs, not_true_eq_false, if_false, if_neg hm]
  rw [if_neg (by simp only [Decidable.not_not]; exact ⟨hc, hb, hl⟩)]
  rcases ht with rfl | ⟨rfl, _⟩ <;> rfl
 have fresh : K (.lst (.own H.n) (len + m) (cells ++ news)) (H.push (.tok ((len + m) * sz) sz)) :=
  hK _ _ ⟨_, rfl, hlen, .inr (.inr ⟨H.n, rfl, hn0, At.new H _⟩)⟩ ⟨Nat.le_succ _, fun i o h _ => h.push _⟩
 rcases htk with ht | ht | ⟨t, rfl, h1, h2⟩
 · exact ⟨_, _, grow tk (.inr ht), fresh⟩
 · exact ⟨_, _, grow tk (.inl ht), fresh⟩
 · refine ⟨.lst (.own H.n) (len + m) (cells ++ news), (H.set t .gone).push (.tok ((len + m) * sz) sz), ?_, hK _ _ ⟨_, rfl, hlen, .inr (.inr ⟨H.n, rfl, hn0, At.new (H.set t .gone) _⟩)⟩ ⟨Nat.le_succ _, fun i o hi ho => (hi.set_ne (fun e => ?_) _).push _⟩⟩
   · simp only [aappend, hy, hs, not_true_eq_false, if_false, if_neg hm]
     rw [if_neg (by simp only [Decidable.not_not]; exact ⟨hc, hb, hl⟩)]
     simp [h2.2]
   · subst e
     rcases ho with ho | ho
     · omega
     · exact ho _ _ (hi.2.symm.trans h2.2)
theorem Left.row {n0 : Nat} {H H' : AH} {i : Nat} {cs : List AV} (k : Left n0 H H') (h : At H i (.row cs)) : At H' i (.row cs) := k.2 _ _ h (.inr fun _ _ e => by cases e)
end Rb

namespace Rb
open Go
theorem depFs_mem {m : Nat} : ∀ {l : List GField} {f : GField}, f ∈ l → depT m f.type ≤ depFs m l
 | g :: r, f, h => by
  rw [depFs]
  rcases List.mem_cons.1 h with rfl | h
  · rw [depF_eq]; omega
  · have := depFs_mem (m := m) h; omega
theorem depEs_mem {m : Nat} : ∀ {l : List GType} {f : GType}, f ∈ l → depT m f ≤ depEs m l
 | g :: r, f, h => by
  rw [depEs]
  rcases List.mem_cons.1 h with rfl | h
  · omega
  · have := depEs_mem (m := m) h; omega
theorem depFs_same {m k : Nat} : ∀ {l : List GField}, (∀ f ∈ l, depT m f.type = depT k f.type) → depFs m l = depFs k l
 | [], _ => by rw [depFs, depFs]
 | g :: r, h => by rw [depFs, depFs, depF_eq, depF_eq, h g (List.mem_cons_self ..), depFs_same fun f hf => h f (List.mem_cons_of_mem _ hf)]
theorem depEs_same {m k : Nat} : ∀ {l : List GType}, (∀ f ∈ l, depT m f = depT k f) → depEs m l = depEs k l
 | [], _ => by rw [depEs, depEs]
 | g :: r, h => by rw [depEs, depEs, h g (List.mem_cons_self ..), depEs_same fun f hf => h f (List.mem_cons_of_mem _ hf)]
theorem dep_more : ∀ (t : GType) (m : Nat), depT m t < m → depT (m + 1) t = depT m t := by
 refine GType.ind fun t ihf ihe m h => ?_
 rw [depT_eq] at h
 by_cases h1 : 1 < m
 · rw [if_pos h1] at h
   rw [depT_eq, depT_eq, if_pos (by omega), if_pos h1, Nat.add_sub_cancel]
   have e1 : depFs m t.fields = depFs (m - 1) t.fields := depFs_same fun f hf => by
    have := depFs_mem (m := m - 1) hf
    have := ihf f hf (m - 1) (by omega)
    rw [show m - 1 + 1 = m by omega] at this
    exact this
   have e2 : depEs m t.elem = depEs (m - 1) t.elem := depEs_same fun f hf => by
    have := depEs_mem (m := m - 1) hf
    have := ihe f hf (m - 1) (by omega)
    rw [show m - 1 + 1 = m by omega] at this
    exact this
   rw [e1, e2]
 · rw [if_neg h1] at h; omega
theorem sound_sub {t u : GType} (h : soundM t = 0) (hu : (∃ f ∈ t.fields, f.type = u) ∨ u ∈ t.elem) (hs : sndT u = 0) : soundM u = 0 := by
 have hd : ¬ 64 < depT 65 t := by
  intro e
  unfold soundM at h
  rw [if_pos e] at h
  cases h
 rw [depT_eq, if_pos (by decide)] at hd
 have : depT 64 u ≤ 63 := by
  rcases hu with ⟨f, hf, rfl⟩ | hu
  · have := depFs_mem (m := 64) hf
    simp only [show 65 - 1 = 64 from rfl] at hd
    omega
  · have := depEs_mem (m := 64) hu
    simp only [show 65 - 1 = 64 from rfl] at hd
    omega
 have e := dep_more u 64 (by omega)
 unfold soundM
 rw [if_neg (by rw [show (65 : Nat) = 64 + 1 from rfl, e]; omega), hs]
theorem placeFs_of {packed : Bool} {kind : Int} : ∀ {l : List GField} {p q : PL}, placeFs packed kind p l = some q → (∀ f ∈ l, (ofT f.type).2 = true) ∧ q.spots.length = p.spots.length + l.length
 | [], p, q, h => by
  simp only [placeFs, Option.some.injEq] at h
  subst h
  exact ⟨fun f hf => (by cases hf), rfl⟩
 | f :: r, p, q, h => by
  simp only [placeFs, ofF_eq] at h
  by_cases h1 : (ofT f.type).2 = true
  · rw [if_pos h1] at h
    obtain ⟨h2, h3⟩ := placeFs_of h
    refine ⟨fun g hg => ?_, ?_⟩
    · rcases List.mem_cons.1 hg with rfl | hg
      · exact h1
      · exact h2 g hg
    · have hl : (fieldM packed kind p f (ofT f.type).1).spots.length = p.spots.length + 1 := by
        unfold fieldM
        dsimp only
        split
        · unfold bitsM
          split <;> simp [sizeM]
        · simp [sizeM, plainM]
      rw [h3, hl, List.length_cons]; omega
  · rw [if_neg h1] at h; cases h
structure GType.lay (t : GType) : Prop where
 ok : t.ok
 snd : soundM t = 0
 torn : tornT t = false
 of : (ofT t).2 = true
theorem lay_of {t : GType} (ho : t.ok) (h : (layM t).2 = 0) : t.lay := by
 unfold layM at h
 by_cases h1 : soundM t ≠ 0
 · rw [if_pos h1] at h; exact absurd h h1
 · rw [if_neg h1] at h
   by_cases h2 : tornT t = true
   · rw [if_pos h2] at h
     have : (10 : Int) = 0 := h
     omega
   · rw [if_neg h2] at h
     by_cases h3 : (ofT t).2 = false
     · rw [if_pos h3] at h
       have : (9 : Int) = 0 := h
       omega
     · exact ⟨ho, by omega, by simpa using h2, by simpa using h3⟩
theorem GType.lay.zero {t : GType} (h : t.lay) : layM t = ((ofT t).1, 0) := by
 unfold layM
 rw [if_neg (by rw [h.snd]; decide), if_neg (by rw [h.torn]; decide), if_neg (by rw [h.of]; decide)]
theorem GType.ok_sub {t : GType} (h : t.ok) : (∀ f ∈ t.fields, f.type.ok) ∧ (∀ e ∈ t.elem, e.ok) ∧ t.fields.length ≤ 9223372036854775807 := by
 cases t with
 | mk kind size packed fields count elem =>
  obtain ⟨_, _, h1, h2, _, h3, h4⟩ := h
  refine ⟨fun f hf => ?_, GType.oks_iff.1 h4, by rw [← i64max]; exact h1⟩
  have := GField.oks_iff.1 h2 f hf
  cases f; exact this.2.1
theorem lay_elem {t e : GType} (h : t.lay) (hk : t.kind = 5) (he : e ∈ t.elem) : e.lay := by
 have hs := soundM_snd h.snd
 obtain ⟨e', he', hs'⟩ := snd_arr hs hk
 have hee : e = e' := by rw [he'] at he; simpa using he
 subst hee
 refine ⟨(GType.ok_sub h.ok).2.1 e he, sound_sub h.snd (.inr he) hs', ?_, ?_⟩
 · have ht := h.torn
   cases t with
   | mk kind size packed fields count elem =>
    rw [tornT] at ht
    simp only [Bool.or_eq_false_iff] at ht
    have := ht.1.2
    rw [tornEs_any, List.any_eq_false] at this
    simpa using this e he
 · have ho := h.of
   rw [ofT_eq, if_neg (by omega), if_pos hk, he'] at ho
   simp only [ofE, Bool.and_eq_true] at ho
   exact ho.1
theorem lay_place {t : GType} (h : t.lay) (hk : t.kind = 3 ∨ t.kind = 4) : ∃ p, placeFs t.packed t.kind ⟨0, 1, [], 0⟩ t.fields = some p ∧ upW p.size p.align ≤ 65536 ∧ p.spots.length = t.fields.length := by
 have ho := h.of
 rw [ofT_eq, if_neg (by omega), if_neg (by omega)] at ho
 cases hp : placeFs t.packed t.kind ⟨0, 1, [], 0⟩ t.fields with
 | none => rw [hp] at ho; cases ho
 | some p =>
  rw [hp] at ho
  refine ⟨p, rfl, by simpa using ho, ?_⟩
  have := (placeFs_of hp).2
  simpa using this
theorem lay_field {t : GType} {f : GField} (h : t.lay) (hk : t.kind = 3 ∨ t.kind = 4) (hf : f ∈ t.fields) : f.type.lay := by
 have hs := soundM_snd h.snd
 obtain ⟨p, hp, _⟩ := lay_place h hk
 refine ⟨(GType.ok_sub h.ok).1 f hf, sound_sub h.snd (.inl ⟨f, hf, rfl⟩) ((snd_grp hs hk).1 f hf), ?_, (placeFs_of hp).1 f hf⟩
 have ht := h.torn
 cases t with
 | mk kind size packed fields count elem =>
  rw [tornT] at ht
  simp only [Bool.or_eq_false_iff] at ht
  have := ht.2
  rw [tornFs_any, List.any_eq_false] at this
  simpa using this f hf
theorem spotsM_len {t : GType} (h : t.lay) (hk : t.kind = 3 ∨ t.kind = 4) : (spotsM t).length = t.fields.length := by
 obtain ⟨p, hp, _, hl⟩ := lay_place h hk
 unfold spotsM
 rw [hp]; exact hl
theorem lay_part {t : GType} {p : GPart} (h : t.lay) (h0 : (partM t p).1 = 0) :
  (p.index.length = 1 ∧ t.kind = 5 ∧ ∃ e r, t.elem = e :: r ∧ partM t p = (0, e) ∧ e.lay) ∨
  (p.index = [] ∧ (t.kind = 3 ∨ t.kind = 4) ∧ ∃ n f s, t.fields.findIdx? (fun f => f.name == p.field) = some n ∧ t.fields[n]? = some f ∧ (spotsM t)[n]? = some s ∧ partM t p = (0, f.type) ∧ f.type.lay) := by
 unfold partM at h0 ⊢
 by_cases c1 : 1 < p.index.length ∨ (p.index.length = 1 ↔ p.field ≠ [])
 · rw [if_pos c1] at h0
   have : (8 : Int) = 0 := h0
   omega
 rw [if_neg c1] at h0
 by_cases c2 : p.index.length = 1 ∧ t.kind = 5
 · rw [if_pos c2] at h0
   left
   cases he : t.elem with
   | nil =>
    rw [he] at h0
    have : (8 : Int) = 0 := h0
    omega
   | cons e r => exact ⟨c2.1, c2.2, e, r, rfl, by rw [if_neg c1, if_pos c2], lay_elem h c2.2 (by rw [he]; exact List.mem_cons_self ..)⟩
 rw [if_neg c2] at h0
 by_cases c3 : p.index.length = 1 ∨ ¬ (t.kind = 3 ∨ t.kind = 4)
 · rw [if_pos c3] at h0
   have : (8 : Int) = 0 := h0
   omega
 rw [if_neg c3] at h0
 have hk : t.kind = 3 ∨ t.kind = 4 := by omega
 right
 rcases find_idx (fun f : GField => f.name == p.field) t.fields with ⟨i, f, h1, h2, h3⟩ | ⟨h1, h2⟩
 · have hlt := (List.getElem?_eq_some_iff.1 h3).1
   have hl : i < (spotsM t).length := by rw [spotsM_len h hk]; exact hlt
   refine ⟨List.length_eq_zero_iff.1 (by omega), hk, i, f, (spotsM t)[i], h1, h3, List.getElem?_eq_getElem hl, ?_, lay_field h hk (List.mem_of_getElem? h3)⟩
   rw [if_neg c1, if_neg c2, if_neg c3, h2]
 · rw [h2] at h0
   have : (6 : Int) = 0 := h0
   omega
end Rb
