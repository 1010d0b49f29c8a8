/- A part of the proof (part 6): see the last text. -/
import Derived.Test.YtjnhnoldfbkgmaaGreatDoorRb5
import Derived.Test.YtjnhnoldfbkgmaaGreatDoorRb4
import Derived.Test.YtjnhnoldfbkgmaaGreatDoorRb2
import Derived.Test.YtjnhnoldfbkgmaaGreatDoorTie
import Derived.Test.YtjnhnoldfbkgmaaGreatDoorCards
import Derived.SizedLaws
set_option linter.unusedVariables false
set_option linter.unusedSimpArgs false
set_option linter.unusedSectionVars false
namespace Rb
open Go
def setM (s : FSt) (i : List Int) : FSt := (if gi i 0 = 5 then { s with z := (numM s i).1 == 0, c := decide (s.get (gi i 2) ≥ s.get (gi i 3)) } else s).put (gi i 1) (numM s i).1
def bodyM (s : FSt) (i : List Int) (g0 g1 : Int) (f : Bool) : FSt :=
 if gi i 0 = 30 then { s with wa := 0, wl := 0 } else
 if betw (gi i 0) 17 28 = true then acM s i g0 g1 f else
 if (numM s i).2 = true then setM s i else s
def pcM (s : FSt) (i : List Int) : Int := if takenM s i = true then IntKind.wrap .i64 (s.pc + gi i 6) else IntKind.wrap .i64 (s.pc + 1)
def nextM (s : FSt) (i : List Int) (g0 g1 : Int) (f : Bool) : FSt × Int := if sndI i = true then ({ bodyM s i g0 g1 f with pc := pcM s i }, 0) else (FSt.zero, 2)
theorem ok_pc {s : FSt} (h : s.ok) (x : Int) : ({ s with pc := x } : FSt).ok := ⟨h.len, h.u⟩
theorem ok_zc {s : FSt} (h : s.ok) (x y : Bool) : ({ s with z := x, c := y } : FSt).ok := ⟨h.len, h.u⟩
theorem bodyM_ok {s : FSt} (h : s.ok) {i : List Int} (hl : i.length = 7) (hs : sndI i = true) {g0 g1 : Int} {f : Bool} (h0 : U64 g0) (h1 : U64 g1) : (bodyM s i g0 g1 f).ok := by
 have hs0 : (encM i).2 = 0 := by simpa [sndI] using hs
 unfold bodyM
 refine ite_P FSt.ok (fun _ => ok_w h _ _) (fun _ => ?_)
 refine ite_P FSt.ok (fun _ => acM_ok h h0 h1) (fun _ => ?_)
 refine ite_P FSt.ok (fun _ => ?_) (fun _ => h)
 unfold setM
 refine FSt.put_ok ?_ (numM_u h hl hs0)
 exact ite_P FSt.ok (fun _ => ok_zc h _ _) (fun _ => h)
theorem nextM_ok {s : FSt} (h : s.ok) {i : List Int} (hl : i.length = 7) {g0 g1 : Int} {f : Bool} (h0 : U64 g0) (h1 : U64 g1) : (nextM s i g0 g1 f).1.ok := by
 unfold nextM
 exact ite_P (fun z : FSt × Int => z.1.ok) (fun hs => ok_pc (bodyM_ok h hl hs h0 h1) _) (fun _ => FSt.zero_ok)
section
variable {C : Ctx} (hGT : GTok C) (hT : Cl (ACall C) S.tab_Mch)
include hGT hT
theorem Next_ok {s : FSt} (h : s.ok) {i : List Int} (hl : i.length = 7) {g0 g1 : Int} (u0 : U64 g0) (u1 : U64 g1) (f : Bool) :
  Val (ACall C) K.f28 [.agg s.cells, .agg (IV i), .agg [.int .u64 g0, .int .u64 g1], .bool f] (.tup [.agg (nextM s i g0 g1 f).1.cells, .int .i64 (nextM s i g0 g1 f).2]) := by
 refine Val.of hGT (by simp only [AV.frozs, AV.froz, IV_froz, FSt.froz, Bool.and_self]) (by simp only [AV.frozs, AV.froz, FSt.froz, Bool.and_self]) fun Q hQ => S.cl_f28 hT ?_
 unfold S.f28
 have hg : ∀ H, aboxv H false 2 (.agg [.int .u64 g0, .int .u64 g1]) = some (.fptr [.int .u64 g0, .int .u64 g1], H) := fun H => by unfold aboxv; rw [if_pos ⟨rfl, rfl⟩]; rfl
 have hga : ∀ H, aload H 2 true (.fptr [AV.int .u64 g0, .int .u64 g1]) = some (.agg [.int .u64 g0, .int .u64 g1]) := fun H => rfl
 have i0 := fun H => iv_ld hl (show 0 < 7 by omega) H
 have i1 := fun H => iv_ld hl (show 1 < 7 by omega) H
 have i2 := fun H => iv_ld hl (show 2 < 7 by omega) H
 have i3 := fun H => iv_ld hl (show 3 < 7 by omega) H
 have i6 := fun H => iv_ld hl (show 6 < 7 by omega) H
 simp only [st_box hGT hT h, DoH_some, iv_box hl, hg, abox, if_true, iv_all hl, Do_of]
 have hz : ∀ x, x = FSt.zero.cells → x = FSt.zero.cells := fun _ e => e
 have a := (At.new AH.mt (.row s.cells)).push (.row FSt.zero.cells)
 have r := At.new (AH.mt.push (.row s.cells)) (.row FSt.zero.cells)
 have hne : AH.mt.n ≠ (AH.mt.push (.row s.cells)).n := (At.new AH.mt (.row s.cells)).lt_new
 change ACall C K.f34 [.agg (IV i)] ((AH.mt.push (.row s.cells)).push (.row FSt.zero.cells)) _
 generalize ((AH.mt.push (.row s.cells)).push (.row FSt.zero.cells)) = H0 at *
 generalize (AH.mt.push (.row s.cells)).n = ir at *
 generalize AH.mt.n = is at *
 refine snd_val hGT hT hl _ _ ?_
 simp only [aun_not, Do_of, Gd_true]
 unfold nextM at hQ
 have put36 : ∀ (H : AH) (t : FSt), t.ok → At H ir (.row FSt.zero.cells) → astore H 36 (.ptr ir 0) (.agg t.cells) = some (H.set ir (.row t.cells)) := by
  intro H t ht hr
  rw [hr.store, if_pos ⟨rfl, FSt.len36 ht, FSt.scalar t, (by decide : 0 + 36 ≤ 36)⟩]
  congr 3
  show setCells FSt.zero.cells 0 t.cells = t.cells
  rw [setCells_all (by rw [FSt.len36 ht]; rfl)]
  rfl
 refine u_ite (fun hc => ?_) (fun hc => ?_)
 · rw [if_neg (by simpa using hc)] at hQ
   refine ⟨AV.agg FSt.zero.cells, rfl, ?_⟩
   dsimp only
   rw [put36 _ _ FSt.zero_ok r]
   simp only [Do_of]
   rw [st_all FSt.zero_ok (r.set _)]
   simp only [Do_of]
   exact hQ _
 · have hs : sndI i = true := by simpa using hc
   rw [if_pos hs] at hQ
   have hs0 : (encM i).2 = 0 := by simpa [sndI] using hs
   have hD : 0 ≤ gi i 1 ∧ gi i 1 ≤ 31 := ins_reg hl hs0 (k := 1) (by omega) (by omega)
   have hN : 0 ≤ gi i 2 ∧ gi i 2 ≤ 31 := ins_reg hl hs0 (k := 2) (by omega) (by omega)
   have hM : 0 ≤ gi i 3 ∧ gi i 3 ≤ 31 := ins_reg hl hs0 (k := 3) (by omega) (by omega)
   simp only [afaddr, Nat.zero_add, Do_of]
   rw [st_lpc h a]
   simp only [Do_of, abin_add, iv_all hl]
   have k1 : ∀ (n : Int) (H : AH) (t : FSt), t.ok → At H is (.row t.cells) → At H ir (.row FSt.zero.cells) → n = pcM s i → t = bodyM s i g0 g1 f → S.f28_k1 (ACall C) (.ptr is 0) (.ptr ir 0) [.int .i64 n] Q [] H := by
    intro n H t ht at' rt hn hb
    simp only [S.f28_k1, sl_zero, afaddr, Nat.zero_add, Do_of]
    rw [st_pc ht at']
    simp only [Do_of]
    have a2 := at'.set (.row ({ t with pc := n } : FSt).cells)
    have r2 := rt.set_ne (Ne.symm hne) (.row ({ t with pc := n } : FSt).cells)
    rw [st_all (ok_pc ht n) a2]
    simp only [Do_of]
    rw [put36 _ _ (ok_pc ht n) r2]
    simp only [Do_of]
    rw [st_all (ok_pc ht n) (r2.set _)]
    simp only [Do_of]
    rw [hn, hb]
    exact hQ _
   have k3 : ∀ n : Int, n = pcM s i → S.f28_k3 (ACall C) (.bool f) (.ptr is 0) (.fptr (IV i)) (.fptr [.int .u64 g0, .int .u64 g1]) (.ptr ir 0) Q [.int .i64 n] H0 := by
    intro n hn
    simp only [S.f28_k3, iv_all hl, Do_of]
    refine num_ok hGT hT h hl hs0 a ?_
    simp only [aextract, List.getElem?_cons_zero, List.getElem?_cons_succ, Do_of, iv_addr, i0, abin_eql, Gd_true, JoinP_def]
    refine u_ite (fun h1 => ?_) (fun h1 => ?_)
    · rw [show abuild [.int .i64 0, .int .i64 0] [] = some (.agg [.int .i64 0, .int .i64 0]) from rfl]
      simp only [Do_of, afaddr, Nat.zero_add]
      rw [st_w h a]
      simp only [Do_of]
      refine k1 n _ _ (ok_w h 0 0) (a.set _) (r.set_ne (Ne.symm hne) _) hn ?_
      unfold bodyM
      rw [if_pos (beq_iff_eq.1 h1)]
    have h1' := beq_eq_false_iff_ne.1 h1
    refine mem_val hGT hT _ _ _ ?_
    simp only [Gd_true, hga, Do_of]
    refine u_ite (fun h2 => ?_) (fun h2 => ?_)
    · refine access_ok hGT hT h hl hs u0 u1 f a fun H1 a1 o1 => ?_
      refine k1 n _ _ (acM_ok h u0 u1) a1 (o1.at' r (Ne.symm hne)) hn ?_
      unfold bodyM
      rw [if_neg h1', if_pos h2]
    refine u_ite (fun h3 => ?_) (fun h3 => ?_)
    · have hb : bodyM s i g0 g1 f = setM s i := by
        unfold bodyM
        rw [if_neg h1', if_neg (by rw [h2]; decide), if_pos h3]
      have k2 : ∀ (H : AH) (t : FSt), t.ok → At H is (.row t.cells) → At H ir (.row FSt.zero.cells) → t = (if gi i 0 = 5 then { s with z := (numM s i).1 == 0, c := decide (s.get (gi i 2) ≥ s.get (gi i 3)) } else s) →
        S.f28_k2 (ACall C) (.ptr is 0) (.fptr (IV i)) (.ptr ir 0) (.int .u64 (numM s i).1) [.int .i64 n] Q [] H := by
       intro H t ht at' rt he
       simp only [S.f28_k2, iv_addr, i1, Do_of, JoinP_def]
       refine fput_ok hGT hT ht at' hD fun H1 a1 o1 => ?_
       refine k1 n _ _ (FSt.put_ok ht (numM_u h hl hs0)) a1 (o1.at' rt (Ne.symm hne)) hn ?_
       rw [hb, he]
       rfl
      refine u_ite (fun h4 => ?_) (fun h4 => ?_)
      · simp only [iv_addr, i2, i3, Do_of]
        refine fget_ok hGT hT h a hN ?_
        refine ⟨trivial, ?_⟩
        refine fget_ok hGT hT h a hM ?_
        simp only [abin_geq, Do_of, afaddr, Nat.zero_add]
        rw [st_z h a]
        simp only [Do_of]
        have hz' : ({ s with z := (numM s i).1 == 0 } : FSt).ok := ⟨h.len, h.u⟩
        rw [st_c hz' (a.set _)]
        simp only [Do_of]
        refine k2 _ _ (ok_zc h ((numM s i).1 == 0) (decide (s.get (gi i 2) ≥ s.get (gi i 3)))) ((a.set _).set _) ((r.set_ne (Ne.symm hne) _).set_ne (Ne.symm hne) _) ?_
        rw [if_pos (beq_iff_eq.1 h4)]
      · refine k2 _ _ h a r ?_
        rw [if_neg (beq_eq_false_iff_ne.1 h4)]
    · refine k1 n _ _ h a r hn ?_
      unfold bodyM
      rw [if_neg h1', if_neg (by rw [h2]; decide), if_neg (by rw [h3]; decide)]
   refine taken_ok hGT hT h hl hs0 a ?_
   simp only [Gd_true, JoinP_def]
   refine u_ite (fun h1 => ?_) (fun h1 => ?_)
   · rw [st_lpc h a]
     simp only [Do_of]
     rw [i6]
     simp only [Do_of, abin_add]
     refine k3 _ ?_
     unfold pcM
     rw [if_pos h1]
   · refine k3 _ ?_
     unfold pcM
     rw [if_neg (by rw [h1]; decide)]
end
end Rb

namespace Rb
open Go
abbrev I2 (a b : Int) : AV := .agg [.int .i64 a, .int .i64 b]
def spSound (a l : Int) : Bool := decide (a ≥ 0) && decide (a ≤ 1099511627776) && decide (l ≥ 0) && decide (l ≤ 1048576)
def spOf (a l : Int) : Int × Int := if spSound a l = true then (a, IntKind.wrap .i64 (a + l)) else (0, 0)
def spBoth (x y : Int × Int) : Int × Int := if max x.1 y.1 ≥ min x.2 y.2 then (0, 0) else (max x.1 y.1, min x.2 y.2)
def spMeets (a b : Int × Int) : Bool := !((spBoth (spOf a.1 a.2) (spOf b.1 b.2)).1 == (spBoth (spOf a.1 a.2) (spOf b.1 b.2)).2)
def spWithin (a b : Int × Int) : Bool := ((spOf a.1 a.2).1 == (spOf a.1 a.2).2) || (spBoth (spOf a.1 a.2) (spOf b.1 b.2) == spOf a.1 a.2)
theorem i2_box (a b : Int) (H : AH) : aboxv H false 2 (I2 a b) = some (.fptr [.int .i64 a, .int .i64 b], H) := by unfold aboxv; rw [if_pos ⟨rfl, rfl⟩]; rfl
theorem i2_0 (a b : Int) (H : AH) : aload H 1 false (.fptr [.int .i64 a, .int .i64 b]) = some (.int .i64 a) := rfl
theorem i2_1 (b : Int) (H : AH) : aload H 1 false (.fptr [.int .i64 b]) = some (.int .i64 b) := rfl
theorem i2_all (a b : Int) (H : AH) : aload H 2 true (.fptr [.int .i64 a, .int .i64 b]) = some (I2 a b) := rfl
theorem i2_a0 (a b : Int) : afaddr 0 (.fptr [.int .i64 a, .int .i64 b]) = some (.fptr [.int .i64 a, .int .i64 b]) := rfl
theorem i2_a1 (a b : Int) : afaddr 1 (.fptr [.int .i64 a, .int .i64 b]) = some (.fptr [.int .i64 b]) := rfl
theorem i2_b0 (a b : Int) : abuild [.int .i64 0, .int .i64 0] [(0, 1, AV.int .i64 a), (1, 1, .int .i64 b)] = some (I2 a b) := rfl
theorem i2_z : abuild [.int .i64 0, .int .i64 0] [] = some (I2 0 0) := rfl
theorem i2_new (H : AH) (a b : Int) : astore (H.push (.row [.int .i64 0, .int .i64 0])) 2 (.ptr H.n 0) (I2 a b) = some (H.push (.row [.int .i64 a, .int .i64 b])) := store_new H _ [.int .i64 a, .int .i64 b] 2 rfl rfl rfl
theorem i2_ld {H : AH} {id : Nat} {a b : Int} (h : At H id (.row [.int .i64 a, .int .i64 b])) : aload H 2 true (.ptr id 0) = some (I2 a b) := by rw [h.load]; exact takeCells_whole (n := 2) (a := [.int .i64 a, .int .i64 b]) rfl
theorem i2_st {H : AH} {id : Nat} {c d : Int} (h : At H id (.row [.int .i64 c, .int .i64 d])) (a b : Int) : astore H 2 (.ptr id 0) (I2 a b) = some (H.set id (.row [.int .i64 a, .int .i64 b])) := by
 rw [h.store, if_pos ⟨rfl, rfl, rfl, (by decide : 0 + 2 ≤ 2)⟩]; rfl
theorem mx (a b : Int) : aminmax true [.int .i64 a, .int .i64 b] = some (.int .i64 (max a b)) := by
 simp only [aminmax, mmAll, mm2, if_true]
 have e : (if a < b then b else a) = max a b := by split <;> omega
 first | rw [e] | (simp only [e]) | skip
 all_goals (try (congr 2; omega))
theorem mn (a b : Int) : aminmax false [.int .i64 a, .int .i64 b] = some (.int .i64 (min a b)) := by
 simp only [aminmax, mmAll, mm2, Bool.false_eq_true, if_false]
 have e : (if b < a then b else a) = min a b := by split <;> omega
 first | rw [e] | (simp only [e]) | skip
 all_goals (try (congr 2; omega))
section
variable {C : Ctx} (hGT : GTok C) (hT : Cl (ACall C) S.tab_Mch)
include hGT hT
theorem spSound_val (a l : Int) : Val (ACall C) K.f97 [I2 a l] (.bool (spSound a l)) := fun H Q hQ => S.cl_f97 hT (by
  unfold S.f97
  unfold spSound at hQ
  simp only [i2_box, DoH_some, i2_a0, i2_a1, i2_0, i2_1, Do_of, abin_geq, abin_leq, Gd3_true, JoinP_def, S.f97_k2, S.f97_k1, sl_zero]
  repeat' (refine u_ite (fun h => ?_) (fun h => ?_))
  all_goals simp_all)
theorem spOf_val (a l : Int) : Val (ACall C) K.f67 [I2 a l] (I2 (spOf a l).1 (spOf a l).2) := Val.of hGT rfl rfl fun Q hQ => S.cl_f67 hT (by
  unfold S.f67
  unfold spOf at hQ
  simp only [i2_box, DoH_some, abox, if_true, i2_all, Do_of]
  refine spSound_val hGT hT _ _ _ _ ?_
  simp only [aun_not, Do_of, Gd_true, i2_z, i2_a0, i2_a1, i2_0, i2_1, abin_add, i2_b0]
  refine u_ite (fun h => ?_) (fun h => ?_)
  · rw [if_neg (by simpa using h)] at hQ
    rw [i2_new]
    simp only [Do_of]
    rw [i2_ld (At.new _ _)]
    simp only [Do_of]
    exact hQ _
  · rw [if_pos (by simpa using h)] at hQ
    rw [i2_new]
    simp only [Do_of]
    rw [i2_ld (At.new _ _)]
    simp only [Do_of]
    exact hQ _)
theorem spEmpty_val (a l : Int) : Val (ACall C) K.f68 [I2 a l] (.bool (a == l)) := fun H Q hQ => S.cl_f68 hT (by
  unfold S.f68
  simp only [i2_box, DoH_some, i2_a0, i2_a1, i2_0, i2_1, Do_of, abin_eql]
  exact hQ)
theorem spBoth_val (x y : Int × Int) : Val (ACall C) K.f69 [I2 x.1 x.2, I2 y.1 y.2] (I2 (spBoth x y).1 (spBoth x y).2) := Val.of hGT rfl rfl fun Q hQ => S.cl_f69 hT (by
  unfold S.f69
  unfold spBoth at hQ
  simp only [i2_box, DoH_some, abox, if_true, i2_a0, i2_a1, i2_0, i2_1, Do_of, mx, mn, i2_b0, i2_z]
  rw [i2_new]
  have r := (At.new AH.mt (.row [.int .i64 0, .int .i64 0])).push (.row [.int .i64 (max x.1 y.1), .int .i64 (min x.2 y.2)])
  have w := At.new (AH.mt.push (.row [.int .i64 0, .int .i64 0])) (.row [.int .i64 (max x.1 y.1), .int .i64 (min x.2 y.2)])
  generalize ((AH.mt.push (.row [.int .i64 0, .int .i64 0])).push (.row [.int .i64 (max x.1 y.1), .int .i64 (min x.2 y.2)])) = H1 at *
  generalize (AH.mt.push (.row [.int .i64 0, .int .i64 0])).n = iw at *
  generalize AH.mt.n = ir at *
  simp only [Do_of, afaddr, Nat.add_zero, Nat.zero_add]
  rw [w.load, show takeCells [AV.int .i64 (max x.1 y.1), .int .i64 (min x.2 y.2)] 0 1 false = some (.int .i64 (max x.1 y.1)) from rfl]
  simp only [Do_of]
  rw [w.load, show takeCells [AV.int .i64 (max x.1 y.1), .int .i64 (min x.2 y.2)] 1 1 false = some (.int .i64 (min x.2 y.2)) from rfl]
  simp only [Do_of, abin_geq, Gd_true]
  refine u_ite (fun h => ?_) (fun h => ?_)
  · rw [if_pos (by simpa using h)] at hQ
    rw [i2_st r]
    simp only [Do_of]
    rw [i2_ld (r.set _)]
    simp only [Do_of]
    exact hQ _
  · rw [if_neg (by simpa using h)] at hQ
    rw [i2_ld w]
    simp only [Do_of]
    rw [i2_st r]
    simp only [Do_of]
    rw [i2_ld (r.set _)]
    simp only [Do_of]
    exact hQ _)
theorem spMeets_val (a b : Int × Int) : Val (ACall C) K.f45 [I2 a.1 a.2, I2 b.1 b.2] (.bool (spMeets a b)) := Val.of hGT rfl rfl fun Q hQ => S.cl_f45 hT (by
  unfold S.f45
  simp only [i2_box, DoH_some, i2_all, Do_of]
  refine spOf_val hGT hT _ _ _ _ ?_
  refine ⟨trivial, ?_⟩
  refine spOf_val hGT hT _ _ _ _ ?_
  refine spBoth_val hGT hT _ _ _ _ ?_
  refine spEmpty_val hGT hT _ _ _ _ ?_
  simp only [aun_not, Do_of]
  exact hQ _)
theorem spWithin_val (a b : Int × Int) : Val (ACall C) K.f42 [I2 a.1 a.2, I2 b.1 b.2] (.bool (spWithin a b)) := Val.of hGT rfl rfl fun Q hQ => S.cl_f42 hT (by
  unfold S.f42
  unfold spWithin at hQ
  simp only [i2_box, DoH_some, i2_all, Do_of]
  refine spOf_val hGT hT _ _ _ _ ?_
  simp only [abox, if_true, DoH_some]
  rw [i2_new]
  have w := At.new AH.mt (.row [.int .i64 (spOf a.1 a.2).1, .int .i64 (spOf a.1 a.2).2])
  generalize AH.mt.push (.row [.int .i64 (spOf a.1 a.2).1, .int .i64 (spOf a.1 a.2).2]) = H1 at *
  generalize AH.mt.n = iw at *
  have hw := i2_ld w
  simp only [Do_of, hw]
  refine spEmpty_val hGT hT _ _ _ _ ?_
  simp only [Gd3_false, hw, Do_of]
  refine u_itef (fun h => ?_) (fun h => ?_)
  · rw [h, Bool.false_or] at hQ
    refine spOf_val hGT hT _ _ _ _ ?_
    refine ⟨fun _ => hw, fun _ => hw, ?_⟩
    refine spBoth_val hGT hT _ _ _ _ ?_
    refine ⟨fun _ => hw, ?_⟩
    rw [show aeqAgg false [.n, .n] (I2 (spBoth (spOf a.1 a.2) (spOf b.1 b.2)).1 (spBoth (spOf a.1 a.2) (spOf b.1 b.2)).2) (I2 (spOf a.1 a.2).1 (spOf a.1 a.2).2) = some (.bool (spBoth (spOf a.1 a.2) (spOf b.1 b.2) == spOf a.1 a.2)) by
      simp [aeqAgg, eqCells]
      rfl]
    simp only [Do_of]
    exact hQ _
  · rw [h, Bool.true_or] at hQ
    refine ⟨fun e => (by cases e), fun e => (by cases e), fun e => (by cases e), hQ _⟩)
end
end Rb

namespace Rb
open Go
def BSl (H : AH) (x : AV) (bs : List Int) : Prop :=
 (∃ id o cs, x = .row id o bs.length 1 ∧ At H id (.row cs) ∧ (cs.drop o).take bs.length = bs.map (AV.int .u8) ∧ o + bs.length ≤ cs.length) ∨ (bs = [] ∧ x = .lst .dead 0 [])
theorem BSl.len {H : AH} {x : AV} {bs : List Int} (h : BSl H x bs) : alen false x = some (.int .i64 bs.length) := by
 rcases h with ⟨id, o, cs, rfl, _⟩ | ⟨rfl, rfl⟩ <;> rfl
theorem BSl.upto {H : AH} {x : AV} {bs : List Int} (h : BSl H x bs) {n : Nat} (hn : n ≤ bs.length) : ∃ y, aslice 1 x none (some (.int .i64 n)) none = some y ∧ BSl H y (bs.take n) := by
 rcases h with ⟨id, o, cs, rfl, ha, hc, hl⟩ | ⟨rfl, rfl⟩
 · refine ⟨.row id o n 1, ?_, .inl ⟨id, o, cs, by rw [List.length_take, Nat.min_eq_left hn], ha, ?_, by rw [List.length_take, Nat.min_eq_left hn]; omega⟩⟩
   · simp only [aslice, abound, Option.map_none]
     rw [if_pos (by omega)]
     simp [hn]
   · rw [List.length_take, Nat.min_eq_left hn, List.map_take, ← hc, List.take_take, Nat.min_eq_left hn]
 · have : n = 0 := by simpa using hn
   subst this
   exact ⟨.lst .dead 0 [], rfl, .inr ⟨rfl, rfl⟩⟩
theorem BSl.get {H : AH} {x : AV} {bs : List Int} (h : BSl H x bs) {k : Nat} {b : Int} {r : List Int} (hk : bs.drop k = b :: r) : ∃ p, aiaddr none 1 x (.int .i64 k) = some p ∧ aload H 1 false p = some (.int .u8 b) := by
 obtain ⟨hlt, hx, _⟩ := drop_cons_lt hk
 rcases h with ⟨id, o, cs, rfl, ha, hc, hl⟩ | ⟨rfl, rfl⟩
 · refine ⟨.ptr id (o + k), ?_, ?_⟩
   · show (if 0 ≤ (k : Int) ∧ (k : Int) < (bs.length : Nat) then some (AV.ptr id (o + (k : Int).toNat * 1)) else none) = _
     rw [if_pos ⟨by omega, by omega⟩]
     simp
   · rw [ha.load]
     unfold takeCells
     rw [if_pos (by omega), if_neg (by decide)]
     have e : ((cs.drop o).take bs.length)[k]? = some (.int .u8 b) := by rw [hc, List.getElem?_map, hx]; rfl
     rw [List.getElem?_take, if_pos hlt, List.getElem?_drop] at e
     exact e
 · simp at hlt
def numL : List Int → Int → Int → Int
 | [], _, acc => acc
 | b :: r, k, acc => numL r (k + 1) (uor .u64 acc (ushl .u64 (IntKind.wrap .u64 b) (8 * k)))
def numB8 (bs : List Int) : Int := numL (bs.take 8) 0 0
theorem numL_u : ∀ (bs : List Int) (k acc : Int), U64 acc → U64 (numL bs k acc)
 | [], _, _, h => h
 | _ :: r, _, _, _ => numL_u r _ _ (U64.wrap _)
theorem numB8_u (bs : List Int) : U64 (numB8 bs) := numL_u _ _ _ ⟨by decide, by decide⟩
section
variable {C : Ctx} (hGT : GTok C) (hT : Cl (ACall C) S.tab_Mch)
include hGT hT
theorem Number_ok {H : AH} {x : AV} {bs : List Int} (h : BSl H x bs) {Q : Post} (hQ : Q (.int .u64 (numB8 bs)) H) : ACall C K.f43 [x] H Q := by
 refine S.cl_f43 hT ?_
 unfold S.f43
 rw [h.len]
 simp only [Do_of, mn]
 obtain ⟨y, hy, hb⟩ := h.upto (n := min bs.length 8) (Nat.min_le_left _ _)
 have e : (min (bs.length : Int) 8) = ((min bs.length 8 : Nat) : Int) := by omega
 rw [e, hy]
 simp only [Do_of]
 rw [hb.len]
 simp only [Do_of]
 have eb : bs.take (min bs.length 8) = bs.take 8 := by
  rcases Nat.le_total bs.length 8 with h | h
  · rw [Nat.min_eq_left h, List.take_of_length_le (Nat.le_refl _), List.take_of_length_le h]
  · rw [Nat.min_eq_right h]
 rw [eb] at hb ⊢
 unfold numB8 at hQ
 have h8 : (bs.take 8).length ≤ 8 := by rw [List.length_take]; omega
 generalize bs.take 8 = cs at *
 have main : ∀ (r : List Int) (k : Nat) (acc : Int), cs.drop k = r → Q (.int .u64 (numL r k acc)) H → LoopP (S.f43_l1 (ACall C) y (.int .i64 cs.length) Q) ([.int .u64 acc, .int .i64 k], H) := by
  intro r
  induction r with
  | nil =>
   intro k acc hd hQ
   have hle := drop_nil_le hd
   refine LoopP.step ?_
   simp only [S.f43_l1, sl_zero, sl_succ, abin_lss, Do_of, Gd_true]
   rw [if_neg (by simp only [decide_eq_true_eq]; omega)]
   exact hQ
  | cons b r ih =>
   intro k acc hd hQ
   obtain ⟨hlt, hx, hd'⟩ := drop_cons_lt hd
   refine LoopP.step ?_
   simp only [S.f43_l1, sl_zero, sl_succ, abin_lss, Do_of, Gd_true]
   rw [if_pos (by simp only [decide_eq_true_eq]; omega)]
   obtain ⟨p, hp1, hp2⟩ := hb.get hd
   rw [hp1]
   simp only [Do_of]
   rw [hp2]
   simp only [Do_of, aconv_int, abin_mul]
   have ew : IntKind.wrap .i64 (8 * (k : Int)) = 8 * k := wrap_i64 (by omega) (by omega)
   rw [ew, b_shl _ _ _ _ (by omega)]
   simp only [Do_of, b_or, abin_add]
   rw [wrap_i64 (by omega) (by omega), show ((k : Int) + 1) = ((k + 1 : Nat) : Int) by simp]
   refine ih (k + 1) _ hd' ?_
   rw [show ((k + 1 : Nat) : Int) = (k : Int) + 1 by simp]
   exact hQ
 exact main cs 0 0 rfl hQ
end
end Rb

namespace Rb
open Go
def bytN (n : Int) : Nat := (min (max n 0) 8).toNat
def bytF (x : Int) (k : Nat) : Int := IntKind.wrap .u8 (ushr .u64 x (8 * k))
def bytM (x n : Int) : List Int := (List.range (bytN n)).map (bytF x)
def bytC (x : Int) (m k : Nat) : List AV := (List.range m).map fun j => .int .u8 (if j < k then bytF x j else 0)
theorem bytC_0 (x : Int) (m : Nat) : (List.replicate m [AV.int .u8 0]).flatten = bytC x m 0 := by
 unfold bytC
 apply List.ext_getElem?
 intro j
 have e : ∀ m : Nat, (List.replicate m [AV.int .u8 0]).flatten = List.replicate m (AV.int .u8 0) := by
  intro m
  induction m with
  | zero => rfl
  | succ m ih => rw [List.replicate_succ, List.flatten_cons, ih]; rfl
 rw [e]
 by_cases h : j < m
 · simp [h]
 · rw [List.getElem?_eq_none (by simpa using h), List.getElem?_eq_none (by simpa using h)]
theorem bytC_m (x : Int) (m : Nat) : bytC x m m = ((List.range m).map (bytF x)).map (AV.int .u8) := by
 unfold bytC
 rw [List.map_map]
 apply List.map_congr_left
 intro j hj
 rw [if_pos (List.mem_range.1 hj)]
 rfl
theorem bytC_set (x : Int) {m k : Nat} (h : k < m) : setCells (bytC x m k) k [.int .u8 (bytF x k)] = bytC x m (k + 1) := by
 show (bytC x m k).set k _ = _
 unfold bytC
 apply List.ext_getElem?
 intro j
 rw [List.getElem?_set]
 by_cases hj : k = j
 · subst hj
   simp [h]
 · rw [if_neg hj]
   by_cases hm : j < m
   · simp only [List.getElem?_map, List.getElem?_range hm, Option.map_some]
     by_cases hk : j < k
     · rw [if_pos hk, if_pos (by omega)]
     · rw [if_neg hk, if_neg (by omega)]
   · rw [List.getElem?_eq_none (by simpa using hm), List.getElem?_eq_none (by simpa using hm)]
section
variable {C : Ctx} (hGT : GTok C) (hT : Cl (ACall C) S.tab_Mch)
include hGT hT
theorem Bytes_val (x n : Int) : Val (ACall C) K.f44 [.int .u64 x, .int .i64 n] (.lst .dead (bytN n) ((bytM x n).map (AV.int .u8))) := by
 refine Val.of hGT rfl ?_ fun Q hQ => S.cl_f44 hT ?_
 · show ((AV.frozs ((bytM x n).map (AV.int .u8))) : Bool) = true
   rw [frozs_all, List.all_eq_true]
   intro c hc
   obtain ⟨x, _, rfl⟩ := List.mem_map.1 hc
   rfl
 unfold S.f44
 simp only [mx, Do_of, mn]
 have hm : min (max n 0) 8 = ((bytN n : Nat) : Int) := by unfold bytN; omega
 have h8 : bytN n ≤ 8 := by unfold bytN; omega
 rw [hm]
 unfold bytM at hQ
 generalize bytN n = m at *
 have e : amake AH.mt true 1 1 [.int .u8 0] (.int .i64 m) (.int .i64 m) = some (.row AH.mt.n 0 m 1, AH.mt.push (.row (bytC x m 0))) := by
  simp only [amake]
  rw [if_pos ⟨by omega, by omega, by omega, by omega, rfl⟩, if_pos trivial, Int.toNat_natCast, bytC_0]
 rw [e]
 simp only [DoH_some, alen_row, Do_of]
 have main : ∀ (r k : Nat) (H : AH), k + r = m → At H AH.mt.n (.row (bytC x m k)) → LoopP (S.f44_l2 (ACall C) (.int .u64 x) (.row AH.mt.n 0 m 1) (.int .i64 m) Q) ([.int .i64 k], H) := by
  intro r
  induction r with
  | zero =>
   intro k H hk a
   refine LoopP.step ?_
   simp only [S.f44_l2, sl_zero, abin_lss, Do_of, Gd_true]
   rw [if_neg (by simp only [decide_eq_true_eq]; omega)]
   simp only [JoinP_def, S.f44_k1]
   have : k = m := by omega
   subst this
   have hl : (bytC x k k).length = k := by simp [bytC]
   rw [show afreeze H (.row AH.mt.n 0 k 1) = some (.lst .dead k (bytC x k k), H.set AH.mt.n .gone) by
     simp only [afreeze, a.2]
     rw [if_pos (by rw [hl]; omega), List.drop_zero, List.take_of_length_le (by rw [hl]; omega)]]
   simp only [DoH_some]
   rw [bytC_m]
   exact hQ _
  | succ r ih =>
   intro k H hk a
   refine LoopP.step ?_
   simp only [S.f44_l2, sl_zero, abin_lss, Do_of, Gd_true]
   rw [if_pos (by simp only [decide_eq_true_eq]; omega)]
   simp only [abin_mul, Do_of]
   have ew : IntKind.wrap .i64 (8 * (k : Int)) = 8 * k := wrap_i64 (by omega) (by omega)
   rw [ew, b_shr _ _ _ _ (by omega)]
   simp only [Do_of, aconv_int]
   rw [show aiaddr none 1 (.row AH.mt.n 0 m 1) (.int .i64 k) = some (.ptr AH.mt.n k) by
     show (if 0 ≤ (k : Int) ∧ (k : Int) < (m : Nat) then some (AV.ptr AH.mt.n (0 + (k : Int).toNat * 1)) else none) = _
     rw [if_pos ⟨by omega, by omega⟩]; simp]
   simp only [Do_of]
   rw [a.store, if_pos ⟨rfl, rfl, rfl, by simp [bytC]; omega⟩]
   simp only [Do_of, abin_add]
   rw [show (AV.int .u8 (IntKind.wrap .u8 (ushr .u64 x (8 * (k : Int))))).cells = [.int .u8 (bytF x k)] from rfl, bytC_set x (by omega)]
   rw [wrap_i64 (by omega) (by omega), show ((k : Int) + 1) = ((k + 1 : Nat) : Int) by simp]
   exact ih (k + 1) _ (by omega) (a.set _)
 exact main m 0 _ (by omega) (At.new _ _)
end
end Rb

namespace Rb
open Go
def stkBad (n size k : Int) : Prop := k < 0 ∨ k ≥ n ∨ k ≥ 8 ∨ size < 0 ∨ size > 65536
instance (n size k : Int) : Decidable (stkBad n size k) := by unfold stkBad; infer_instance
section
variable {C : Ctx} (hGT : GTok C) (hT : Cl (ACall C) S.tab_Mch)
include hGT hT
end
end Rb

namespace Rb
open Go
structure Thd where
 code : List (List Int)
 sites : List (Int × Int × Int)
 st : FSt
 prints : List Int
 fin : Int
structure Mch where
 ths : List Thd
 bytes : List Int
 size : Int
 taken : Int
def Thd.codeC (t : Thd) : List AV := t.code.flatMap IV
def siteV (s : Int × Int × Int) : List AV := [.int .i64 s.1, .int .i64 s.2.1, .int .i64 s.2.2]
def Thd.siteC (t : Thd) : List AV := t.sites.flatMap siteV
def prV (t : Thd) : Option Nat → AV
 | none => .lst .nil 0 []
 | some k => .lst (.own k) t.prints.length (t.prints.map (AV.int .u64))
def Thd.cells (t : Thd) (ct sk : Tok) (tk : Option Nat) : List AV := [.lst ct t.code.length t.codeC, .lst sk t.sites.length t.siteC] ++ (t.st.cells ++ [prV t tk, .int .i64 t.fin])
structure Thd.ok (t : Thd) : Prop where
 st : t.st.ok
 code : ∀ i ∈ t.code, i.length = 7
 len : t.sites.length = t.code.length
 pr : t.prints.length ≤ 1000000000
structure ThM (H : AH) (id : Nat) (tk : Option Nat) (t : Thd) : Prop where
 row : ∃ ct sk, At H id (.row (t.cells ct sk tk))
 tok : match tk with | none => t.prints = [] | some k => At H k (.tok t.prints.length 1)
structure MS (H : AH) (im ib : Nat) (ids : List Nat) (tks : List (Option Nat)) (m : Mch) : Prop where
 row : ∃ tt, At H im (.row [.lst tt m.ths.length (ids.map fun i => .ptr i 0), .row ib 0 m.bytes.length 1, .int .i64 m.size, .int .i64 m.taken])
 bytes : At H ib (.row (m.bytes.map (AV.int .u8)))
 idl : ids.length = m.ths.length
 tkl : tks.length = m.ths.length
 nd : (im :: ib :: ids).Nodup
 nt : ∀ (a b k : Nat), tks[a]? = some (some k) → tks[b]? = some (some k) → a = b
 ths : ∀ (k : Nat) (t : Thd), m.ths[k]? = some t → ∃ i tk, ids[k]? = some i ∧ tks[k]? = some tk ∧ ThM H i tk t
def FP (im ib : Nat) (ids : List Nat) (tks : List (Option Nat)) (j : Nat) : Prop := j = im ∨ j = ib ∨ j ∈ ids ∨ some j ∈ tks
theorem ThM.frame {H H' : AH} {id : Nat} {tk : Option Nat} {t : Thd} (h : ThM H id tk t) (hn : H.n ≤ H'.n) (ho : H'.o id = H.o id) (hk : ∀ k, tk = some k → H'.o k = H.o k) : ThM H' id tk t := by
 obtain ⟨⟨ct, sk, a⟩, hq⟩ := h
 refine ⟨⟨ct, sk, Nat.lt_of_lt_of_le a.1 hn, ho.trans a.2⟩, ?_⟩
 cases tk with
 | none => exact hq
 | some k => exact ⟨Nat.lt_of_lt_of_le hq.1 hn, (hk k rfl).trans hq.2⟩
theorem MS.frame {H H' : AH} {im ib : Nat} {ids : List Nat} {tks : List (Option Nat)} {m : Mch} (h : MS H im ib ids tks m) (hn : H.n ≤ H'.n) (ho : ∀ j, FP im ib ids tks j → H'.o j = H.o j) : MS H' im ib ids tks m where
 row := by
  obtain ⟨tt, a⟩ := h.row
  exact ⟨tt, Nat.lt_of_lt_of_le a.1 hn, (ho _ (.inl rfl)).trans a.2⟩
 bytes := ⟨Nat.lt_of_lt_of_le h.bytes.1 hn, (ho _ (.inr (.inl rfl))).trans h.bytes.2⟩
 idl := h.idl
 tkl := h.tkl
 nd := h.nd
 nt := h.nt
 ths := fun k t hk => by
  obtain ⟨i, tk, h1, h2, h3⟩ := h.ths k t hk
  exact ⟨i, tk, h1, h2, h3.frame hn (ho _ (.inr (.inr (.inl (List.mem_of_getElem? h1))))) fun j hj => ho _ (.inr (.inr (.inr (by rw [← hj]; exact List.mem_of_getElem? h2))))⟩
theorem MS.lt {H : AH} {im ib : Nat} {ids : List Nat} {tks : List (Option Nat)} {m : Mch} (h : MS H im ib ids tks m) {j : Nat} (hj : FP im ib ids tks j) : j < H.n := by
 rcases hj with rfl | rfl | hj | hj
 · obtain ⟨_, a⟩ := h.row; exact a.1
 · exact h.bytes.1
 · obtain ⟨k, hk, rfl⟩ := List.mem_iff_getElem.1 hj
   have hm : k < m.ths.length := by rw [← h.idl]; exact hk
   obtain ⟨i, tk, h1, h2, ⟨_, _, a⟩, _⟩ := h.ths k m.ths[k] (List.getElem?_eq_getElem hm)
   rw [List.getElem?_eq_getElem hk] at h1
   cases h1
   exact a.1
 · obtain ⟨k, hk, e⟩ := List.mem_iff_getElem.1 hj
   have hm : k < m.ths.length := by rw [← h.tkl]; exact hk
   obtain ⟨i, tk, h1, h2, _, ht⟩ := h.ths k m.ths[k] (List.getElem?_eq_getElem hm)
   rw [List.getElem?_eq_getElem hk, e] at h2
   cases h2
   exact ht.1
structure Mv (H H' : AH) (im ib : Nat) (ids : List Nat) (tks tks' : List (Option Nat)) : Prop where
 n : H.n ≤ H'.n
 o : ∀ j, j < H.n → ¬ FP im ib ids tks j → H'.o j = H.o j
 t : ∀ j, some j ∈ tks' → some j ∈ tks ∨ H.n ≤ j
theorem Mv.refl (H : AH) (im ib : Nat) (ids : List Nat) (tks : List (Option Nat)) : Mv H H im ib ids tks tks := ⟨Nat.le_refl _, fun _ _ _ => rfl, fun _ h => .inl h⟩
theorem Mv.ext {H H' : AH} (h : AH.Ext H H') (im ib : Nat) (ids : List Nat) (tks : List (Option Nat)) : Mv H H' im ib ids tks tks := ⟨h.1, fun j hj _ => h.2 j hj, fun _ h => .inl h⟩
theorem Mv.trans {a b c : AH} {im ib : Nat} {ids : List Nat} {t1 t2 t3 : List (Option Nat)} (h : Mv a b im ib ids t1 t2) (k : Mv b c im ib ids t2 t3) : Mv a c im ib ids t1 t3 where
 n := Nat.le_trans h.n k.n
 o := fun j hj hf => by
  rw [k.o j (Nat.lt_of_lt_of_le hj h.n) ?_, h.o j hj hf]
  intro e
  rcases e with e | e | e | e
  · exact hf (.inl e)
  · exact hf (.inr (.inl e))
  · exact hf (.inr (.inr (.inl e)))
  · rcases h.t j e with e | e
    · exact hf (.inr (.inr (.inr e)))
    · omega
 t := fun j hj => by
  rcases k.t j hj with e | e
  · exact h.t j e
  · exact .inr (Nat.le_trans h.n e)
theorem MS.beside {H H' : AH} {im ib jm jb : Nat} {ids jds : List Nat} {tks tks' sks : List (Option Nat)} {m : Mch} (h : MS H jm jb jds sks m) (v : Mv H H' im ib ids tks tks') (hd : ∀ j, FP im ib ids tks j → ¬ FP jm jb jds sks j) :
  MS H' jm jb jds sks m ∧ ∀ j, FP im ib ids tks' j → ¬ FP jm jb jds sks j := by
 refine ⟨h.frame v.n fun j hj => v.o j (h.lt hj) fun e => hd j e hj, fun j hj hk => ?_⟩
 rcases hj with e | e | e | e
 · exact hd j (.inl e) hk
 · exact hd j (.inr (.inl e)) hk
 · exact hd j (.inr (.inr (.inl e))) hk
 · rcases v.t j e with e | e
   · exact hd j (.inr (.inr (.inr e))) hk
   · have := h.lt hk; omega
end Rb

namespace Rb
open Go
theorem setCells_left : ∀ (ys xs t : List AV) (k : Nat), k + ys.length ≤ xs.length → setCells (xs ++ t) k ys = setCells xs k ys ++ t
 | [], xs, t, k, _ => rfl
 | v :: r, xs, t, k, h => by
  show setCells ((xs ++ t).set k v) (k + 1) r = setCells (xs.set k v) (k + 1) r ++ t
  rw [List.length_cons] at h
  rw [List.set_append_left _ _ (by omega), setCells_left r (xs.set k v) t (k + 1) (by simp; omega)]
theorem takeCells_mid {a s r : List AV} {k n o : Nat} (agg : Bool) (h : k + n ≤ s.length) (h1 : agg = false → n = 1) (ho : o = a.length + k) : takeCells (a ++ (s ++ r)) o n agg = takeCells s k n agg := by
 subst ho
 unfold takeCells
 rw [if_pos (by simp; omega), if_pos h]
 cases agg with
 | true =>
  simp only [if_true]
  rw [← List.drop_drop, List.drop_append_length, List.drop_append_of_le_length (by omega), List.take_append_of_le_length (by rw [List.length_drop]; omega)]
 | false =>
  have := h1 rfl
  simp only [Bool.false_eq_true, if_false]
  rw [List.getElem?_append_right (by omega), Nat.add_sub_cancel_left, List.getElem?_append_left (by omega)]
section
variable {H : AH} {id : Nat} {t : Thd} {ct sk : Tok} {tk : Option Nat} (ho : t.ok) (a : At H id (.row (t.cells ct sk tk)))
include ho a
theorem td_len : (t.cells ct sk tk).length = 40 := by simp [Thd.cells, FSt.len36 ho.st]
theorem td_code : aload H 1 false (.ptr id 0) = some (.lst ct t.code.length t.codeC) := by
 rw [a.load]
 unfold takeCells
 rw [if_pos (by rw [td_len ho a]; omega), if_neg (by decide)]
 rfl
theorem td_sites : aload H 1 false (.ptr id 1) = some (.lst sk t.sites.length t.siteC) := by
 rw [a.load]
 unfold takeCells
 rw [if_pos (by rw [td_len ho a]; omega), if_neg (by decide)]
 rfl
theorem td_st : aload H 36 true (.ptr id 2) = some (.agg t.st.cells) := by
 rw [a.load]
 unfold Thd.cells
 rw [takeCells_mid true (k := 0) (by rw [FSt.len36 ho.st]; omega) (fun e => by cases e) (by rfl), takeCells_whole (FSt.len36 ho.st)]
theorem td_pc : aload H 1 false (.ptr id 33) = some (.int .i64 t.st.pc) := by
 rw [a.load]
 unfold Thd.cells
 rw [takeCells_mid false (k := 31) (by rw [FSt.len36 ho.st]; omega) (fun e => rfl) (by rfl), st_at ho.st (k := 0) rfl]
theorem td_w : aload H 2 true (.ptr id 36) = some (I2 t.st.wa t.st.wl) := by
 rw [a.load]
 unfold Thd.cells
 rw [takeCells_mid true (k := 34) (by rw [FSt.len36 ho.st]; omega) (fun e => by cases e) (by rfl)]
 unfold takeCells
 rw [if_pos (by rw [FSt.len36 ho.st]; omega), if_pos rfl]
 have := ho.st.len
 unfold FSt.cells
 rw [show (34 : Nat) = (t.st.x.map (AV.int .u64)).length + 3 by simp [this], ← List.drop_drop, List.drop_append_length]
 rfl
theorem td_x {n : Nat} (hn : n < 31) : aload H 1 false (.ptr id (2 + n)) = some (.int .u64 (t.st.x.getD n 0)) := by
 rw [a.load]
 unfold Thd.cells
 rw [takeCells_mid false (k := n) (by rw [FSt.len36 ho.st]; omega) (fun e => rfl) (by rfl), st_x ho.st hn]
theorem td_tail (k : Nat) (v : AV) (hv : [prV t tk, .int .i64 t.fin][k]? = some v) : aload H 1 false (.ptr id (38 + k)) = some v := by
 have hk : k < 2 := by
  rcases Nat.lt_or_ge k 2 with h | h
  · exact h
  · rw [List.getElem?_eq_none (by simpa using h)] at hv; cases hv
 rw [a.load]
 unfold takeCells
 rw [if_pos (by rw [td_len ho a]; omega), if_neg (by decide)]
 unfold Thd.cells
 rw [List.getElem?_append_right (by simp; omega), List.getElem?_append_right (by rw [FSt.len36 ho.st]; simp; omega), FSt.len36 ho.st]
 rw [show 38 + k - [AV.lst ct t.code.length t.codeC, .lst sk t.sites.length t.siteC].length - 36 = k by simp; omega]
 exact hv
theorem td_pr : aload H 1 false (.ptr id 38) = some (prV t tk) := td_tail ho a 0 _ rfl
theorem td_fin : aload H 1 false (.ptr id 39) = some (.int .i64 t.fin) := td_tail ho a 1 _ rfl
theorem td_setst {s' : FSt} (hs : s'.ok) : astore H 36 (.ptr id 2) (.agg s'.cells) = some (H.set id (.row (({ t with st := s' } : Thd).cells ct sk tk))) := by
 rw [a.store, if_pos ⟨rfl, FSt.len36 hs, FSt.scalar s', by rw [td_len ho a]; decide⟩]
 congr 3
 show setCells ([.lst ct t.code.length t.codeC, .lst sk t.sites.length t.siteC] ++ (t.st.cells ++ [prV t tk, .int .i64 t.fin])) (2 + 0) s'.cells = _
 rw [show (2 : Nat) = [AV.lst ct t.code.length t.codeC, .lst sk t.sites.length t.siteC].length from rfl, setCells_right, setCells_left _ _ _ _ (by rw [FSt.len36 ho.st, FSt.len36 hs]; decide), setCells_all (by rw [FSt.len36 ho.st, FSt.len36 hs])]
 rfl
theorem td_setw (x y : Int) : astore H 2 (.ptr id 36) (I2 x y) = some (H.set id (.row (({ t with st := { t.st with wa := x, wl := y } } : Thd).cells ct sk tk))) := by
 rw [a.store, if_pos ⟨rfl, rfl, rfl, by rw [td_len ho a]; decide⟩]
 congr 3
 show setCells ([.lst ct t.code.length t.codeC, .lst sk t.sites.length t.siteC] ++ (t.st.cells ++ [prV t tk, .int .i64 t.fin])) (2 + 34) [.int .i64 x, .int .i64 y] = _
 rw [show (2 : Nat) = [AV.lst ct t.code.length t.codeC, .lst sk t.sites.length t.siteC].length from rfl, setCells_right, setCells_left _ _ _ _ (by rw [FSt.len36 ho.st]; simp), show (34 : Nat) = 31 + 3 from rfl, st_tail ho.st 3]
 rfl
theorem td_setfin (v : Int) : astore H 1 (.ptr id 39) (.int .i64 v) = some (H.set id (.row (({ t with fin := v } : Thd).cells ct sk tk))) := by
 rw [a.store, if_pos ⟨rfl, rfl, rfl, by rw [td_len ho a]; decide⟩]
 congr 3
 show setCells ([.lst ct t.code.length t.codeC, .lst sk t.sites.length t.siteC] ++ (t.st.cells ++ [prV t tk, .int .i64 t.fin])) (2 + 37) [.int .i64 v] = _
 rw [show (2 : Nat) = [AV.lst ct t.code.length t.codeC, .lst sk t.sites.length t.siteC].length from rfl, setCells_right, show (37 : Nat) = t.st.cells.length + 1 by rw [FSt.len36 ho.st], setCells_right]
 rfl
theorem td_setpr (p : List Int) (tk' : Option Nat) (hv : (prV { t with prints := p } tk').scalar = true) (hk : (prV { t with prints := p } tk').known = true) (hc : (prV { t with prints := p } tk').cells = [prV { t with prints := p } tk']) : astore H 1 (.ptr id 38) (prV { t with prints := p } tk') = some (H.set id (.row (({ t with prints := p } : Thd).cells ct sk tk'))) := by
 rw [a.store, if_pos ⟨hk, by rw [hc]; rfl, by rw [hc]; simpa using hv, by rw [td_len ho a]; decide⟩, hc]
 congr 3
 show setCells ([.lst ct t.code.length t.codeC, .lst sk t.sites.length t.siteC] ++ (t.st.cells ++ [prV t tk, .int .i64 t.fin])) (2 + 36) [prV { t with prints := p } tk'] = _
 rw [show (2 : Nat) = [AV.lst ct t.code.length t.codeC, .lst sk t.sites.length t.siteC].length from rfl, setCells_right, show (36 : Nat) = t.st.cells.length + 0 by rw [FSt.len36 ho.st], setCells_right]
 rfl
end
end Rb

namespace Rb
open Go
section
variable {H : AH} {im ib : Nat} {ids : List Nat} {tks : List (Option Nat)} {m : Mch} (h : MS H im ib ids tks m)
include h
theorem ms_ths : ∃ tt, aload H 1 false (.ptr im 0) = some (.lst tt m.ths.length (ids.map fun i => .ptr i 0)) := by
 obtain ⟨tt, a⟩ := h.row
 exact ⟨tt, by rw [a.load]; rfl⟩
theorem ms_bytes : aload H 1 false (.ptr im 1) = some (.row ib 0 m.bytes.length 1) := by
 obtain ⟨tt, a⟩ := h.row
 rw [a.load]; rfl
theorem ms_size : aload H 1 false (.ptr im 2) = some (.int .i64 m.size) := by
 obtain ⟨tt, a⟩ := h.row
 rw [a.load]; rfl
theorem ms_taken : aload H 1 false (.ptr im 3) = some (.int .i64 m.taken) := by
 obtain ⟨tt, a⟩ := h.row
 rw [a.load]; rfl
theorem ms_at (tt : Tok) {k i : Nat} (hi : ids[k]? = some i) : ∃ p, aiaddr none 1 (.lst tt m.ths.length (ids.map fun i => .ptr i 0)) (.int .i64 k) = some p ∧ ∀ H, aload H 1 false p = some (.ptr i 0) := by
 have hlt : k < ids.length := by
  rcases Nat.lt_or_ge k ids.length with h | h
  · exact h
  · rw [List.getElem?_eq_none h] at hi; cases hi
 refine ⟨.fptr ((ids.map fun i => AV.ptr i 0).drop k), ?_, fun H => ?_⟩
 · show (if 0 ≤ (k : Int) ∧ (k : Int) < (m.ths.length : Nat) then some (AV.fptr ((ids.map fun i => AV.ptr i 0).drop ((k : Int).toNat * 1))) else none) = _
   rw [if_pos ⟨by omega, by rw [← h.idl]; omega⟩, Int.toNat_natCast, Nat.mul_one]
 · show takeCells ((ids.map fun i => AV.ptr i 0).drop k) 0 1 false = _
   unfold takeCells
   rw [if_pos (by simp; omega), if_neg (by decide)]
   simp [hi]
end
section
variable {C : Ctx} (hGT : GTok C) (hT : Cl (ACall C) S.tab_Mch)
include hGT hT
theorem at_ok {H : AH} {im ib : Nat} {ids : List Nat} {tks : List (Option Nat)} {m : Mch} (h : MS H im ib ids tks m) (n : Int) {Q : Post}
  (h0 : (n < 0 ∨ n ≥ m.ths.length) → Q .nilp H) (h1 : ∀ (k i : Nat) (t : Thd) (tk : Option Nat), n = k → m.ths[k]? = some t → ids[k]? = some i → tks[k]? = some tk → ThM H i tk t → Q (.ptr i 0) H) : ACall C K.f21 [.ptr im 0, .int .i64 n] H Q := by
 refine S.cl_f21 hT ?_
 unfold S.f21
 obtain ⟨tt, ht⟩ := ms_ths h
 simp only [anil, AV.isNil, Option.map_some, Do_of, Gd3_false, Bool.false_eq_true, if_false, if_true, abin_lss, JoinP_def]
 have k2 : ∀ b : Bool, (b = true ↔ (n < 0 ∨ n ≥ m.ths.length)) → S.f21_k2 (ACall C) (.ptr im 0) (.int .i64 n) Q [.bool b] H := by
  intro b hb
  simp only [S.f21_k2, sl_zero, Gd_true, JoinP_def, S.f21_k1, anilck, afaddr, Nat.zero_add, ht, Do_of]
  refine u_ite (fun e => h0 (hb.1 e)) (fun e => ?_)
  have hn : ¬ (n < 0 ∨ n ≥ m.ths.length) := fun e' => by rw [hb.2 e'] at e; cases e
  obtain ⟨k, rfl⟩ : ∃ k : Nat, n = k := ⟨n.toNat, by omega⟩
  have hk : k < m.ths.length := by omega
  obtain ⟨i, tk, hi, htk, hth⟩ := h.ths k m.ths[k] (List.getElem?_eq_getElem hk)
  obtain ⟨p, hp1, hp2⟩ := ms_at h tt hi
  rw [hp1]
  simp only [Do_of, hp2]
  exact h1 k i _ tk rfl (List.getElem?_eq_getElem hk) hi htk hth
 simp only [S.f21_k3, sl_zero, Gd3_false, anilck, afaddr, Nat.zero_add, ht, Do_of, alen_lst, abin_geq, JoinP_def]
 refine u_itef (fun e => k2 _ ?_) (fun e => k2 _ ?_)
 · simp only [decide_eq_false_iff_not, decide_eq_true_eq] at e ⊢; omega
 · simp only [decide_eq_true_eq] at e
   simp only [true_iff]; omega
def inM (t : Thd) : Bool := decide (t.st.pc ≥ 0) && decide (t.st.pc < t.code.length)
theorem in_ok {H : AH} {i : Nat} {tk : Option Nat} {t : Thd} (ho : t.ok) (h : ThM H i tk t) {Q : Post} (hQ : Q (.bool (inM t)) H) : ACall C K.f22 [.ptr i 0] H Q := by
 refine S.cl_f22 hT ?_
 unfold S.f22
 unfold inM at hQ
 obtain ⟨ct, sk, a⟩ := h.row
 have e1 := td_pc ho a
 have e2 := td_code ho a
 simp only [anilck, afaddr, Nat.zero_add, Nat.reduceAdd, e1, e2, Do_of, abin_geq, Gd3_true, alen_lst, abin_lss]
 refine u_ite (fun e => ?_) (fun e => ?_) <;> rw [e] at hQ <;> exact hQ
theorem there_ok {H : AH} {im ib : Nat} {ids : List Nat} {tks : List (Option Nat)} {m : Mch} (h : MS H im ib ids tks m) (x l : Int) {Q : Post} (hQ : Q (.bool (decide (x ≥ 65536) && spWithin (x, l) (65536, m.bytes.length))) H) : ACall C K.f24 [.ptr im 0, I2 x l] H Q := by
 refine S.cl_f24 hT ?_
 unfold S.f24
 have hb := ms_bytes h
 simp only [i2_box, DoH_some, i2_a0, i2_0, i2_all, Do_of, abin_geq, Gd3_true]
 refine u_ite (fun e => ?_) (fun e => ?_)
 · rw [e] at hQ
   simp only [anilck, afaddr, Nat.zero_add, hb, alen_row, i2_b0, Do_of]
   exact spWithin_val hGT hT (x, l) (65536, m.bytes.length) _ _ hQ
 · rw [e] at hQ; exact hQ
end
end Rb

namespace Rb
open Go
def stopsM (t : Thd) (i : List Int) : Thd :=
 if gi i 0 = 32 then { t with fin := 2 } else
 if gi i 0 = 31 ∧ gi i 6 = 0 then { t with fin := 1 } else
 if gi i 0 = 31 ∧ gi i 6 ≤ 31 then { t with prints := t.prints ++ [t.st.x.getD (gi i 6 - 1).toNat 0] } else
 if gi i 0 = 31 then { t with fin := 2 } else t
structure Tv (H H' : AH) (id : Nat) (tk tk' : Option Nat) : Prop where
 n : H.n ≤ H'.n
 o : ∀ j, j < H.n → j ≠ id → tk ≠ some j → H'.o j = H.o j
 t : tk' = tk ∨ ∃ k, tk' = some k ∧ H.n ≤ k
theorem Tv.set (H : AH) (id : Nat) (tk : Option Nat) (x : AObj) : Tv H (H.set id x) id tk tk := ⟨Nat.le_refl _, fun j _ hj _ => AH.set_ne H x hj, .inl rfl⟩
theorem ThM.set {H : AH} {id : Nat} {tk : Option Nat} {t t' : Thd} (h : ThM H id tk t) (hp : t'.prints = t.prints) (ct sk : Tok) : ThM (H.set id (.row (t'.cells ct sk tk))) id tk t' := by
 obtain ⟨⟨ct0, sk0, a⟩, hq⟩ := h
 refine ⟨⟨ct, sk, a.set _⟩, ?_⟩
 cases tk with
 | none => exact hp.trans hq
 | some k =>
  have hne : k ≠ id := hq.ne a (by intro e; cases e)
  show At _ k (.tok t'.prints.length 1)
  rw [hp]
  exact hq.set_ne hne _
theorem app_ok {H : AH} {id : Nat} {tk : Option Nat} {t : Thd} (ho : t.ok) (h : ThM H id tk t) (v : Int) {K : AV → AH → Prop}
  (hK : ∀ (k : Nat) (H' : AH), Tv H H' id tk (some k) → (∀ ct sk, At H id (.row (t.cells ct sk tk)) → At H' id (.row (t.cells ct sk tk))) → At H' k (.tok (t.prints ++ [v]).length 1) → K (prV { t with prints := t.prints ++ [v] } (some k)) H') :
  DoH (aappend H false 1 8 (prV t tk) (.lst .full 1 [.int .u64 v])) K := by
 have hl := ho.pr
 obtain ⟨⟨ct0, sk0, a⟩, hq⟩ := h
 cases tk with
 | none =>
  have hp : t.prints = [] := hq
  have e : aappend H false 1 8 (prV t none) (.lst .full 1 [.int .u64 v]) = some (prV { t with prints := t.prints ++ [v] } (some H.n), H.push (.tok 1 1)) := by
   simp only [prV, hp]
   rfl
  rw [e, DoH_some]
  refine hK H.n _ ⟨Nat.le_succ _, fun j hj _ _ => AH.push_ne H _ (Nat.ne_of_lt hj), .inr ⟨H.n, rfl, Nat.le_refl _⟩⟩ (fun ct sk a => a.push _) ?_
  rw [hp]
  exact At.new H _
 | some k =>
  have hk : At H k (.tok t.prints.length 1) := hq
  have hne : id ≠ k := Ne.symm (hk.ne a (by intro e; cases e))
  have e : aappend H false 1 8 (prV t (some k)) (.lst .full 1 [.int .u64 v]) = some (prV { t with prints := t.prints ++ [v] } (some H.n), (H.set k .gone).push (.tok (t.prints ++ [v]).length 1)) := by
   have hc : (t.prints.map (AV.int .u64)).length = t.prints.length * 1 := by simp
   simp only [aappend, acells, prV, List.length_singleton, Nat.one_mul, if_true]
   rw [if_neg (by simp [AV.scalar]), if_neg (by decide), if_neg (by simp; omega)]
   simp only [hk.2]
   rw [if_pos (by simp)]
   simp
  rw [e, DoH_some]
  refine hK H.n _ ⟨Nat.le_succ _, fun j hj _ hjk => ?_, .inr ⟨H.n, rfl, Nat.le_refl _⟩⟩ (fun ct sk a => (a.set_ne hne _).push _) ?_
  · rw [AH.push_ne (H.set k .gone) _ (show j ≠ (H.set k .gone).n from Nat.ne_of_lt hj), AH.set_ne _ _ (fun e => hjk (by rw [e]))]
  · exact At.new (H.set k .gone) _
section
variable {C : Ctx} (hGT : GTok C) (hT : Cl (ACall C) S.tab_Mch)
include hGT hT
theorem stops_ok {H : AH} {id : Nat} {tk : Option Nat} {t : Thd} (ho : t.ok) (h : ThM H id tk t) {i : List Int} (hl : i.length = 7) (hi : gi i 0 = 31 → 0 ≤ gi i 6) {Q : Post}
  (hQ : ∀ H' tk', ThM H' id tk' (stopsM t i) → Tv H H' id tk tk' → Q (.tup []) H') : ACall C K.f25 [.ptr id 0, .agg (IV i)] H Q := by
 refine S.cl_f25 hT ?_
 unfold S.f25
 unfold stopsM at hQ
 obtain ⟨ct, sk, a⟩ := h.row
 have i0 := fun H => iv_ld hl (show 0 < 7 by omega) H
 have i6 := fun H => iv_ld hl (show 6 < 7 by omega) H
 have fin : ∀ v : Int, (∀ H' tk', ThM H' id tk' { t with fin := v } → Tv H H' id tk tk' → Q (.tup []) H') → Do (astore H 1 (.ptr id 39) (.int .i64 v)) fun H8 => Q (.tup []) H8 := by
  intro v hv
  rw [td_setfin ho a]
  simp only [Do_of]
  exact hv _ _ (h.set (t' := { t with fin := v }) (by rfl) ct sk) (Tv.set H id tk _)
 simp only [iv_box hl, DoH_some, iv_addr, i0, i6, Do_of, abin_eql, Gd_true, Gd3_true, anilck, JoinP_def]
 refine u_ite (fun h1 => ?_) (fun h1 => ?_)
 · rw [if_pos (beq_iff_eq.1 h1)] at hQ
   simp only [afaddr, Nat.zero_add, Do_of]
   exact fin 2 hQ
 rw [if_neg (beq_eq_false_iff_ne.1 h1)] at hQ
 have k1 : ∀ b : Bool, (b = true ↔ gi i 0 = 31 ∧ gi i 6 ≤ 31) → ¬ (gi i 0 = 31 ∧ gi i 6 = 0) → S.f25_k1 (ACall C) (.ptr id 0) (.fptr (IV i)) Q [.bool b] H := by
  intro b hb hz
  rw [if_neg hz] at hQ
  simp only [S.f25_k1, sl_zero, Gd_true, iv_addr, i0, i6, Do_of, abin_eql, anilck, abin_sub]
  refine u_ite (fun h2 => ?_) (fun h2 => ?_)
  · obtain ⟨e1, e2⟩ := hb.1 h2
    rw [if_pos ⟨e1, e2⟩] at hQ
    have e0 := hi e1
    have e3 : gi i 6 ≠ 0 := fun e => hz ⟨e1, e⟩
    simp only [afaddr, Nat.zero_add, Nat.add_zero, Do_of, td_pr ho a]
    rw [wrap_i64 (by omega) (by omega)]
    obtain ⟨k, hk⟩ : ∃ k : Nat, gi i 6 - 1 = k := ⟨(gi i 6 - 1).toNat, by omega⟩
    rw [hk] at hQ ⊢
    rw [show aiaddr (some 31) 1 (.ptr id 2) (.int .i64 k) = some (.ptr id (2 + k)) by
      show (if 0 ≤ (k : Int) ∧ (k : Int) < (31 : Nat) then some (AV.ptr id (2 + (k : Int).toNat * 1)) else none) = _
      rw [if_pos ⟨by omega, by omega⟩]; simp]
    simp only [Do_of]
    rw [td_x ho a (by omega)]
    simp only [Do_of]
    rw [show abslice H false 1 1 [.int .u64 0] [(0, 1, AV.int .u64 (t.st.x.getD k 0))] = some (.lst .full 1 [.int .u64 (t.st.x.getD k 0)], H) from rfl]
    simp only [DoH_some]
    refine app_ok ho h _ fun j H' tv ha hj => ?_
    have a' := ha ct sk a
    rw [td_setpr ho a' (t.prints ++ [t.st.x.getD k 0]) (some j) rfl rfl rfl]
    simp only [Do_of]
    have hne : j ≠ id := hj.ne a' (by intro e; cases e)
    refine hQ _ (some j) ⟨⟨ct, sk, a'.set _⟩, hj.set_ne hne _⟩ ⟨tv.n, fun q hq hqi hqk => ?_, tv.t⟩
    rw [AH.set_ne _ _ hqi]
    exact tv.o q hq hqi hqk
  · have hnb : ¬ (gi i 0 = 31 ∧ gi i 6 ≤ 31) := fun e => by rw [hb.2 e] at h2; cases h2
    rw [if_neg hnb] at hQ
    refine u_ite (fun h3 => ?_) (fun h3 => ?_)
    · rw [if_pos (beq_iff_eq.1 h3)] at hQ
      simp only [afaddr, Nat.zero_add, Do_of]
      exact fin 2 hQ
    · rw [if_neg (beq_eq_false_iff_ne.1 h3)] at hQ
      exact hQ H tk h ⟨Nat.le_refl _, fun _ _ _ _ => rfl, .inl rfl⟩
 have k2 : ∀ b : Bool, (b = true ↔ gi i 0 = 31 ∧ gi i 6 = 0) → S.f25_k2 (ACall C) (.ptr id 0) (.fptr (IV i)) Q [.bool b] H := by
  intro b hb
  simp only [S.f25_k2, sl_zero, Gd_true, iv_addr, i0, i6, Do_of, abin_eql, anilck, Gd3_true, abin_leq, JoinP_def]
  refine u_ite (fun h2 => ?_) (fun h2 => ?_)
  · rw [if_pos (hb.1 h2)] at hQ
    simp only [afaddr, Nat.zero_add, Do_of]
    exact fin 1 hQ
  · have hz : ¬ (gi i 0 = 31 ∧ gi i 6 = 0) := fun e => by rw [hb.2 e] at h2; cases h2
    refine u_ite (fun h3 => ?_) (fun h3 => ?_)
    · refine k1 _ ?_ hz
      simp only [decide_eq_true_eq]
      exact ⟨fun e => ⟨beq_iff_eq.1 h3, e⟩, fun e => e.2⟩
    · refine k1 _ ⟨fun e => (by cases e), fun e => absurd e.1 (beq_eq_false_iff_ne.1 h3)⟩ hz
 refine u_ite (fun h2 => ?_) (fun h2 => ?_)
 · refine k2 _ ⟨fun e => ⟨beq_iff_eq.1 h2, beq_iff_eq.1 e⟩, fun e => beq_iff_eq.2 e.2⟩
 · refine k2 _ ⟨fun e => (by cases e), fun e => absurd e.1 (beq_eq_false_iff_ne.1 h2)⟩
end
end Rb

namespace Rb
open Go
def partB (bs : List Int) (o l : Nat) : List Int := (bs.drop o).take l
theorem row_part {H : AH} {ib : Nat} {bs : List Int} (a : At H ib (.row (bs.map (AV.int .u8)))) {o l : Nat} (h : o + l ≤ bs.length) : BSl H (.row ib o l 1) (partB bs o l) := by
 have hl : (partB bs o l).length = l := by simp [partB]; omega
 refine .inl ⟨ib, o, bs.map (AV.int .u8), by rw [hl], a, ?_, by rw [hl, List.length_map]; exact h⟩
 rw [hl]
 simp [partB, List.map_take, List.map_drop]
def readM (m : Mch) (x l : Int) : Int × Int :=
 let bs := partB m.bytes (x - 65536).toNat l.toNat
 (numB8 (bs.take 8), numB8 (bs.drop 8))
section
variable {C : Ctx} (hGT : GTok C) (hT : Cl (ACall C) S.tab_Mch)
include hGT hT
theorem read_ok {H : AH} {im ib : Nat} {ids : List Nat} {tks : List (Option Nat)} {m : Mch} (h : MS H im ib ids tks m) {x l : Int} (hx : 65536 ≤ x) (hl : 1 ≤ l) (hb : x - 65536 + l ≤ m.bytes.length) (hm : m.bytes.length ≤ 1000000000) {Q : Post}
  (hQ : ∀ H', AH.Ext H H' → Q (.agg [.int .u64 (readM m x l).1, .int .u64 (readM m x l).2]) H') : ACall C K.f26 [.ptr im 0, I2 x l] H Q := by
 refine S.cl_f26 hT ?_
 unfold S.f26
 have h1 := h.frame (H' := H.push (.row [.int .u64 0, .int .u64 0])) (Nat.le_succ _) (fun j hj => AH.push_ne H _ (Nat.ne_of_lt (h.lt hj)))
 have hbt := ms_bytes h1
 obtain ⟨o, ho⟩ : ∃ o : Nat, x - 65536 = o := ⟨(x - 65536).toNat, by omega⟩
 obtain ⟨n, hn⟩ : ∃ n : Nat, l = n := ⟨l.toNat, by omega⟩
 subst hn
 unfold readM at hQ
 rw [ho] at hQ
 simp only [Int.toNat_natCast] at hQ
 simp only [i2_box, DoH_some, abox, if_true, i2_a0, i2_a1, i2_0, i2_1, Do_of, anilck, abin_sub]
 rw [show afaddr 1 (.ptr im 0) = some (.ptr im 1) from rfl]
 simp only [Do_of, hbt]
 rw [ho, wrap_i64 (by omega) (by omega)]
 have s1 : aslice 1 (.row ib 0 m.bytes.length 1) (some (.int .i64 o)) none none = some (.row ib o (m.bytes.length - o) 1) := by
  simp only [aslice, abound, Option.map_none]
  rw [if_pos (by omega)]
  simp only [Int.toNat_natCast]
  rw [if_pos ⟨by omega, Nat.le_refl _, trivial⟩, if_pos (.inr (by omega))]
  simp
 rw [s1]
 simp only [Do_of]
 have s2 : aslice 1 (.row ib o (m.bytes.length - o) 1) none (some (.int .i64 n)) none = some (.row ib o n 1) := by
  simp only [aslice, abound, Option.map_none]
  rw [if_pos (by omega)]
  simp only [Int.toNat_natCast]
  rw [if_pos ⟨by omega, by omega, trivial⟩, if_pos (.inl trivial)]
  simp
 rw [s2]
 simp only [Do_of, alen_row, mn]
 obtain ⟨q, hq, hq1, hq2⟩ : ∃ q : Nat, min (n : Int) 8 = q ∧ q = min n 8 ∧ q ≤ n := ⟨min n 8, by omega, rfl, Nat.min_le_left _ _⟩
 rw [hq]
 have s3 : aslice 1 (.row ib o n 1) none (some (.int .i64 q)) none = some (.row ib o q 1) := by
  simp only [aslice, abound, Option.map_none]
  rw [if_pos (by omega)]
  simp only [Int.toNat_natCast]
  rw [if_pos ⟨by omega, by omega, trivial⟩, if_pos (.inl trivial)]
  simp
 rw [s3]
 simp only [Do_of]
 have b1 : BSl (H.push (.row [.int .u64 0, .int .u64 0])) (.row ib o q 1) ((partB m.bytes o n).take 8) := by
  have := row_part h1.bytes (o := o) (l := q) (by omega)
  have e : partB m.bytes o q = (partB m.bytes o n).take 8 := by
   unfold partB
   rw [List.take_take, hq1, Nat.min_comm]
  rwa [e] at this
 obtain ⟨y, hy, b2⟩ : ∃ y, aslice 1 (.row ib o n 1) (some (.int .i64 q)) none none = some y ∧ BSl (H.push (.row [.int .u64 0, .int .u64 0])) y ((partB m.bytes o n).drop 8) := by
  by_cases h8 : 8 < n
  · refine ⟨.row ib (o + 8) (n - 8) 1, ?_, ?_⟩
    · simp only [aslice, abound, Option.map_none]
      rw [if_pos (by omega)]
      simp only [Int.toNat_natCast]
      rw [if_pos ⟨by omega, by omega, trivial⟩, if_pos (.inr (by omega))]
      have : q = 8 := by omega
      subst this
      simp
    · have := row_part h1.bytes (o := o + 8) (l := n - 8) (by omega)
      have e : partB m.bytes (o + 8) (n - 8) = (partB m.bytes o n).drop 8 := by
       unfold partB
       rw [List.drop_take, List.drop_drop]
      rwa [e] at this
  · refine ⟨.lst .dead 0 [], ?_, .inr ⟨?_, rfl⟩⟩
    · simp only [aslice, abound, Option.map_none]
      rw [if_pos (by omega)]
      simp only [Int.toNat_natCast]
      rw [if_pos ⟨by omega, by omega, trivial⟩, if_neg (by omega)]
    · rw [List.drop_eq_nil_iff]
      simp [partB]; omega
 rw [hy]
 simp only [Do_of]
 refine Number_ok hGT hT b1 ?_
 refine Number_ok hGT hT b2 ?_
 rw [show abuild [.int .u64 0, .int .u64 0] [(0, 1, AV.int .u64 (numB8 ((partB m.bytes o n).take 8))), (1, 1, .int .u64 (numB8 ((partB m.bytes o n).drop 8)))] = some (.agg [.int .u64 (numB8 ((partB m.bytes o n).take 8)), .int .u64 (numB8 ((partB m.bytes o n).drop 8))]) from rfl]
 simp only [Do_of]
 rw [store_new H _ [.int .u64 (numB8 ((partB m.bytes o n).take 8)), .int .u64 (numB8 ((partB m.bytes o n).drop 8))] 2 rfl rfl rfl]
 simp only [Do_of]
 rw [(At.new H _).load, takeCells_whole (n := 2) (a := [.int .u64 (numB8 ((partB m.bytes o n).take 8)), .int .u64 (numB8 ((partB m.bytes o n).drop 8))]) rfl]
 simp only [Do_of]
 exact hQ _ (AH.Ext.push H _)
end
end Rb

namespace Rb
open Go
theorem lt_of_some {α : Type} {xs : List α} {k : Nat} {x : α} (h : xs[k]? = some x) : k < xs.length := by
 rcases Nat.lt_or_ge k xs.length with e | e
 · exact e
 · rw [List.getElem?_eq_none e] at h; cases h
theorem nd_ids {ids : List Nat} (h : ids.Nodup) {a b i : Nat} (ha : ids[a]? = some i) (hb : ids[b]? = some i) : a = b :=
 (List.getElem?_inj (lt_of_some ha) h).1 (ha.trans hb.symm)
theorem MS.put {H H' : AH} {im ib : Nat} {ids : List Nat} {tks : List (Option Nat)} {m : Mch} (h : MS H im ib ids tks m) {k i : Nat} {t t' : Thd} {tk tk' : Option Nat} (hk : m.ths[k]? = some t) (hi : ids[k]? = some i) (htk : tks[k]? = some tk)
  (h0 : ThM H i tk t) (hT : ThM H' i tk' t') (hv : Tv H H' i tk tk') : MS H' im ib ids (tks.set k tk') { m with ths := m.ths.set k t' } ∧ Mv H H' im ib ids tks (tks.set k tk') := by
 have hnd := h.nd
 rw [List.nodup_cons, List.nodup_cons] at hnd
 obtain ⟨n1, n2, n3⟩ := hnd
 have him : im ≠ i := fun e => n1 (List.mem_cons_of_mem _ (e ▸ List.mem_of_getElem? hi))
 have hib : ib ≠ i := fun e => n2 (e ▸ List.mem_of_getElem? hi)
 have htok : ∀ {q : Nat} {cs : List AV}, At H q (.row cs) → tk ≠ some q := by
  intro q cs a e
  subst e
  exact (AObj.noConfusion (a.2.symm.trans h0.tok.2) : False)
 obtain ⟨tt, ra⟩ := h.row
 have keep : ∀ {q : Nat} {x : AObj}, At H q x → q ≠ i → tk ≠ some q → At H' q x := fun a h1 h2 => ⟨Nat.lt_of_lt_of_le a.1 hv.n, (hv.o _ a.1 h1 h2).trans a.2⟩
 refine ⟨⟨⟨tt, ?_⟩, keep h.bytes hib (htok h.bytes), by simpa using h.idl, by simpa using h.tkl, h.nd, ?_, ?_⟩, ⟨hv.n, fun j hj hf => hv.o j hj (fun e => hf (.inr (.inr (.inl (e ▸ List.mem_of_getElem? hi))))) (fun e => hf (.inr (.inr (.inr (e ▸ List.mem_of_getElem? htk))))), ?_⟩⟩
 · have := keep ra him (htok ra)
   simpa using this
 · intro a b q ha hb
   rw [List.getElem?_set] at ha hb
   have hlt : k < tks.length := lt_of_some htk
   have new : ∀ c : Nat, tks[c]? = some (some q) → tk' = some q → c ≠ k → False := by
    intro c hc e hck
    rcases hv.t with e1 | ⟨z, e1, e2⟩
    · rw [e1] at e
      rw [e] at htk
      exact hck (h.nt c k q hc htk)
    · rw [e] at e1
      cases e1
      have := h.lt (j := q) (.inr (.inr (.inr (List.mem_of_getElem? hc))))
      omega
   by_cases hak : k = a
   · by_cases hbk : k = b
     · exact hak.symm.trans hbk
     · rw [if_pos hak, if_pos hlt] at ha
       rw [if_neg hbk] at hb
       exact (new b hb (Option.some.inj ha) (Ne.symm hbk)).elim
   · by_cases hbk : k = b
     · rw [if_neg hak] at ha
       rw [if_pos hbk, if_pos hlt] at hb
       exact (new a ha (Option.some.inj hb) (Ne.symm hak)).elim
     · rw [if_neg hak] at ha
       rw [if_neg hbk] at hb
       exact h.nt a b q ha hb
 · intro c u hc
   by_cases hck : k = c
   · subst hck
     rw [List.getElem?_set, if_pos rfl, if_pos (lt_of_some hk)] at hc
     cases hc
     exact ⟨i, tk', hi, by rw [List.getElem?_set, if_pos rfl, if_pos (lt_of_some htk)], hT⟩
   · rw [List.getElem?_set, if_neg hck] at hc
     obtain ⟨j, sk, h1, h2, h3⟩ := h.ths c u hc
     refine ⟨j, sk, h1, by rw [List.getElem?_set, if_neg hck]; exact h2, ?_⟩
     obtain ⟨⟨ct, st, a⟩, hq⟩ := h3
     have hji : j ≠ i := fun e => hck (nd_ids n3 hi (e ▸ h1))
     refine ⟨⟨ct, st, keep a hji (htok a)⟩, ?_⟩
     cases sk with
     | none => exact hq
     | some q =>
      have hq' : At H q (.tok u.prints.length 1) := hq
      obtain ⟨_, _, a0⟩ := h0.row
      refine keep hq' (hq'.ne a0 (by intro e; cases e)) fun e => ?_
      rw [e] at htk
      exact hck (h.nt k c q htk h2)
 · intro j hj
   obtain ⟨c, hc, e⟩ := List.mem_iff_getElem.1 hj
   have e' : (tks.set k tk')[c]? = some (some j) := by rw [List.getElem?_eq_getElem hc, e]
   rw [List.getElem?_set] at e'
   by_cases hck : k = c
   · rw [if_pos hck, if_pos (lt_of_some htk)] at e'
     rcases hv.t with e1 | ⟨z, e1, e2⟩
     · left
       rw [← Option.some.inj e', e1]
       exact List.mem_of_getElem? htk
     · right
       have := e1.symm.trans (Option.some.inj e')
       cases this
       exact e2
   · rw [if_neg hck] at e'
     exact .inl (List.mem_of_getElem? e')
end Rb

namespace Rb
open Go
def setI : List Int → Nat → List Int → List Int
 | xs, _, [] => xs
 | xs, k, v :: r => setI (xs.set k v) (k + 1) r
theorem setI_len : ∀ (ys xs : List Int) (k : Nat), (setI xs k ys).length = xs.length
 | [], _, _ => rfl
 | v :: r, xs, k => by
  show (setI (xs.set k v) (k + 1) r).length = _
  rw [setI_len r]; simp
theorem setI_map : ∀ (ys xs : List Int) (k : Nat), setCells (xs.map (AV.int .u8)) k (ys.map (AV.int .u8)) = (setI xs k ys).map (AV.int .u8)
 | [], _, _ => rfl
 | v :: r, xs, k => by
  show setCells ((xs.map (AV.int .u8)).set k (.int .u8 v)) (k + 1) (r.map (AV.int .u8)) = (setI (xs.set k v) (k + 1) r).map (AV.int .u8)
  rw [← setI_map r, List.map_set]
def wrB (bs : List Int) (o n : Nat) (d0 d1 : Int) : List Int :=
 if 8 < n then setI (setI bs o (bytM d0 n)) (o + 8) (bytM d1 (n - 8 : Nat)) else setI bs o (bytM d0 n)
theorem wrB_len (bs : List Int) (o n : Nat) (d0 d1 : Int) : (wrB bs o n d0 d1).length = bs.length := by
 unfold wrB
 split
 · rw [setI_len, setI_len]
 · rw [setI_len]
theorem bytM_len (x n : Int) : (bytM x n).length = bytN n := by simp [bytM]
theorem copy_ok {H : AH} {ib : Nat} {bs : List Int} (a : At H ib (.row (bs.map (AV.int .u8)))) {o n : Nat} (h : o + n ≤ bs.length) (d : Int) {K : AV → AH → Prop} (hK : ∀ v, K v (H.set ib (.row ((setI bs o (bytM d n)).map (AV.int .u8))))) :
  DoH (acopy H 1 (.row ib o n 1) (.lst .dead (bytN n) ((bytM d n).map (AV.int .u8)))) K := by
 have hN : bytN n ≤ n := by unfold bytN; omega
 have hl : ((bytM d n).map (AV.int .u8)).length = bytN n := by simp [bytM_len]
 have e : acopy H 1 (.row ib o n 1) (.lst .dead (bytN n) ((bytM d n).map (AV.int .u8))) = some (.int .i64 (bytN n), H.set ib (.row ((setI bs o (bytM d n)).map (AV.int .u8)))) := by
  simp only [acopy, acells, a.2]
  rw [if_pos (by rw [hl, Nat.mul_one])]
  simp only [Nat.min_eq_left hN]
  rw [a.2]
  dsimp only
  rw [if_pos ⟨by
    rw [List.all_eq_true]
    intro c hc
    obtain ⟨x, _, rfl⟩ := List.mem_map.1 hc
    rfl, by rw [List.length_map]; omega⟩, Nat.mul_one, List.take_of_length_le (by rw [hl]; exact Nat.le_refl _), setI_map]
 rw [e, DoH_some]
 exact hK _
theorem MS.setB {H : AH} {im ib : Nat} {ids : List Nat} {tks : List (Option Nat)} {m : Mch} (h : MS H im ib ids tks m) {bs : List Int} (hl : bs.length = m.bytes.length) :
  MS (H.set ib (.row (bs.map (AV.int .u8)))) im ib ids tks { m with bytes := bs } ∧ Mv H (H.set ib (.row (bs.map (AV.int .u8)))) im ib ids tks tks := by
 have hnd := h.nd
 rw [List.nodup_cons, List.nodup_cons] at hnd
 obtain ⟨n1, n2, n3⟩ := hnd
 obtain ⟨tt, ra⟩ := h.row
 have hib : im ≠ ib := fun e => n1 (e ▸ List.mem_cons_self ..)
 refine ⟨⟨⟨tt, ?_⟩, h.bytes.set _, h.idl, h.tkl, h.nd, h.nt, fun k t hk => ?_⟩, ⟨Nat.le_refl _, fun j _ hf => AH.set_ne H _ (fun e => hf (.inr (.inl e))), fun _ e => .inl e⟩⟩
 · have := ra.set_ne hib (.row (bs.map (AV.int .u8)))
   rw [← hl] at this
   exact this
 · obtain ⟨i, tk, h1, h2, h3⟩ := h.ths k t hk
   refine ⟨i, tk, h1, h2, h3.frame (Nat.le_refl _) (AH.set_ne H _ fun e => n2 (e ▸ List.mem_of_getElem? h1)) fun q hq => AH.set_ne H _ fun e => ?_⟩
   subst hq
   have hq' : At H q (.tok t.prints.length 1) := h3.tok
   exact (AObj.noConfusion (hq'.2.symm.trans (e ▸ h.bytes.2)) : False)
end Rb

namespace Rb
open Go
def watM (k by' : Nat) (sp : Int × Int) (t : Thd) : Thd := if k ≠ by' ∧ spMeets (t.st.wa, t.st.wl) sp = true then { t with st := { t.st with wa := 0, wl := 0 } } else t
def unwM (by' : Nat) (sp : Int × Int) : List Thd → Nat → Nat → List Thd
 | ths, _, 0 => ths
 | ths, k, r + 1 => unwM by' sp (match ths[k]? with | some t => ths.set k (watM k by' sp t) | none => ths) (k + 1) r
def Mch.ok (m : Mch) : Prop := ∀ t ∈ m.ths, t.ok
theorem watM_ok {k by' : Nat} {sp : Int × Int} {t : Thd} (h : t.ok) : (watM k by' sp t).ok := by
 unfold watM
 exact ite_P Thd.ok (fun _ => ⟨ok_w h.st 0 0, h.code, h.len, h.pr⟩) (fun _ => h)
theorem set_ok {m : Mch} (h : m.ok) {k : Nat} {t : Thd} (ht : t.ok) : ({ m with ths := m.ths.set k t } : Mch).ok := fun u hu => by
 rcases List.mem_or_eq_of_mem_set hu with hu | rfl
 · exact h _ hu
 · exact ht
theorem set_sameU {α : Type} {xs : List α} {k : Nat} {x : α} (h : xs[k]? = some x) : xs.set k x = xs := by
 apply List.ext_getElem?
 intro j
 rw [List.getElem?_set]
 by_cases hj : k = j
 · subst hj
   rw [if_pos rfl, if_pos (lt_of_some h), h]
 · rw [if_neg hj]
theorem unwM_len (by' : Nat) (sp : Int × Int) : ∀ (r : Nat) (ths : List Thd) (k : Nat), (unwM by' sp ths k r).length = ths.length
 | 0, _, _ => rfl
 | r + 1, ths, k => by
  unfold unwM
  rw [unwM_len by' sp r]
  split <;> simp
def unwMc (by' : Nat) (sp : Int × Int) (m : Mch) (k r : Nat) : Mch := { m with ths := unwM by' sp m.ths k r }
section
variable {C : Ctx} (hGT : GTok C) (hT : Cl (ACall C) S.tab_Mch)
include hGT hT
theorem unw_ok {im ib ibk by' : Nat} {ids : List Nat} {tks : List (Option Nat)} {ac : Acc} {Q : Post} (tt : Tok) (hby : ids[by']? = some ibk) : ∀ (r k : Nat) (m : Mch) (H : AH), MS H im ib ids tks m → m.ok → k + r = m.ths.length → m.ths.length ≤ 100 →
  (∀ H', MS H' im ib ids tks (unwMc by' (ac.at', ac.len) m k r) → (unwMc by' (ac.at', ac.len) m k r).ok → Mv H H' im ib ids tks tks → Q (.tup []) H') →
  LoopP (S.f27_l4 (ACall C) (.ptr ibk 0) (.fptr ac.cells) (.lst tt m.ths.length (ids.map fun i => .ptr i 0)) (.int .i64 m.ths.length) Q) ([.int .i64 k], H) := by
 intro r
 induction r with
 | zero =>
  intro k m H h ho hk hn hQ
  refine LoopP.step ?_
  simp only [S.f27_l4, sl_zero, abin_lss, Do_of, Gd_true]
  rw [if_neg (by simp only [decide_eq_true_eq]; omega)]
  exact hQ H h ho (Mv.refl _ _ _ _ _)
 | succ r ih =>
  intro k m H h ho hk hn hQ
  refine LoopP.step ?_
  simp only [S.f27_l4, sl_zero, abin_lss, Do_of, Gd_true]
  rw [if_pos (by simp only [decide_eq_true_eq]; omega)]
  have hlt : k < m.ths.length := by omega
  have hk0 : m.ths[k]? = some m.ths[k] := List.getElem?_eq_getElem hlt
  obtain ⟨i, tk, hi, htk, hth⟩ := h.ths k _ hk0
  have hto : m.ths[k].ok := ho _ (List.getElem_mem hlt)
  obtain ⟨ct, sk, a⟩ := hth.row
  obtain ⟨p, hp1, hp2⟩ := ms_at h tt hi
  rw [hp1]
  simp only [Do_of, hp2]
  have hbl : by' < m.ths.length := by rw [← h.idl]; exact lt_of_some hby
  obtain ⟨i2, _, hi2, _, hth2⟩ := h.ths by' _ (List.getElem?_eq_getElem hbl)
  rw [hby] at hi2
  cases hi2
  obtain ⟨ct2, sk2, a2⟩ := hth2.row
  have hnd := h.nd
  rw [List.nodup_cons, List.nodup_cons] at hnd
  have heq : i = ibk ↔ k = by' := ⟨fun e => nd_ids hnd.2.2 (e ▸ hi) hby, fun e => by rw [e] at hi; rw [hi] at hby; exact Option.some.inj hby⟩
  have hpt : aext H (.ptreq true) [.ptr i 0, .ptr ibk 0] = some (.bool (!decide (k = by')), H) := by
   simp only [aext, a.2, a2.2]
   by_cases e : k = by'
   · rw [if_pos (heq.2 e)]; simp [e]
   · rw [if_neg (fun e' => e (heq.1 e'))]; simp [e]
  rw [hpt]
  simp only [DoH_some, Gd3_true]
  have hw : IntKind.wrap .i64 ((k : Int) + 1) = ((k + 1 : Nat) : Int) := by rw [wrap_i64 (by omega) (by omega)]; simp
  have e1 : ∀ t', t' = watM k by' (ac.at', ac.len) m.ths[k] → unwMc by' (ac.at', ac.len) m k (r + 1) = unwMc by' (ac.at', ac.len) { m with ths := m.ths.set k t' } (k + 1) r := by
   intro t' ht'
   unfold unwMc
   rw [show unwM by' (ac.at', ac.len) m.ths k (r + 1) = unwM by' (ac.at', ac.len) (m.ths.set k t') (k + 1) r by
     rw [unwM, hk0, ht']]
  have k2 : ∀ (t' : Thd) (H' : AH), t' = watM k by' (ac.at', ac.len) m.ths[k] → MS H' im ib ids tks { m with ths := m.ths.set k t' } → Mv H H' im ib ids tks tks →
    S.f27_k2 (ACall C) ([.int .i64 k], H) (LoopP (S.f27_l4 (ACall C) (.ptr ibk 0) (.fptr ac.cells) (.lst tt m.ths.length (ids.map fun i => .ptr i 0)) (.int .i64 m.ths.length) Q)) Q [] H' := by
   intro t' H' ht' hms hmv
   simp only [S.f27_k2, sl_zero, abin_add, Do_of, hw]
   have := ih (k + 1) { m with ths := m.ths.set k t' } H' hms (set_ok ho (by rw [ht']; exact watM_ok hto)) (by simp; omega) (by simpa using hn) (fun H2 g1 g2 g3 => by
     rw [← e1 t' ht'] at g1 g2
     exact hQ H2 g1 g2 (hmv.trans g3))
   simpa only [List.length_set] using this
  have k3 : ∀ b : Bool, (b = true ↔ k ≠ by' ∧ spMeets (m.ths[k].st.wa, m.ths[k].st.wl) (ac.at', ac.len) = true) → S.f27_k3 (ACall C) (.ptr i 0) ([.int .i64 k], H) (LoopP (S.f27_l4 (ACall C) (.ptr ibk 0) (.fptr ac.cells) (.lst tt m.ths.length (ids.map fun i => .ptr i 0)) (.int .i64 m.ths.length) Q)) Q [.bool b] H := by
   intro b hb
   simp only [S.f27_k3, sl_zero, Gd_true, i2_z, Do_of, anilck, afaddr, Nat.zero_add, Nat.reduceAdd, JoinP_def]
   refine u_ite (fun e => ?_) (fun e => ?_)
   · rw [td_setw hto a]
     simp only [Do_of]
     have hT' := hth.set (t' := { m.ths[k] with st := { m.ths[k].st with wa := 0, wl := 0 } }) (by rfl) ct sk
     obtain ⟨g1, g2⟩ := h.put hk0 hi htk hth hT' (Tv.set H i tk _)
     rw [set_sameU htk] at g1 g2
     refine k2 _ _ ?_ g1 g2
     unfold watM
     rw [if_pos (hb.1 e)]
   · refine k2 m.ths[k] H ?_ (by rw [set_sameU hk0]; exact h) (Mv.refl _ _ _ _ _)
     unfold watM
     rw [if_neg (fun e' => by rw [hb.2 e'] at e; cases e)]
  have ha1 : afaddr 1 (.fptr ac.cells) = some (.fptr (ac.cells.drop 1)) := rfl
  have hl1 : ∀ H, aload H 2 true (.fptr (ac.cells.drop 1)) = some (I2 ac.at' ac.len) := fun _ => rfl
  refine u_ite (fun e => ?_) (fun e => ?_)
  · have hne : k ≠ by' := by simpa using e
    simp only [anilck, ha1, hl1, Do_of]
    simp only [afaddr, Nat.zero_add, Nat.reduceAdd, Do_of, td_w hto a]
    refine spMeets_val hGT hT (m.ths[k].st.wa, m.ths[k].st.wl) (ac.at', ac.len) _ _ ?_
    exact k3 _ ⟨fun e => ⟨hne, e⟩, fun e => e.2⟩
  · have hne : k = by' := by simpa using e
    exact k3 _ ⟨fun e => (by cases e), fun e => absurd hne e.1⟩
end
end Rb

namespace Rb
open Go
def writeM (m : Mch) (by' : Nat) (ac : Acc) : Mch := unwMc by' (ac.at', ac.len) { m with bytes := wrB m.bytes (ac.at' - 65536).toNat ac.len.toNat ac.d0 ac.d1 } 0 m.ths.length
section
variable {C : Ctx} (hGT : GTok C) (hT : Cl (ACall C) S.tab_Mch)
include hGT hT
theorem write_ok {H : AH} {im ib ibk by' : Nat} {ids : List Nat} {tks : List (Option Nat)} {m : Mch} (h : MS H im ib ids tks m) (ho : m.ok) (hn8 : m.ths.length ≤ 100) (hby : ids[by']? = some ibk) {ac : Acc} (hx : 65536 ≤ ac.at') (hl : 1 ≤ ac.len) (hl2 : ac.len ≤ 16)
  (hb : ac.at' - 65536 + ac.len ≤ m.bytes.length) (hm : m.bytes.length ≤ 1000000000) {Q : Post}
  (hQ : ∀ H', MS H' im ib ids tks (writeM m by' ac) → (writeM m by' ac).ok → Mv H H' im ib ids tks tks → Q (.tup []) H') : ACall C K.f27 [.ptr im 0, .ptr ibk 0, .agg ac.cells] H Q := by
 refine S.cl_f27 hT ?_
 unfold S.f27
 have hbox : aboxv H false 8 (.agg ac.cells) = some (.fptr ac.cells, H) := by unfold aboxv; rw [if_pos ⟨rfl, rfl⟩]; rfl
 have hbt := ms_bytes h
 unfold writeM at hQ
 obtain ⟨o, ho'⟩ : ∃ o : Nat, ac.at' - 65536 = o := ⟨(ac.at' - 65536).toNat, by omega⟩
 obtain ⟨n, hn⟩ : ∃ n : Nat, ac.len = n := ⟨ac.len.toNat, by omega⟩
 rw [ho'] at hQ
 have e1 : afaddr 1 (.fptr ac.cells) = some (.fptr (ac.cells.drop 1)) := rfl
 have e2 : afaddr 0 (.fptr (ac.cells.drop 1)) = some (.fptr (ac.cells.drop 1)) := rfl
 have e3 : afaddr 1 (.fptr (ac.cells.drop 1)) = some (.fptr (ac.cells.drop 2)) := rfl
 have e4 : afaddr 6 (.fptr ac.cells) = some (.fptr (ac.cells.drop 6)) := rfl
 have l1 : aload H 1 false (.fptr (ac.cells.drop 1)) = some (.int .i64 ac.at') := rfl
 have l2 : aload H 1 false (.fptr (ac.cells.drop 2)) = some (.int .i64 ac.len) := rfl
 have l3 : aload H 2 true (.fptr (ac.cells.drop 6)) = some (.agg [.int .u64 ac.d0, .int .u64 ac.d1]) := rfl
 simp only [hbox, DoH_some, anilck, Do_of, show afaddr 1 (.ptr im 0) = some (.ptr im 1) from rfl, hbt, e1, e2, e3, e4, l1, l2, l3, abin_sub]
 rw [ho', wrap_i64 (by omega) (by omega)]
 have s1 : aslice 1 (.row ib 0 m.bytes.length 1) (some (.int .i64 o)) none none = some (.row ib o (m.bytes.length - o) 1) := by
  simp only [aslice, abound, Option.map_none]
  rw [if_pos (by omega)]
  simp only [Int.toNat_natCast]
  rw [if_pos ⟨by omega, Nat.le_refl _, trivial⟩, if_pos (.inr (by omega))]
  simp
 rw [s1]
 simp only [Do_of]
 have s2 : aslice 1 (.row ib o (m.bytes.length - o) 1) none (some (.int .i64 ac.len)) none = some (.row ib o n 1) := by
  rw [hn]
  simp only [aslice, abound, Option.map_none]
  rw [if_pos (by omega)]
  simp only [Int.toNat_natCast]
  rw [if_pos ⟨by omega, by omega, trivial⟩, if_pos (.inl trivial)]
  simp
 rw [s2]
 simp only [Do_of]
 have hnn : ac.len.toNat = n := by omega
 rw [hnn] at hQ
 simp only [Int.toNat_natCast] at hQ
 have k5 : ∀ (bs : List Int) (H' : AH), bs = wrB m.bytes o n ac.d0 ac.d1 → MS H' im ib ids tks { m with bytes := bs } → Mv H H' im ib ids tks tks → S.f27_k5 (ACall C) (.ptr im 0) (.ptr ibk 0) (.fptr ac.cells) Q [] H' := by
  intro bs H' hbs hms hmv
  obtain ⟨tt, ht⟩ := ms_ths hms
  simp only [S.f27_k5, anilck, Do_of, show afaddr 0 (.ptr im 0) = some (.ptr im 0) from rfl, ht, alen_lst]
  refine unw_ok hGT hT tt hby m.ths.length 0 { m with bytes := bs } H' hms ho (by simp) hn8 fun H2 g1 g2 g3 => ?_
  rw [hbs] at g1 g2
  exact hQ H2 g1 g2 (hmv.trans g3)
 refine LoopP.step ?_
 simp only [S.f27_l6, sl_zero, abin_lss, Do_of, Gd_true]
 rw [if_pos (by decide), show aidx 2 1 false (.agg [.int .u64 ac.d0, .int .u64 ac.d1]) (.int .i64 0) = some (.int .u64 ac.d0) from rfl]
 simp only [Do_of, abin_mul, alen_row, abin_lss, Gd_true, abin_sub]
 have w0 : IntKind.wrap .i64 (8 * 0) = ((0 : Nat) : Int) := wrap_i64 (by decide) (by decide)
 have w8 : IntKind.wrap .i64 (8 * 1) = ((8 : Nat) : Int) := wrap_i64 (by decide) (by decide)
 have sl0 : ∀ q : Nat, q < n → aslice 1 (.row ib o n 1) (some (.int .i64 q)) none none = some (.row ib (o + q) (n - q) 1) := by
  intro q hq
  simp only [aslice, abound, Option.map_none]
  rw [if_pos (by omega)]
  simp only [Int.toNat_natCast]
  rw [if_pos ⟨by omega, Nat.le_refl _, trivial⟩, if_pos (.inr hq)]
  simp
 have wn : ∀ q : Nat, q < n → IntKind.wrap .i64 ((n : Int) - q) = ((n - q : Nat) : Int) := fun q hq => by rw [wrap_i64 (by omega) (by omega)]; omega
 rw [w0, if_pos (by simp only [decide_eq_true_eq]; omega), sl0 0 (by omega), wn 0 (by omega)]
 simp only [Do_of]
 refine Bytes_val hGT hT _ _ _ _ ?_
 refine copy_ok h.bytes (by omega) ac.d0 fun v => ?_
 simp only [JoinP_def, S.f27_k1, sl_zero, abin_add, Do_of]
 obtain ⟨g1, g2⟩ := h.setB (bs := setI m.bytes (o + 0) (bytM ac.d0 (n - 0 : Nat))) (setI_len _ _ _)
 rw [Nat.add_zero, Nat.sub_zero] at g1 g2
 simp only [Nat.add_zero, Nat.sub_zero]
 have w1 : IntKind.wrap .i64 (0 + 1) = 1 := wrap_i64 (by decide) (by decide)
 have w2 : IntKind.wrap .i64 (1 + 1) = 2 := wrap_i64 (by decide) (by decide)
 rw [w1]
 generalize hH1 : H.set ib (.row ((setI m.bytes o (bytM ac.d0 n)).map (AV.int .u8))) = H1 at *
 refine LoopP.step ?_
 simp only [S.f27_l6, sl_zero, abin_lss, Do_of, Gd_true]
 rw [if_pos (by decide), show aidx 2 1 false (.agg [.int .u64 ac.d0, .int .u64 ac.d1]) (.int .i64 1) = some (.int .u64 ac.d1) from rfl]
 simp only [Do_of, abin_mul, alen_row, abin_lss, Gd_true, abin_sub]
 rw [w8]
 have last : ∀ (bs : List Int) (H' : AH), bs = wrB m.bytes o n ac.d0 ac.d1 → MS H' im ib ids tks { m with bytes := bs } → Mv H H' im ib ids tks tks →
   LoopP (S.f27_l6 (ACall C) (.ptr im 0) (.ptr ibk 0) (.fptr ac.cells) (.row ib o n 1) (.agg [.int .u64 ac.d0, .int .u64 ac.d1]) Q) ([.int .i64 2], H') := by
  intro bs H' hbs hms hmv
  refine LoopP.step ?_
  simp only [S.f27_l6, sl_zero, abin_lss, Do_of, Gd_true]
  rw [if_neg (by decide)]
  exact k5 bs H' hbs hms hmv
 refine u_ite (fun h8 => ?_) (fun h8 => ?_)
 · have h8' : 8 < n := by simp only [decide_eq_true_eq] at h8; omega
   rw [sl0 8 h8', wn 8 h8']
   simp only [Do_of]
   refine Bytes_val hGT hT _ _ _ _ ?_
   refine copy_ok g1.bytes (by rw [setI_len]; omega) ac.d1 fun v => ?_
   simp only [JoinP_def, S.f27_k1, sl_zero, abin_add, Do_of, w2]
   obtain ⟨f1, f2⟩ := g1.setB (bs := setI (setI m.bytes o (bytM ac.d0 n)) (o + 8) (bytM ac.d1 (n - 8 : Nat))) (setI_len _ _ _)
   refine last _ _ ?_ f1 (g2.trans f2)
   unfold wrB
   rw [if_pos h8']
 · simp only [JoinP_def, S.f27_k1, sl_zero, abin_add, Do_of, w2]
   refine last _ _ ?_ g1 g2
   unfold wrB
   rw [if_neg (by simp only [decide_eq_false_iff_not] at h8; omega)]
end
end Rb

namespace Rb
open Go
structure Did where
 any : Bool
 a : Acc
 dn : Bool
 g0 : Int
 g1 : Int
 site : Int × Int × Int
def Did.cells (d : Did) : List AV := [.bool d.any, .bool d.a.w, .int .i64 d.a.at', .int .i64 d.a.len, .bool d.a.ex, .bool d.a.aq, .bool d.a.rl, .int .u64 d.a.d0, .int .u64 d.a.d1, .bool d.dn, .int .u64 d.g0, .int .u64 d.g1, .int .i64 d.site.1, .int .i64 d.site.2.1, .int .i64 d.site.2.2]
def acZ : Acc := ⟨false, 0, 0, false, false, false, 0, 0⟩
def didZ : Did := ⟨false, acZ, false, 0, 0, (0, 0, 0)⟩
section
variable {H : AH} {id : Nat} {d : Did} (h : At H id (.row d.cells))
include h
theorem did_all : aload H 15 true (.ptr id 0) = some (.agg d.cells) := by rw [h.load]; exact takeCells_whole rfl
theorem did_put (e : Did) : astore H 15 (.ptr id 0) (.agg e.cells) = some (H.set id (.row e.cells)) := by rw [h.store, if_pos ⟨rfl, rfl, rfl, (by decide : 0 + 15 ≤ 15)⟩]; rfl
theorem did_ask (a : Acc) : astore H 8 (.ptr id 1) (.agg a.cells) = some (H.set id (.row ({ d with a := a } : Did).cells)) := by rw [h.store, if_pos ⟨rfl, rfl, rfl, (by decide : 1 + 8 ≤ 15)⟩]; rfl
theorem did_any (b : Bool) : astore H 1 (.ptr id 0) (.bool b) = some (H.set id (.row ({ d with any := b } : Did).cells)) := by rw [h.store, if_pos ⟨rfl, rfl, rfl, (by decide : 0 + 1 ≤ 15)⟩]; rfl
theorem did_dn (b : Bool) : astore H 1 (.ptr id 9) (.bool b) = some (H.set id (.row ({ d with dn := b } : Did).cells)) := by rw [h.store, if_pos ⟨rfl, rfl, rfl, (by decide : 9 + 1 ≤ 15)⟩]; rfl
theorem did_got (x y : Int) : astore H 2 (.ptr id 10) (.agg [.int .u64 x, .int .u64 y]) = some (H.set id (.row ({ d with g0 := x, g1 := y } : Did).cells)) := by rw [h.store, if_pos ⟨rfl, rfl, rfl, (by decide : 10 + 2 ≤ 15)⟩]; rfl
theorem did_l (k : Nat) (v : AV) (hv : d.cells[k]? = some v) (hk : k < 15) : aload H 1 false (.ptr id k) = some v := by
 rw [h.load]
 unfold takeCells
 rw [if_pos (by show k + 1 ≤ 15; omega), if_neg (by decide), hv]
theorem did_span : aload H 2 true (.ptr id 2) = some (I2 d.a.at' d.a.len) := by rw [h.load]; rfl
theorem did_acc : aload H 8 true (.ptr id 1) = some (.agg d.a.cells) := by rw [h.load]; rfl
theorem did_g : aload H 2 true (.ptr id 10) = some (.agg [.int .u64 d.g0, .int .u64 d.g1]) := by rw [h.load]; rfl
end
end Rb

namespace Rb
open Go
def Mch.put (m : Mch) (k : Nat) (t : Thd) : Mch := { m with ths := m.ths.set k t }
def thereM (m : Mch) (a : Acc) : Bool := decide (a.at' ≥ 65536) && spWithin (a.at', a.len) (65536, m.bytes.length)
def memM (m : Mch) (k : Nat) (t : Thd) (a : Acc × Bool) (fail : Bool) : Mch × Bool × Int × Int :=
 if a.2 = false then (m, false, 0, 0) else
 if a.1.w = false then (m, true, (readM m a.1.at' a.1.len).1, (readM m a.1.at' a.1.len).2) else
 if (a.1.ex = false ∨ (fail = false ∧ (t.st.wa, t.st.wl) = (a.1.at', a.1.len))) then (writeM m k a.1, true, 0, 0) else (m, false, 0, 0)
def endT (m : Mch) (k : Nat) (i : List Int) (d : Did) : Mch :=
 match m.ths[k]? with | some u => m.put k { u with st := (nextM u.st i d.g0 d.g1 d.dn).1 } | none => m
def endM (r : Mch × Bool × Int × Int) (k : Nat) (i : List Int) (s : Int × Int × Int) (a : Acc × Bool) : Mch × Did × Int :=
 (endT r.1 k i ⟨a.2, a.1, r.2.1, r.2.2.1, r.2.2.2, s⟩, ⟨a.2, a.1, r.2.1, r.2.2.1, r.2.2.2, s⟩, 0)
def stepI (m : Mch) (k : Nat) (t : Thd) (fail : Bool) (i : List Int) (s : Int × Int × Int) : Mch × Did × Int :=
 if (askM t.st i).2 = true ∧ thereM m (askM t.st i).1 = false then (m.put k { t with fin := 2 }, ⟨true, (askM t.st i).1, false, 0, 0, s⟩, 0)
 else endM (memM (m.put k (stopsM t i)) k (stopsM t i) (askM t.st i) fail) k i s (askM t.st i)
def stepT (m : Mch) (k : Nat) (t : Thd) (fail : Bool) : Mch × Did × Int :=
 if t.fin ≠ 0 then (m, didZ, 15) else
 if inM t = false then (m.put k { t with fin := 2 }, didZ, 0) else
 stepI m k t fail (t.code.getD t.st.pc.toNat []) (t.sites.getD t.st.pc.toNat (0, 0, 0))
def stepM (m : Mch) (n : Int) (fail : Bool) : Mch × Did × Int :=
 if n < 0 then (m, didZ, 1) else match m.ths[n.toNat]? with | none => (m, didZ, 1) | some t => stepT m n.toNat t fail
structure Mch.good (m : Mch) (B : Nat) : Prop where
 ok : m.ok
 pr : ∀ t ∈ m.ths, t.prints.length ≤ B
 n : m.ths.length ≤ 100
 b : m.bytes.length ≤ 1000000
 svc : ∀ t ∈ m.ths, ∀ i ∈ t.code, gi i 0 = 31 → 0 ≤ gi i 6
theorem whN_le {i : List Int} (hl : i.length = 7) (hs : sndI i = true) : 1 ≤ whN i ∧ whN i ≤ 16 := by
 have hs : (encM i).2 = 0 := by simpa [sndI] using hs
 have h5 : 0 ≤ gi i 5 ∧ gi i 5 ≤ 3 := ins_size hl hs
 unfold whN
 split
 · exact ⟨by decide, by decide⟩
 · have : gi i 5 = 0 ∨ gi i 5 = 1 ∨ gi i 5 = 2 ∨ gi i 5 = 3 := by omega
   rcases this with e | e | e | e <;> (rw [e]; exact ⟨by decide, by decide⟩)
theorem whA_u {s : FSt} (h : s.ok) {i : List Int} (hl : i.length = 7) (hs : sndI i = true) : U64 (whA s i) := by
 have hs : (encM i).2 = 0 := by simpa [sndI] using hs
 unfold whA
 split
 · exact U64.wrap _
 · have := ins_reg hl hs (k := 2) (by omega) (by omega)
   exact FSt.get_u h this.1 this.2
theorem whM_le {s : FSt} (h : s.ok) {i : List Int} (hl : i.length = 7) (hs : sndI i = true) : (whM s i).1 < 1099511627776 := by
 have u := whA_u h hl hs
 unfold whM
 dsimp only
 split
 · decide
 · rw [wrap_i64 (by have := u.1; omega) (by omega)]; omega
theorem within_le {x l : Int} {n : Nat} (hx : 65536 ≤ x) (hx2 : x < 1099511627776) (hl : 1 ≤ l) (hl2 : l ≤ 16) (hn : n ≤ 1000000) (h : spWithin (x, l) (65536, n) = true) : x - 65536 + l ≤ n := by
 have s1 : spSound x l = true := by unfold spSound; simp only [Bool.and_eq_true, decide_eq_true_eq]; omega
 have s2 : spSound 65536 (n : Int) = true := by unfold spSound; simp only [Bool.and_eq_true, decide_eq_true_eq]; omega
 have e1 : spOf x l = (x, x + l) := by unfold spOf; rw [if_pos s1, wrap_i64 (by omega) (by omega)]
 have e2 : spOf 65536 (n : Int) = (65536, 65536 + (n : Int)) := by unfold spOf; rw [if_pos s2, wrap_i64 (by omega) (by omega)]
 unfold spWithin at h
 dsimp only at h
 rw [e1, e2] at h
 simp only [Bool.or_eq_true, beq_iff_eq] at h
 rcases h with h | h
 · omega
 · unfold spBoth at h
   split at h
   · simp only [Prod.mk.injEq] at h; omega
   · simp only [Prod.mk.injEq] at h; omega
theorem ask_at {s : FSt} (h : s.ok) {i : List Int} (hl : i.length = 7) {m : Mch} (hb : m.bytes.length ≤ 1000000) (ha : (askM s i).2 = true) (ht : thereM m (askM s i).1 = true) :
  65536 ≤ (askM s i).1.at' ∧ 1 ≤ (askM s i).1.len ∧ (askM s i).1.len ≤ 16 ∧ (askM s i).1.at' - 65536 + (askM s i).1.len ≤ m.bytes.length := by
 by_cases hs : sndI i = true ∧ betw (gi i 0) 17 28 = true
 · have e : (askM s i).1.at' = (whM s i).1 ∧ (askM s i).1.len = whN i := by
     unfold askM
     rw [if_pos hs]
     exact ⟨rfl, rfl⟩
   rw [e.1, e.2]
   have h1 := whN_le hl hs.1
   have h2 := whM_le h hl hs.1
   unfold thereM at ht
   rw [e.1, e.2] at ht
   simp only [Bool.and_eq_true, decide_eq_true_eq] at ht
   exact ⟨ht.1, h1.1, h1.2, within_le ht.1 h2 h1.1 h1.2 hb ht.2⟩
 · unfold askM at ha
   rw [if_neg hs] at ha
   cases ha
theorem stopsM_st (t : Thd) (i : List Int) : (stopsM t i).st = t.st ∧ (stopsM t i).code = t.code ∧ (stopsM t i).sites = t.sites ∧ (stopsM t i).prints.length ≤ t.prints.length + 1 := by
 unfold stopsM
 repeat' split
 all_goals exact ⟨rfl, rfl, rfl, by simp⟩
theorem stopsM_ok {t : Thd} (h : t.ok) (i : List Int) (hp : t.prints.length < 1000000000) : (stopsM t i).ok := by
 obtain ⟨e1, e2, e3, e4⟩ := stopsM_st t i
 exact ⟨by rw [e1]; exact h.st, by rw [e2]; exact h.code, by rw [e2, e3]; exact h.len, by omega⟩
end Rb

namespace Rb
open Go
theorem code_at {t : Thd} (ho : t.ok) {k : Nat} (hk : k < t.code.length) (ct : Tok) : ∃ p, aiaddr none 7 (.lst ct t.code.length t.codeC) (.int .i64 k) = some p ∧ ∀ H, aload H 7 true p = some (.agg (IV (t.code.getD k []))) := by
 have key : ∀ (xs : List (List Int)) (k : Nat), (∀ i ∈ xs, i.length = 7) → k < xs.length → takeCells ((xs.flatMap IV).drop (k * 7)) 0 7 true = some (.agg (IV (xs.getD k []))) := by
  intro xs
  induction xs with
  | nil => intro k _ hk; simp at hk
  | cons x r ih =>
   intro k h7 hk
   have hx := h7 x (List.mem_cons_self ..)
   cases k with
   | zero =>
    rw [List.flatMap_cons, Nat.zero_mul, List.drop_zero]
    exact takeCells_app (by simpa using hx)
   | succ k =>
    rw [List.flatMap_cons, show (k + 1) * 7 = (IV x).length + k * 7 by rw [IV_len, hx]; omega, List.drop_length_add_append]
    exact ih k (fun i hi => h7 i (List.mem_cons_of_mem _ hi)) (Nat.lt_of_succ_lt_succ hk)
 refine ⟨.fptr (t.codeC.drop (k * 7)), ?_, fun H => key _ _ ho.code hk⟩
 show (if 0 ≤ (k : Int) ∧ (k : Int) < (t.code.length : Nat) then some (AV.fptr (t.codeC.drop ((k : Int).toNat * 7))) else none) = _
 rw [if_pos ⟨by omega, by omega⟩, Int.toNat_natCast]
theorem site_at {t : Thd} {k : Nat} (hk : k < t.sites.length) (sk : Tok) : ∃ p, aiaddr none 3 (.lst sk t.sites.length t.siteC) (.int .i64 k) = some p ∧ ∀ H, aload H 3 true p = some (.agg (siteV (t.sites.getD k (0, 0, 0)))) := by
 have key : ∀ (xs : List (Int × Int × Int)) (k : Nat), k < xs.length → takeCells ((xs.flatMap siteV).drop (k * 3)) 0 3 true = some (.agg (siteV (xs.getD k (0, 0, 0)))) := by
  intro xs
  induction xs with
  | nil => intro k hk; simp at hk
  | cons x r ih =>
   intro k hk
   cases k with
   | zero =>
    rw [List.flatMap_cons, Nat.zero_mul, List.drop_zero]
    exact takeCells_app rfl
   | succ k =>
    rw [List.flatMap_cons, show (k + 1) * 3 = (siteV x).length + k * 3 by show _ = 3 + _; omega, List.drop_length_add_append]
    exact ih k (Nat.lt_of_succ_lt_succ hk)
 refine ⟨.fptr (t.siteC.drop (k * 3)), ?_, fun H => key _ _ hk⟩
 show (if 0 ≤ (k : Int) ∧ (k : Int) < (t.sites.length : Nat) then some (AV.fptr (t.siteC.drop ((k : Int).toNat * 3))) else none) = _
 rw [if_pos ⟨by omega, by omega⟩, Int.toNat_natCast]
end Rb

namespace Rb
open Go
theorem Mv.nfp {H H' : AH} {im ib : Nat} {ids : List Nat} {tks tks' : List (Option Nat)} (v : Mv H H' im ib ids tks tks') {j : Nat} (hj : j < H.n) (hf : ¬ FP im ib ids tks j) : ¬ FP im ib ids tks' j := by
 rintro (e | e | e | e)
 · exact hf (.inl e)
 · exact hf (.inr (.inl e))
 · exact hf (.inr (.inr (.inl e)))
 · rcases v.t j e with e | e
   · exact hf (.inr (.inr (.inr e)))
   · omega
theorem Mv.side {H H' : AH} {im ib : Nat} {ids : List Nat} {tks tks' : List (Option Nat)} (v : Mv H H' im ib ids tks tks') {j : Nat} (hj : H.n ≤ j) (x : AObj) : Mv H (H'.set j x) im ib ids tks tks' :=
 ⟨v.n, fun q hq hf => by rw [AH.set_ne H' x (by omega)]; exact v.o q hq hf, v.t⟩
theorem MS.side {H : AH} {im ib : Nat} {ids : List Nat} {tks : List (Option Nat)} {m : Mch} (h : MS H im ib ids tks m) {j : Nat} (hf : ¬ FP im ib ids tks j) (x : AObj) : MS (H.set j x) im ib ids tks m :=
 h.frame (Nat.le_refl _) fun q hq => AH.set_ne H x (fun e => hf (e ▸ hq))
structure Lc (H : AH) (F : Nat → Prop) (ir ix iy : Nat) (ins : List Int) (d : Did) : Prop where
 r : At H ir (.row didZ.cells)
 x : At H ix (.row (IV ins))
 d : At H iy (.row d.cells)
 nr : ¬ F ir
 nx : ¬ F ix
 nd : ¬ F iy
 e1 : ir ≠ ix
 e2 : ir ≠ iy
 e3 : ix ≠ iy
theorem Lc.mv {H H' : AH} {im ib : Nat} {ids : List Nat} {tks tks' : List (Option Nat)} {ir ix iy : Nat} {ins : List Int} {d : Did} (l : Lc H (FP im ib ids tks) ir ix iy ins d) (v : Mv H H' im ib ids tks tks') : Lc H' (FP im ib ids tks') ir ix iy ins d :=
 ⟨⟨Nat.lt_of_lt_of_le l.r.1 v.n, (v.o _ l.r.1 l.nr).trans l.r.2⟩, ⟨Nat.lt_of_lt_of_le l.x.1 v.n, (v.o _ l.x.1 l.nx).trans l.x.2⟩, ⟨Nat.lt_of_lt_of_le l.d.1 v.n, (v.o _ l.d.1 l.nd).trans l.d.2⟩, v.nfp l.r.1 l.nr, v.nfp l.x.1 l.nx, v.nfp l.d.1 l.nd, l.e1, l.e2, l.e3⟩
theorem Lc.setd {H : AH} {F : Nat → Prop} {ir ix iy : Nat} {ins : List Int} {d : Did} (l : Lc H F ir ix iy ins d) (d' : Did) : Lc (H.set iy (.row d'.cells)) F ir ix iy ins d' :=
 ⟨l.r.set_ne l.e2 _, l.x.set_ne l.e3 _, l.d.set _, l.nr, l.nx, l.nd, l.e1, l.e2, l.e3⟩
def StepQ (Hs : AH) (im ib : Nat) (ids : List Nat) (tks : List (Option Nat)) (Q : Post) (r : Mch × Did × Int) : Prop :=
 ∀ H' tks', MS H' im ib ids tks' r.1 → Mv Hs H' im ib ids tks tks' → Q (.tup [.agg r.2.1.cells, .int .i64 r.2.2]) H'
section
variable {C : Ctx} (hGT : GTok C) (hT : Cl (ACall C) S.tab_Mch)
include hGT hT
theorem step_k1 {Hs H : AH} {im ib ir ix iy k i : Nat} {ids : List Nat} {tks0 tks : List (Option Nat)} {m : Mch} {ins : List Int} {d : Did} {u : Thd} {Q : Post} (h : MS H im ib ids tks m) (v : Mv Hs H im ib ids tks0 tks) (l : Lc H (FP im ib ids tks) ir ix iy ins d)
  (hr : Hs.n ≤ ir) (hk : m.ths[k]? = some u) (hu : u.ok) (hi : ids[k]? = some i) (hl : ins.length = 7) (u0 : U64 d.g0) (u1 : U64 d.g1)
  (hQ : StepQ Hs im ib ids tks0 Q (endT m k ins d, d, 0)) : S.f10_k1 (ACall C) (.ptr ir 0) (.ptr i 0) (.ptr ix 0) (.ptr iy 0) Q [] H := by
 obtain ⟨i', tk, hi', htk, hth⟩ := h.ths k u hk
 rw [hi] at hi'
 cases hi'
 obtain ⟨ct, sk, a⟩ := hth.row
 have lx : aload H 7 true (.ptr ix 0) = some (.agg (IV ins)) := by rw [l.x.load]; exact takeCells_whole (by simpa using hl)
 simp only [S.f10_k1, anilck, afaddr, Nat.zero_add, Do_of, td_st hu a, lx, did_g l.d, did_l l.d 9 (.bool d.dn) rfl (by decide)]
 refine Next_ok hGT hT hu.st hl u0 u1 d.dn _ _ ?_
 simp only [aextract, List.getElem?_cons_zero, List.getElem?_cons_succ, Do_of]
 rw [td_setst hu a (nextM_ok hu.st hl u0 u1)]
 simp only [Do_of]
 obtain ⟨g1, g2⟩ := h.put hk hi htk hth (hth.set (t' := { u with st := (nextM u.st ins d.g0 d.g1 d.dn).1 }) (by rfl) ct sk) (Tv.set H i tk _)
 rw [set_sameU htk] at g1 g2
 have l1 := l.mv g2
 rw [did_all l1.d]
 simp only [Do_of]
 rw [did_put l1.r]
 simp only [Do_of]
 rw [did_all (l1.r.set _)]
 simp only [Do_of]
 refine hQ _ tks ?_ ((v.trans g2).side hr _)
 have e : endT m k ins d = { m with ths := m.ths.set k { u with st := (nextM u.st ins d.g0 d.g1 d.dn).1 } } := by unfold endT; rw [hk]; rfl
 rw [e]
 exact g1.side l1.nr _
theorem step_k2 {Hs H : AH} {im ib ir ix iy k i : Nat} {ids : List Nat} {tks0 tks : List (Option Nat)} {m : Mch} {ins : List Int} {d : Did} {B : Nat} {u : Thd} {Q : Post} (h : MS H im ib ids tks m) (v : Mv Hs H im ib ids tks0 tks) (l : Lc H (FP im ib ids tks) ir ix iy ins d)
  (hr : Hs.n ≤ ir) (hk : m.ths[k]? = some u) (hg : m.good B) (hi : ids[k]? = some i) (hl : ins.length = 7) (hb : d.dn = true → 65536 ≤ d.a.at' ∧ 1 ≤ d.a.len ∧ d.a.len ≤ 16 ∧ d.a.at' - 65536 + d.a.len ≤ m.bytes.length) (z : d.g0 = 0 ∧ d.g1 = 0)
  (hQ : StepQ Hs im ib ids tks0 Q (endT (if d.dn = true then writeM m k d.a else m) k ins d, d, 0)) : S.f10_k2 (ACall C) (.ptr im 0) (.ptr ir 0) (.ptr i 0) (.ptr ix 0) (.ptr iy 0) Q [] H := by
 have u0 : U64 d.g0 := by rw [z.1]; exact ⟨by decide, by decide⟩
 have u1 : U64 d.g1 := by rw [z.2]; exact ⟨by decide, by decide⟩
 simp only [S.f10_k2, afaddr, Nat.zero_add, Do_of, did_l l.d 9 (.bool d.dn) rfl (by decide), Gd_true, JoinP_def]
 refine u_ite (fun e => ?_) (fun e => ?_)
 · rw [if_pos e] at hQ
   obtain ⟨b1, b2, b3, b4⟩ := hb e
   rw [did_acc l.d]
   simp only [Do_of]
   refine write_ok hGT hT h hg.ok hg.n hi b1 b2 b3 b4 (Nat.le_trans hg.b (by decide)) fun H' g1 g2 g3 => ?_
   have hlen : (writeM m k d.a).ths.length = m.ths.length := by unfold writeM unwMc; exact unwM_len _ _ _ _ _
   have hlt : k < (writeM m k d.a).ths.length := by rw [hlen]; exact lt_of_some hk
   exact step_k1 hGT hT g1 (v.trans g3) (l.mv g3) hr (List.getElem?_eq_getElem hlt) (g2 _ (List.getElem_mem hlt)) hi hl u0 u1 hQ
 · rw [if_neg (by rw [e]; decide)] at hQ
   exact step_k1 hGT hT h v l hr hk (hg.ok _ (List.mem_of_getElem? hk)) hi hl u0 u1 hQ
theorem step_k3 {Hs H : AH} {im ib ir ix iy k i : Nat} {ids : List Nat} {tks0 tks : List (Option Nat)} {m : Mch} {ins : List Int} {s : Int × Int × Int} {B : Nat} {t : Thd} {fail : Bool} {Q : Post} (h : MS H im ib ids tks m) (v : Mv Hs H im ib ids tks0 tks)
  (l : Lc H (FP im ib ids tks) ir ix iy ins ⟨(askM t.st ins).2, (askM t.st ins).1, false, 0, 0, s⟩) (hr : Hs.n ≤ ir) (hry : Hs.n ≤ iy) (hk : m.ths[k]? = some t) (hg : m.good B) (hB : B < 1000000000) (hi : ids[k]? = some i) (hl : ins.length = 7)
  (hsv : gi ins 0 = 31 → 0 ≤ gi ins 6)
  (hb : (askM t.st ins).2 = true → 65536 ≤ (askM t.st ins).1.at' ∧ 1 ≤ (askM t.st ins).1.len ∧ (askM t.st ins).1.len ≤ 16 ∧ (askM t.st ins).1.at' - 65536 + (askM t.st ins).1.len ≤ m.bytes.length)
  (hQ : StepQ Hs im ib ids tks0 Q (endM (memM (m.put k (stopsM t ins)) k (stopsM t ins) (askM t.st ins) fail) k ins s (askM t.st ins))) :
  S.f10_k3 (ACall C) (.ptr im 0) (.bool fail) (.ptr ir 0) (.ptr i 0) (.ptr ix 0) (.ptr iy 0) Q [] H := by
 obtain ⟨i', tk, hi', htk, hth⟩ := h.ths k t hk
 rw [hi] at hi'
 cases hi'
 have hto : t.ok := hg.ok _ (List.mem_of_getElem? hk)
 have hpr := hg.pr _ (List.mem_of_getElem? hk)
 have lx : aload H 7 true (.ptr ix 0) = some (.agg (IV ins)) := by rw [l.x.load]; exact takeCells_whole (by simpa using hl)
 simp only [S.f10_k3, lx, Do_of]
 refine stops_ok hGT hT hto hth hl hsv fun H1 tk' hth1 tv => ?_
 obtain ⟨g1, g2⟩ := h.put hk hi htk hth hth1 tv
 have l1 := l.mv g2
 have v1 := v.trans g2
 have hk1 : (m.put k (stopsM t ins)).ths[k]? = some (stopsM t ins) := by
  show (m.ths.set k (stopsM t ins))[k]? = _
  rw [List.getElem?_set, if_pos rfl, if_pos (lt_of_some hk)]
 have hst := stopsM_st t ins
 have hok1 : (stopsM t ins).ok := stopsM_ok hto ins (by omega)
 have hg1 : (m.put k (stopsM t ins)).good (B + 1) := by
  refine ⟨set_ok hg.ok hok1, fun x hx => ?_, by simpa [Mch.put] using hg.n, hg.b, fun x hx => ?_⟩
  · rcases List.mem_or_eq_of_mem_set hx with hx | rfl
    · have := hg.pr _ hx; omega
    · omega
  · rcases List.mem_or_eq_of_mem_set hx with hx | rfl
    · exact hg.svc _ hx
    · rw [hst.2.1]; exact hg.svc _ (List.mem_of_getElem? hk)
 change MS H1 im ib ids (tks.set k tk') (m.put k (stopsM t ins)) at g1
 have hbl : (m.put k (stopsM t ins)).bytes.length = m.bytes.length := rfl
 generalize hm1 : m.put k (stopsM t ins) = m1 at *
 generalize ht1 : stopsM t ins = t1 at *
 generalize tks.set k tk' = tks1 at *
 generalize hA : askM t.st ins = A at *
 have y0 : U64 0 := ⟨by decide, by decide⟩
 unfold memM at hQ
 simp only [afaddr, Nat.zero_add, Nat.reduceAdd, Do_of, did_l l1.d 0 (.bool A.2) rfl (by decide), aun_not, Gd_true, JoinP_def]
 refine u_ite (fun ea => ?_) (fun ea => ?_)
 · rw [if_pos (by simpa using ea)] at hQ
   exact step_k1 hGT hT g1 v1 l1 hr hk1 hok1 hi hl y0 y0 hQ
 have ea : A.2 = true := by simpa using ea
 rw [if_neg (by rw [ea]; decide)] at hQ
 obtain ⟨b1, b2, b3, b4⟩ := hb ea
 rw [did_l l1.d 1 (.bool A.1.w) rfl (by decide)]
 simp only [Do_of, aun_not, Gd_true]
 refine u_ite (fun ew => ?_) (fun ew => ?_)
 · rw [if_pos (by simpa using ew)] at hQ
   rw [did_span l1.d]
   simp only [Do_of]
   refine read_ok hGT hT g1 b1 b2 (by rw [hbl]; exact b4) (by rw [hbl]; exact Nat.le_trans hg.b (by decide)) fun H2 E2 => ?_
   have v2 := Mv.ext E2 im ib ids tks1
   have g2 := g1.frame E2.1 (fun j hj => E2.2 j (g1.lt hj))
   have l2 := l1.mv v2
   rw [did_dn l2.d true]
   simp only [Do_of]
   have l3 := l2.setd ⟨A.2, A.1, true, 0, 0, s⟩
   rw [did_got l3.d]
   simp only [Do_of]
   have l4 := l3.setd ⟨A.2, A.1, true, (readM m1 A.1.at' A.1.len).1, (readM m1 A.1.at' A.1.len).2, s⟩
   have g4 := (g2.side l2.nd (.row (⟨A.2, A.1, true, 0, 0, s⟩ : Did).cells)).side l2.nd (.row (⟨A.2, A.1, true, (readM m1 A.1.at' A.1.len).1, (readM m1 A.1.at' A.1.len).2, s⟩ : Did).cells)
   have v4 := ((v1.trans v2).side hry (.row (⟨A.2, A.1, true, 0, 0, s⟩ : Did).cells)).side hry (.row (⟨A.2, A.1, true, (readM m1 A.1.at' A.1.len).1, (readM m1 A.1.at' A.1.len).2, s⟩ : Did).cells)
   exact step_k1 hGT hT g4 v4 l4 hr hk1 hok1 hi hl (numB8_u _) (numB8_u _) hQ
 have ew : A.1.w = true := by simpa using ew
 rw [if_neg (by rw [ew]; decide)] at hQ
 have k2 : ∀ b : Bool, (b = true ↔ A.1.ex = false ∨ (fail = false ∧ (t1.st.wa, t1.st.wl) = (A.1.at', A.1.len))) → Do (astore H1 1 (.ptr iy 9) (.bool b)) fun H' => S.f10_k2 (ACall C) (.ptr im 0) (.ptr ir 0) (.ptr i 0) (.ptr ix 0) (.ptr iy 0) Q [] H' := by
  intro b hb'
  rw [did_dn l1.d b]
  simp only [Do_of]
  refine step_k2 (d := ⟨A.2, A.1, b, 0, 0, s⟩) hGT hT (g1.side l1.nd _) (v1.side hry _) (l1.setd ⟨A.2, A.1, b, 0, 0, s⟩) hr hk1 hg1 hi hl (fun _ => ⟨b1, b2, b3, by rw [hbl]; exact b4⟩) ⟨rfl, rfl⟩ ?_
  cases b with
  | true => rw [if_pos (hb'.1 rfl)] at hQ; exact hQ
  | false => rw [if_neg (fun e => by have := hb'.2 e; cases this)] at hQ; exact hQ
 rw [did_l l1.d 4 (.bool A.1.ex) rfl (by decide)]
 simp only [Do_of, aun_not, Gd3_false]
 refine u_itef (fun ee => ?_) (fun ee => ?_)
 · have ee : A.1.ex = true := by simpa using ee
   simp only [Gd3_true]
   refine u_ite (fun ef => ?_) (fun ef => ?_)
   · have ef : fail = false := by simpa using ef
     obtain ⟨ct, sk, a⟩ := hth1.row
     simp only [anilck, afaddr, Nat.zero_add, Nat.reduceAdd, Do_of, td_w hok1 a, did_span l1.d]
     rw [show aeqAgg false [.n, .n] (I2 t1.st.wa t1.st.wl) (I2 A.1.at' A.1.len) = some (.bool (t1.st.wa == A.1.at' && (t1.st.wl == A.1.len && true))) from rfl]
     simp only [Do_of]
     refine k2 _ ⟨fun e => .inr ⟨ef, ?_⟩, fun e => ?_⟩
     · simp only [Bool.and_true, Bool.and_eq_true, beq_iff_eq] at e
       rw [e.1, e.2]
     · rcases e with e | e
       · rw [ee] at e; cases e
       · simp only [Prod.mk.injEq] at e
         rw [e.2.1, e.2.2]; simp
   · have ef : fail = true := by simpa using ef
     exact k2 false ⟨fun e => (by cases e), fun e => by rcases e with e | e; (rw [ee] at e; cases e); (rw [ef] at e; cases e.1)⟩
 · exact k2 true ⟨fun _ => .inl (by simpa using ee), fun _ => rfl⟩
theorem Step_ok {H : AH} {im ib : Nat} {ids : List Nat} {tks : List (Option Nat)} {m : Mch} {B : Nat} (h : MS H im ib ids tks m) (hg : m.good B) (hB : B < 1000000000) (n : Int) (fail : Bool) {Q : Post}
  (hQ : StepQ H im ib ids tks Q (stepM m n fail)) : ACall C K.f10 [.ptr im 0, .int .i64 n, .bool fail] H Q := by
 refine S.cl_f10 hT ?_
 unfold S.f10
 simp only [abox, if_true, DoH_some]
 have r0 := At.new H (.row didZ.cells)
 have E0 : AH.Ext H (H.push (.row didZ.cells)) := AH.Ext.push H _
 have h0 := h.frame E0.1 (fun j hj => E0.2 j (h.lt hj))
 have hr : ¬ FP im ib ids tks H.n := fun e => Nat.lt_irrefl _ (h.lt e)
 change ACall C K.f21 [.ptr im 0, .int .i64 n] (H.push (.row didZ.cells)) _
 have hHn : (H.push (.row didZ.cells)).n = H.n + 1 := rfl
 generalize H.push (.row didZ.cells) = H0 at *
 have v0 := Mv.ext E0 im ib ids tks
 have hir : H.n ≤ H.n := Nat.le_refl _
 have ret : ∀ (d : Did) (e : Int) (H' : AH) (tks' : List (Option Nat)) (m' : Mch), At H' H.n (.row didZ.cells) → MS H' im ib ids tks' m' → Mv H H' im ib ids tks tks' → stepM m n fail = (m', d, e) → ¬ FP im ib ids tks' H.n →
   Do (astore H' 15 (.ptr H.n 0) (.agg d.cells)) fun H1 => Do (aload H1 15 true (.ptr H.n 0)) fun x => Q (.tup [x, .int .i64 e]) H1 := by
  intro d e H' tks' m' hr' hm' hv' he hf
  rw [did_put hr' d]
  simp only [Do_of]
  rw [did_all (hr'.set _)]
  simp only [Do_of]
  rw [he] at hQ
  exact hQ _ tks' (hm'.side hf _) (hv'.side hir _)
 refine at_ok hGT hT h0 n (fun hb => ?_) (fun k i t tk hn hk hi htk hth => ?_)
 · simp only [anil, AV.isNil, Option.map_some, Do_of, Gd_true, if_true, Bool.false_eq_true, if_false]
   refine ⟨AV.agg didZ.cells, rfl, ?_⟩
   dsimp only
   refine ret didZ 1 H0 tks m r0 h0 v0 ?_ hr
   unfold stepM
   by_cases h1 : n < 0
   · rw [if_pos h1]
   · rw [if_neg h1, List.getElem?_eq_none (by omega)]
 · have hto : t.ok := hg.ok t (List.mem_of_getElem? hk)
   obtain ⟨ct, sk, a⟩ := hth.row
   have hst : stepM m n fail = stepT m k t fail := by
    unfold stepM
    rw [if_neg (by omega), hn, Int.toNat_natCast, hk]
   have hirI : H.n ≠ i := fun e => hr (.inr (.inr (.inl (e ▸ List.mem_of_getElem? hi))))
   simp only [anil, AV.isNil, Option.map_some, Do_of, Gd_true, if_true, Bool.false_eq_true, if_false, anilck, afaddr, Nat.zero_add, td_fin hto a, abin_neq]
   refine u_ite (fun h1 => ?_) (fun h1 => ?_)
   · refine ⟨AV.agg didZ.cells, rfl, ?_⟩
     dsimp only
     refine ret didZ 15 H0 tks m r0 h0 v0 ?_ hr
     rw [hst]
     unfold stepT
     rw [if_pos (by simpa using h1)]
   have hf0 : t.fin = 0 := by simpa using h1
   refine in_ok hGT hT hto hth ?_
   simp only [aun_not, Do_of, Gd_true]
   have fin2 : ∀ (H' : AH) (d : Did), At H' H.n (.row didZ.cells) → MS H' im ib ids tks m → Mv H H' im ib ids tks tks → stepM m n fail = (m.put k { t with fin := 2 }, d, 0) →
     Do (astore H' 1 (.ptr i 39) (.int .i64 2)) fun H1 => Do (astore H1 15 (.ptr H.n 0) (.agg d.cells)) fun H2 => Do (aload H2 15 true (.ptr H.n 0)) fun x => Q (.tup [x, .int .i64 0]) H2 := by
    intro H' d r' h' v' he
    obtain ⟨i', tk', hi', htk', hth'⟩ := h'.ths k t hk
    rw [hi] at hi'
    cases hi'
    obtain ⟨ct', sk', a'⟩ := hth'.row
    rw [td_setfin hto a']
    simp only [Do_of]
    obtain ⟨g1, g2⟩ := h'.put hk hi htk' hth' (hth'.set (t' := { t with fin := 2 }) (by rfl) ct' sk') (Tv.set H' i tk' _)
    rw [set_sameU htk'] at g1 g2
    exact ret d 0 _ tks _ (r'.set_ne hirI _) g1 (v'.trans g2) he hr
   refine u_ite (fun h2 => ?_) (fun h2 => ?_)
   · have hin : inM t = false := by simpa using h2
     obtain ⟨H1, e1, e2⟩ : ∃ H1, astore H0 1 (.ptr i 39) (.int .i64 2) = some H1 ∧ (Do (astore H1 15 (.ptr H.n 0) (.agg didZ.cells)) fun H2 => Do (aload H2 15 true (.ptr H.n 0)) fun x => Q (.tup [x, .int .i64 0]) H2) := fin2 H0 didZ r0 h0 v0 (by
       rw [hst]
       unfold stepT
       rw [if_neg (by omega), if_pos hin])
     rw [e1]
     simp only [Do_of]
     refine ⟨AV.agg didZ.cells, rfl, ?_⟩
     exact e2
   · have hin : inM t = true := by simpa using h2
     have hpc : 0 ≤ t.st.pc ∧ t.st.pc < t.code.length := by
      unfold inM at hin
      simp only [Bool.and_eq_true, decide_eq_true_eq] at hin
      exact hin
     obtain ⟨pc, hpcn⟩ : ∃ pc : Nat, t.st.pc = pc := ⟨t.st.pc.toNat, by omega⟩
     have hpl : pc < t.code.length := by omega
     obtain ⟨p, hp1, hp2⟩ := code_at hto hpl ct
     obtain ⟨q, hq1, hq2⟩ := site_at (t := t) (k := pc) (by rw [hto.len]; exact hpl) sk
     have hsi : stepM m n fail = stepI m k t fail (t.code.getD pc []) (t.sites.getD pc (0, 0, 0)) := by
      rw [hst]
      unfold stepT
      rw [if_neg (by omega), if_neg (by rw [hin]; decide), hpcn, Int.toNat_natCast]
     have hmem : t.code.getD pc [] ∈ t.code := by
      rw [List.getD_eq_getElem?_getD, List.getElem?_eq_getElem hpl]
      exact List.getElem_mem hpl
     have hl7 := hto.code _ hmem
     have hsv := hg.svc t (List.mem_of_getElem? hk) _ hmem
     generalize t.code.getD pc [] = ins at *
     generalize t.sites.getD pc (0, 0, 0) = s at *
     have pcv : ∀ {H' : AH}, At H' i (.row (t.cells ct sk tk)) → aload H' 1 false (.ptr i 33) = some (.int .i64 pc) := fun a' => by rw [td_pc hto a', hpcn]
     rw [td_code hto a]
     simp only [Do_of, Nat.reduceAdd, pcv a, hp1, hp2, td_sites hto a, hq1, hq2]
     refine ⟨.agg (⟨false, acZ, false, 0, 0, s⟩ : Did).cells, rfl, ?_⟩
     have hz : didZ.cells = [.bool false, .bool false, .int .i64 0, .int .i64 0, .bool false, .bool false, .bool false, .int .u64 0, .int .u64 0, .bool false, .int .u64 0, .int .u64 0, .int .i64 0, .int .i64 0, .int .i64 0] := rfl
     have a1 := a.push (.row [.int .i64 0, .int .i64 0, .int .i64 0, .int .i64 0, .int .i64 0, .int .i64 0, .int .i64 0])
     have x1 := At.new H0 (.row [.int .i64 0, .int .i64 0, .int .i64 0, .int .i64 0, .int .i64 0, .int .i64 0, .int .i64 0])
     have r1 := r0.push (.row [.int .i64 0, .int .i64 0, .int .i64 0, .int .i64 0, .int .i64 0, .int .i64 0, .int .i64 0])
     have E1 := AH.Ext.push H0 (.row [.int .i64 0, .int .i64 0, .int .i64 0, .int .i64 0, .int .i64 0, .int .i64 0, .int .i64 0])
     have n1 : (H0.push (.row [.int .i64 0, .int .i64 0, .int .i64 0, .int .i64 0, .int .i64 0, .int .i64 0, .int .i64 0])).n = H0.n + 1 := rfl
     generalize H0.push (.row [.int .i64 0, .int .i64 0, .int .i64 0, .int .i64 0, .int .i64 0, .int .i64 0, .int .i64 0]) = H1 at *
     refine ⟨td_code hto a1, pcv a1, trivial, td_sites hto a1, pcv a1, trivial, ?_⟩
     rw [← hz]
     have a2 := a1.push (.row didZ.cells)
     have x2 := x1.push (.row didZ.cells)
     have r2 := r1.push (.row didZ.cells)
     have d2 := At.new H1 (.row didZ.cells)
     have E2 := AH.Ext.push H1 (.row didZ.cells)
     have n2 : (H1.push (.row didZ.cells)).n = H1.n + 1 := rfl
     generalize H1.push (.row didZ.cells) = H2 at *
     refine ⟨td_code hto a2, pcv a2, trivial, td_sites hto a2, pcv a2, trivial, ?_⟩
     have hxi : H0.n ≠ i := fun e => by have := a.1; omega
     have hyi : H1.n ≠ i := fun e => by have := a1.1; omega
     have sx : astore H2 7 (.ptr H0.n 0) (.agg (IV ins)) = some (H2.set H0.n (.row (IV ins))) := by
      rw [x2.store, if_pos ⟨rfl, by simpa [AV.cells] using hl7, by simp [AV.cells, IV, AV.scalar], by simp⟩]
      congr 3
      exact setCells_all (by simp [AV.cells, hl7])
     rw [sx]
     simp only [Do_of]
     have a3 := a2.set_ne hxi.symm (.row (IV ins))
     refine ⟨td_sites hto a3, pcv a3, trivial, ?_⟩
     have nx : H0.n ≠ H1.n := by omega
     have d3 := d2.set_ne nx.symm (.row (IV ins))
     have x3 := x2.set (.row (IV ins))
     have r3 := r2.set_ne (show H.n ≠ H0.n by omega) (.row (IV ins))
     have hfx : ¬ FP im ib ids tks H0.n := fun e => Nat.lt_irrefl _ (h0.lt e)
     have hfy : ¬ FP im ib ids tks H1.n := fun e => by have := h0.lt e; omega
     have v3 := ((v0.trans (Mv.ext E1 im ib ids tks)).trans (Mv.ext E2 im ib ids tks)).side (show H.n ≤ H0.n by omega) (.row (IV ins))
     have h3 := ((h0.frame E1.1 (fun j hj => E1.2 j (h0.lt hj))).frame E2.1 (fun j hj => E2.2 j (by have := h0.lt hj; omega))).side hfx (.row (IV ins))
     generalize H2.set H0.n (.row (IV ins)) = H3 at *
     rw [did_put d3 ⟨false, acZ, false, 0, 0, s⟩]
     simp only [Do_of]
     have L4 : Lc (H3.set H1.n (.row (⟨false, acZ, false, 0, 0, s⟩ : Did).cells)) (FP im ib ids tks) H.n H0.n H1.n ins ⟨false, acZ, false, 0, 0, s⟩ :=
      ⟨r3.set_ne (show H.n ≠ H1.n by omega) _, x3.set_ne nx _, d3.set _, hr, hfx, hfy, by omega, by omega, nx⟩
     have a4 := a3.set_ne hyi.symm (.row (⟨false, acZ, false, 0, 0, s⟩ : Did).cells)
     have h4 := h3.side hfy (.row (⟨false, acZ, false, 0, 0, s⟩ : Did).cells)
     have v4 := v3.side (show H.n ≤ H1.n by omega) (.row (⟨false, acZ, false, 0, 0, s⟩ : Did).cells)
     generalize H3.set H1.n (.row (⟨false, acZ, false, 0, 0, s⟩ : Did).cells) = H4 at *
     have lx : aload H4 7 true (.ptr H0.n 0) = some (.agg (IV ins)) := by rw [L4.x.load]; exact takeCells_whole (by simpa using hl7)
     rw [td_st hto a4]
     simp only [Do_of, lx]
     refine Ask_ok hGT hT hto.st hl7 _ _ ?_
     simp only [aextract, List.getElem?_cons_zero, List.getElem?_cons_succ, Do_of]
     rw [did_ask L4.d]
     simp only [Do_of]
     have L5 := L4.setd ⟨false, (askM t.st ins).1, false, 0, 0, s⟩
     rw [did_any L5.d]
     simp only [Do_of]
     have L6 := L5.setd ⟨(askM t.st ins).2, (askM t.st ins).1, false, 0, 0, s⟩
     have h6 := (h4.side hfy (.row (⟨false, (askM t.st ins).1, false, 0, 0, s⟩ : Did).cells)).side hfy (.row (⟨(askM t.st ins).2, (askM t.st ins).1, false, 0, 0, s⟩ : Did).cells)
     have v6 := (v4.side (show H.n ≤ H1.n by omega) (.row (⟨false, (askM t.st ins).1, false, 0, 0, s⟩ : Did).cells)).side (show H.n ≤ H1.n by omega) (.row (⟨(askM t.st ins).2, (askM t.st ins).1, false, 0, 0, s⟩ : Did).cells)
     generalize (H4.set H1.n (.row (⟨false, (askM t.st ins).1, false, 0, 0, s⟩ : Did).cells)).set H1.n (.row (⟨(askM t.st ins).2, (askM t.st ins).1, false, 0, 0, s⟩ : Did).cells) = H6 at *
     rw [did_l L6.d 0 (.bool (askM t.st ins).2) rfl (by decide)]
     simp only [Do_of, Gd3_true]
     have k4 : ∀ b : Bool, (b = true ↔ (askM t.st ins).2 = true ∧ thereM m (askM t.st ins).1 = false) → S.f10_k4 (ACall C) (.ptr im 0) (.bool fail) (.ptr H.n 0) (.ptr i 0) (.ptr H0.n 0) (.ptr H1.n 0) Q [.bool b] H6 := by
      intro b hb
      simp only [S.f10_k4, sl_zero, Gd_true, anilck, afaddr, Nat.zero_add, Do_of, JoinP_def]
      refine u_ite (fun e => ?_) (fun e => ?_)
      · have hc := hb.1 e
        obtain ⟨H7, e1, e2⟩ : ∃ H7, astore H6 1 (.ptr i 39) (.int .i64 2) = some H7 ∧ (Do (astore H7 15 (.ptr H.n 0) (.agg (⟨(askM t.st ins).2, (askM t.st ins).1, false, 0, 0, s⟩ : Did).cells)) fun H2 => Do (aload H2 15 true (.ptr H.n 0)) fun x => Q (.tup [x, .int .i64 0]) H2) := fin2 H6 _ L6.r h6 v6 (by
          rw [hsi]
          unfold stepI
          rw [if_pos hc, hc.1])
        rw [e1]
        simp only [Do_of]
        obtain ⟨i', tk', hi', htk', hth'⟩ := h6.ths k t hk
        rw [hi] at hi'
        cases hi'
        obtain ⟨ct', sk', a'⟩ := hth'.row
        have e3 := td_setfin hto a' 2
        rw [e1] at e3
        cases e3
        rw [did_all (L6.d.set_ne (fun e => hyi e) _)]
        simp only [Do_of]
        exact e2
      · have hc : ¬ ((askM t.st ins).2 = true ∧ thereM m (askM t.st ins).1 = false) := fun e' => by rw [hb.2 e'] at e; cases e
        refine step_k3 hGT hT h6 v6 L6 hir (show H.n ≤ H1.n by omega) hk hg hB hi hl7 hsv (fun ea => ?_) ?_
        · exact ask_at hto.st hl7 hg.b ea (by
            by_cases e' : thereM m (askM t.st ins).1 = true
            · exact e'
            · exact absurd ⟨ea, by simpa using e'⟩ hc)
        · rw [hsi] at hQ
          unfold stepI at hQ
          rw [if_neg hc] at hQ
          exact hQ
     refine u_ite (fun ea => ?_) (fun ea => ?_)
     · rw [did_span L6.d]
       simp only [Do_of]
       refine there_ok hGT hT h6 _ _ ?_
       simp only [aun_not, Do_of, JoinP_def]
       refine k4 _ ?_
       unfold thereM
       rw [ea]
       simp only [true_and]
       generalize (decide ((askM t.st ins).1.at' ≥ 65536) && spWithin ((askM t.st ins).1.at', (askM t.st ins).1.len) (65536, (m.bytes.length : Int))) = bb
       cases bb <;> decide
     · simp only [JoinP_def]
       exact k4 false ⟨fun e => (by cases e), fun e => by rw [e.1] at ea; cases ea⟩
end
end Rb

namespace Rb
open Go
structure MKeep (m m' : Mch) : Prop where
 n : m'.ths.length = m.ths.length
 b : m'.bytes.length = m.bytes.length
 s : m'.size = m.size
 t : m'.taken = m.taken
theorem MKeep.refl (m : Mch) : MKeep m m := ⟨rfl, rfl, rfl, rfl⟩
theorem MKeep.trans {a b c : Mch} (h : MKeep a b) (k : MKeep b c) : MKeep a c := ⟨k.n.trans h.n, k.b.trans h.b, k.s.trans h.s, k.t.trans h.t⟩
theorem MKeep.put (m : Mch) (k : Nat) (t : Thd) : MKeep m (m.put k t) := ⟨by simp [Mch.put], rfl, rfl, rfl⟩
theorem MKeep.write (m : Mch) (k : Nat) (a : Acc) : MKeep m (writeM m k a) := ⟨by unfold writeM unwMc; exact unwM_len _ _ _ _ _, by unfold writeM unwMc; exact wrB_len _ _ _ _ _, rfl, rfl⟩
theorem MKeep.endT (m : Mch) (k : Nat) (i : List Int) (d : Did) : MKeep m (endT m k i d) := by
 unfold Rb.endT
 split
 · exact MKeep.put _ _ _
 · exact MKeep.refl m
theorem MKeep.memM (m : Mch) (k : Nat) (t : Thd) (a : Acc × Bool) (f : Bool) : MKeep m (memM m k t a f).1 := by
 unfold Rb.memM
 refine ite_P (fun z : Mch × Bool × Int × Int => MKeep m z.1) (fun _ => MKeep.refl m) (fun _ => ?_)
 refine ite_P (fun z : Mch × Bool × Int × Int => MKeep m z.1) (fun _ => MKeep.refl m) (fun _ => ?_)
 exact ite_P (fun z : Mch × Bool × Int × Int => MKeep m z.1) (fun _ => MKeep.write m k _) (fun _ => MKeep.refl m)
theorem MKeep.stepM (m : Mch) (n : Int) (f : Bool) : MKeep m (stepM m n f).1 := by
 unfold Rb.stepM
 refine ite_P (fun z : Mch × Did × Int => MKeep m z.1) (fun _ => MKeep.refl m) (fun _ => ?_)
 cases m.ths[n.toNat]? with
 | none => exact MKeep.refl m
 | some t =>
  dsimp only
  unfold stepT
  refine ite_P (fun z : Mch × Did × Int => MKeep m z.1) (fun _ => MKeep.refl m) (fun _ => ?_)
  refine ite_P (fun z : Mch × Did × Int => MKeep m z.1) (fun _ => MKeep.put _ _ _) (fun _ => ?_)
  unfold stepI
  refine ite_P (fun z : Mch × Did × Int => MKeep m z.1) (fun _ => MKeep.put _ _ _) (fun _ => ?_)
  unfold endM
  exact (MKeep.put _ _ _).trans ((MKeep.memM _ _ _ _ _).trans (MKeep.endT _ _ _ _))
structure Thd.gd (t : Thd) (B : Nat) : Prop where
 ok : t.ok
 pr : t.prints.length ≤ B
 svc : ∀ i ∈ t.code, gi i 0 = 31 → 0 ≤ gi i 6
theorem Mch.good.gd {m : Mch} {B : Nat} (h : m.good B) : ∀ t ∈ m.ths, t.gd B := fun t ht => ⟨h.ok t ht, h.pr t ht, h.svc t ht⟩
theorem good_of {m m' : Mch} {B C : Nat} (h : m.good B) (k : MKeep m m') (g : ∀ t ∈ m'.ths, t.gd C) : m'.good C := ⟨fun t ht => (g t ht).ok, fun t ht => (g t ht).pr, by rw [k.n]; exact h.n, by rw [k.b]; exact h.b, fun t ht => (g t ht).svc⟩
theorem Mch.good.mono {m : Mch} {B C : Nat} (h : m.good B) (hB : B ≤ C) : m.good C := good_of h (MKeep.refl m) fun t ht => ⟨(h.gd t ht).ok, Nat.le_trans (h.gd t ht).pr hB, (h.gd t ht).svc⟩
theorem Mch.good.put {m : Mch} {B : Nat} (h : m.good B) {k : Nat} {t : Thd} (ht : t.gd B) : (m.put k t).good B := good_of h (MKeep.put m k t) fun u hu => by
 rcases List.mem_or_eq_of_mem_set hu with hu | rfl
 · exact h.gd _ hu
 · exact ht
theorem unwM_P {P : Thd → Prop} (hP : ∀ t, P t → P { t with st := { t.st with wa := 0, wl := 0 } }) (by' : Nat) (sp : Int × Int) : ∀ (r : Nat) (ths : List Thd) (k : Nat), (∀ t ∈ ths, P t) → ∀ t ∈ unwM by' sp ths k r, P t
 | 0, _, _, h => h
 | r + 1, ths, k, h => by
  unfold unwM
  refine unwM_P hP by' sp r _ (k + 1) ?_
  cases hk : ths[k]? with
  | none => exact h
  | some t =>
   dsimp only
   intro u hu
   rcases List.mem_or_eq_of_mem_set hu with hu | rfl
   · exact h _ hu
   · have ht := h t (List.mem_of_getElem? hk)
     unfold watM
     exact ite_P P (fun _ => hP _ ht) (fun _ => ht)
theorem Mch.good.write {m : Mch} {B : Nat} (h : m.good B) (k : Nat) (a : Acc) : (writeM m k a).good B := good_of h (MKeep.write m k a) (by
  unfold writeM unwMc
  exact unwM_P (P := fun t => t.gd B) (fun t ht => ⟨⟨ok_w ht.ok.st 0 0, ht.ok.code, ht.ok.len, ht.ok.pr⟩, ht.pr, ht.svc⟩) _ _ _ _ _ h.gd)
theorem Mch.good.endT {m : Mch} {B : Nat} (h : m.good B) (k : Nat) {i : List Int} (hl : i.length = 7) {d : Did} (u0 : U64 d.g0) (u1 : U64 d.g1) : (endT m k i d).good B := by
 unfold Rb.endT
 cases hk : m.ths[k]? with
 | none => exact h
 | some t =>
  have ht := h.gd t (List.mem_of_getElem? hk)
  exact h.put ⟨⟨nextM_ok ht.ok.st hl u0 u1, ht.ok.code, ht.ok.len, ht.ok.pr⟩, ht.pr, ht.svc⟩
theorem memM_u (m : Mch) (k : Nat) (t : Thd) (a : Acc × Bool) (f : Bool) : U64 (memM m k t a f).2.2.1 ∧ U64 (memM m k t a f).2.2.2 := by
 have z : U64 0 := ⟨by decide, by decide⟩
 unfold Rb.memM
 refine ite_P (fun w : Mch × Bool × Int × Int => U64 w.2.2.1 ∧ U64 w.2.2.2) (fun _ => ⟨z, z⟩) (fun _ => ?_)
 refine ite_P (fun w : Mch × Bool × Int × Int => U64 w.2.2.1 ∧ U64 w.2.2.2) (fun _ => ⟨numB8_u _, numB8_u _⟩) (fun _ => ?_)
 exact ite_P (fun w : Mch × Bool × Int × Int => U64 w.2.2.1 ∧ U64 w.2.2.2) (fun _ => ⟨z, z⟩) (fun _ => ⟨z, z⟩)
theorem Mch.good.memM {m : Mch} {B : Nat} (h : m.good B) (k : Nat) (t : Thd) (a : Acc × Bool) (f : Bool) : (memM m k t a f).1.good B := by
 unfold Rb.memM
 refine ite_P (fun z : Mch × Bool × Int × Int => z.1.good B) (fun _ => h) (fun _ => ?_)
 refine ite_P (fun z : Mch × Bool × Int × Int => z.1.good B) (fun _ => h) (fun _ => ?_)
 exact ite_P (fun z : Mch × Bool × Int × Int => z.1.good B) (fun _ => h.write k _) (fun _ => h)
theorem Mch.good.step {m : Mch} {B : Nat} (h : m.good B) (hB : B < 1000000000) (n : Int) (f : Bool) : (stepM m n f).1.good (B + 1) := by
 have h1 := h.mono (Nat.le_succ B)
 unfold Rb.stepM
 refine ite_P (fun z : Mch × Did × Int => z.1.good (B + 1)) (fun _ => h1) (fun _ => ?_)
 cases hk : m.ths[n.toNat]? with
 | none => exact h1
 | some t =>
  dsimp only
  have ht := h.gd t (List.mem_of_getElem? hk)
  have hf : (m.put n.toNat { t with fin := 2 }).good (B + 1) := h1.put ⟨⟨ht.ok.st, ht.ok.code, ht.ok.len, ht.ok.pr⟩, Nat.le_succ_of_le ht.pr, ht.svc⟩
  unfold stepT
  refine ite_P (fun z : Mch × Did × Int => z.1.good (B + 1)) (fun _ => h1) (fun _ => ?_)
  refine ite_P (fun z : Mch × Did × Int => z.1.good (B + 1)) (fun _ => hf) (fun hin => ?_)
  have hin : inM t = true := by simpa using hin
  unfold inM at hin
  simp only [Bool.and_eq_true, decide_eq_true_eq] at hin
  have hpl : t.st.pc.toNat < t.code.length := by omega
  have hmem : t.code.getD t.st.pc.toNat [] ∈ t.code := by
   rw [List.getD_eq_getElem?_getD, List.getElem?_eq_getElem hpl]
   exact List.getElem_mem hpl
  have hl7 := ht.ok.code _ hmem
  unfold stepI
  refine ite_P (fun z : Mch × Did × Int => z.1.good (B + 1)) (fun _ => hf) (fun _ => ?_)
  unfold endM
  have hu := memM_u (m.put n.toNat (stopsM t (t.code.getD t.st.pc.toNat []))) n.toNat (stopsM t (t.code.getD t.st.pc.toNat [])) (askM t.st (t.code.getD t.st.pc.toNat [])) f
  obtain ⟨e1, e2, e3, e4⟩ := stopsM_st t (t.code.getD t.st.pc.toNat [])
  have hp := ht.pr
  exact ((h1.put (t := stopsM t (t.code.getD t.st.pc.toNat [])) ⟨stopsM_ok ht.ok _ (by omega), by omega, by rw [e2]; exact ht.svc⟩).memM _ _ _ _).endT _ hl7 hu.1 hu.2
theorem unwM_at (by' : Nat) (sp : Int × Int) : ∀ (r : Nat) (ths : List Thd) (k j : Nat), ((unwM by' sp ths k r)[j]?).map Thd.fin = (ths[j]?).map Thd.fin
 | 0, _, _, _ => rfl
 | r + 1, ths, k, j => by
  unfold unwM
  rw [unwM_at by' sp r]
  cases hk : ths[k]? with
  | none => rfl
  | some t =>
   dsimp only
   rw [List.getElem?_set]
   by_cases hj : k = j
   · subst hj
     rw [if_pos rfl, if_pos (lt_of_some hk), hk]
     unfold watM
     show some (Thd.fin (if _ then _ else _)) = some t.fin
     split <;> rfl
   · rw [if_neg hj]
theorem fin_put {m : Mch} {k j : Nat} (h : k ≠ j) (t : Thd) : ((m.put k t).ths[j]?).map Thd.fin = (m.ths[j]?).map Thd.fin := by
 show ((m.ths.set k t)[j]?).map Thd.fin = _
 rw [List.getElem?_set, if_neg h]
theorem fin_endT {m : Mch} {k j : Nat} (h : k ≠ j) (i : List Int) (d : Did) : ((endT m k i d).ths[j]?).map Thd.fin = (m.ths[j]?).map Thd.fin := by
 unfold Rb.endT
 split
 · exact fin_put h _
 · rfl
theorem fin_memM (m : Mch) (k : Nat) (t : Thd) (a : Acc × Bool) (f : Bool) (j : Nat) : ((memM m k t a f).1.ths[j]?).map Thd.fin = (m.ths[j]?).map Thd.fin := by
 unfold Rb.memM
 refine ite_P (fun z : Mch × Bool × Int × Int => (z.1.ths[j]?).map Thd.fin = (m.ths[j]?).map Thd.fin) (fun _ => rfl) (fun _ => ?_)
 refine ite_P (fun z : Mch × Bool × Int × Int => (z.1.ths[j]?).map Thd.fin = (m.ths[j]?).map Thd.fin) (fun _ => rfl) (fun _ => ?_)
 refine ite_P (fun z : Mch × Bool × Int × Int => (z.1.ths[j]?).map Thd.fin = (m.ths[j]?).map Thd.fin) (fun _ => ?_) (fun _ => rfl)
 unfold writeM unwMc
 exact unwM_at _ _ _ _ _ _
theorem step_fin (m : Mch) {k j : Nat} (h : k ≠ j) (f : Bool) : ((stepM m k f).1.ths[j]?).map Thd.fin = (m.ths[j]?).map Thd.fin := by
 unfold Rb.stepM
 refine ite_P (fun z : Mch × Did × Int => (z.1.ths[j]?).map Thd.fin = (m.ths[j]?).map Thd.fin) (fun _ => rfl) (fun _ => ?_)
 rw [Int.toNat_natCast]
 cases m.ths[k]? with
 | none => rfl
 | some t =>
  dsimp only
  unfold stepT
  refine ite_P (fun z : Mch × Did × Int => (z.1.ths[j]?).map Thd.fin = (m.ths[j]?).map Thd.fin) (fun _ => rfl) (fun _ => ?_)
  refine ite_P (fun z : Mch × Did × Int => (z.1.ths[j]?).map Thd.fin = (m.ths[j]?).map Thd.fin) (fun _ => fin_put h _) (fun _ => ?_)
  unfold stepI
  refine ite_P (fun z : Mch × Did × Int => (z.1.ths[j]?).map Thd.fin = (m.ths[j]?).map Thd.fin) (fun _ => fin_put h _) (fun _ => ?_)
  unfold endM
  rw [fin_endT h, fin_memM, fin_put h]
theorem step_done {m : Mch} {k : Nat} {t : Thd} (hk : m.ths[k]? = some t) (f : Bool) : (stepM m k f).2.2 = 15 ↔ t.fin ≠ 0 := by
 unfold Rb.stepM
 rw [if_neg (by omega), Int.toNat_natCast, hk]
 dsimp only
 unfold stepT
 by_cases h : t.fin ≠ 0
 · rw [if_pos h]; exact ⟨fun _ => h, fun _ => rfl⟩
 · rw [if_neg h]
   refine ⟨fun e => ?_, fun e => absurd e h⟩
   exfalso
   revert e
   refine ite_P (fun z : Mch × Did × Int => z.2.2 = 15 → False) (fun _ e => by cases e) (fun _ => ?_)
   unfold stepI
   exact ite_P (fun z : Mch × Did × Int => z.2.2 = 15 → False) (fun _ e => by cases e) (fun _ e => by cases e)
structure Mch.inv (m : Mch) : Prop where
 g : m.good m.taken.toNat
 t0 : 0 ≤ m.taken
 t1 : m.taken ≤ 65536
def Mch.tick (m : Mch) : Mch := { m with taken := m.taken + 1 }
def someM (fail : Bool) (k : Nat) : Nat → Mch → Mch × Int
 | 0, m => (m, 0)
 | c + 1, m => match m.ths[k]? with
  | none => (m, 0)
  | some t => if t.fin ≠ 0 then (m, 0) else if m.taken ≥ 65536 then (m, 16) else someM fail k c (stepM m.tick k fail).1
def innM : Nat → Bool → Mch → Nat → Bool × Mch × Int
 | 0, g, m, _ => (g, m, 0)
 | r + 1, g, m, k => match m.ths[k]? with
  | none => (g, m, 0)
  | some t => if (someM false k 1 m).2 ≠ 0 then (g, someM false k 1 m) else innM r (g || t.fin == 0) (someM false k 1 m).1 (k + 1)
def allM : Nat → Mch → Mch × Int
 | 0, m => (m, 0)
 | c + 1, m => if (innM m.ths.length false m 0).2.2 ≠ 0 then (innM m.ths.length false m 0).2 else if (innM m.ths.length false m 0).1 = false then (innM m.ths.length false m 0).2 else allM c (innM m.ths.length false m 0).2.1
def cntM (s : Int × Int × Int) : Int := if s.1 = 3 then s.2.1 else s.2.2
def badM (m : Mch) (s : Int × Int × Int) : Prop := s.1 < 1 ∨ s.1 > 3 ∨ (s.1 ≠ 3 ∧ (s.2.1 < 0 ∨ s.2.1 ≥ m.ths.length)) ∨ (s.1 ≠ 2 ∧ (cntM s < 0 ∨ cntM s > 65536))
instance (m : Mch) (s : Int × Int × Int) : Decidable (badM m s) := by unfold badM; infer_instance
def actM (m : Mch) (s : Int × Int × Int) : Mch × Int :=
 if badM m s then (m, 1) else
 if s.1 = 1 then someM false s.2.1.toNat (cntM s).toNat m else
 if s.1 = 2 then someM true s.2.1.toNat 1 m else allM (cntM s).toNat m
def scrM : List (Int × Int × Int) → Mch → Nat → Mch × Nat × Int
 | [], m, n => (m, n, 0)
 | s :: r, m, n => if (actM m s).2 ≠ 0 then ((actM m s).1, n, (actM m s).2) else scrM r (actM m s).1 (n + 1)
theorem Mch.inv.tick {m : Mch} (h : m.inv) (ht : m.taken < 65536) (k : Int) (f : Bool) : (stepM m.tick k f).1.inv := by
 have h0 := h.t0
 have hg : m.tick.good m.taken.toNat := ⟨h.g.ok, h.g.pr, h.g.n, h.g.b, h.g.svc⟩
 have k1 : (stepM m.tick k f).1.taken = m.taken + 1 := (MKeep.stepM m.tick k f).t
 have := hg.step (by omega) k f
 refine ⟨?_, by omega, by omega⟩
 rw [k1, show (m.taken + 1).toNat = m.taken.toNat + 1 by omega]
 exact this
theorem someM_inv (fail : Bool) (k : Nat) : ∀ (c : Nat) (m : Mch), m.inv → (someM fail k c m).1.inv ∧ (someM fail k c m).1.ths.length = m.ths.length ∧ (someM fail k c m).1.bytes.length = m.bytes.length ∧ (someM fail k c m).1.size = m.size
 | 0, m, h => ⟨h, rfl, rfl, rfl⟩
 | c + 1, m, h => by
  unfold someM
  cases m.ths[k]? with
  | none => exact ⟨h, rfl, rfl, rfl⟩
  | some t =>
   dsimp only
   refine ite_P (fun z : Mch × Int => z.1.inv ∧ z.1.ths.length = m.ths.length ∧ z.1.bytes.length = m.bytes.length ∧ z.1.size = m.size) (fun _ => ⟨h, rfl, rfl, rfl⟩) (fun _ => ?_)
   refine ite_P (fun z : Mch × Int => z.1.inv ∧ z.1.ths.length = m.ths.length ∧ z.1.bytes.length = m.bytes.length ∧ z.1.size = m.size) (fun _ => ⟨h, rfl, rfl, rfl⟩) (fun ht => ?_)
   obtain ⟨a, b, c', d⟩ := someM_inv fail k c (stepM m.tick k fail).1 (h.tick (by omega) k fail)
   have K := MKeep.stepM m.tick k fail
   exact ⟨a, b.trans K.n, c'.trans K.b, d.trans K.s⟩
theorem innM_inv : ∀ (r : Nat) (g : Bool) (m : Mch) (k : Nat), m.inv → (innM r g m k).2.1.inv ∧ (innM r g m k).2.1.ths.length = m.ths.length ∧ (innM r g m k).2.1.bytes.length = m.bytes.length ∧ (innM r g m k).2.1.size = m.size
 | 0, g, m, k, h => ⟨h, rfl, rfl, rfl⟩
 | r + 1, g, m, k, h => by
  unfold innM
  cases m.ths[k]? with
  | none => exact ⟨h, rfl, rfl, rfl⟩
  | some t =>
   dsimp only
   have hs := someM_inv false k 1 m h
   refine ite_P (fun z : Bool × Mch × Int => z.2.1.inv ∧ z.2.1.ths.length = m.ths.length ∧ z.2.1.bytes.length = m.bytes.length ∧ z.2.1.size = m.size) (fun _ => hs) (fun _ => ?_)
   obtain ⟨a, b, c, d⟩ := innM_inv r (g || t.fin == 0) (someM false k 1 m).1 (k + 1) hs.1
   exact ⟨a, b.trans hs.2.1, c.trans hs.2.2.1, d.trans hs.2.2.2⟩
theorem allM_inv : ∀ (c : Nat) (m : Mch), m.inv → (allM c m).1.inv ∧ (allM c m).1.ths.length = m.ths.length ∧ (allM c m).1.bytes.length = m.bytes.length ∧ (allM c m).1.size = m.size
 | 0, m, h => ⟨h, rfl, rfl, rfl⟩
 | c + 1, m, h => by
  unfold allM
  have hs := innM_inv m.ths.length false m 0 h
  refine ite_P (fun z : Mch × Int => z.1.inv ∧ z.1.ths.length = m.ths.length ∧ z.1.bytes.length = m.bytes.length ∧ z.1.size = m.size) (fun _ => hs) (fun _ => ?_)
  refine ite_P (fun z : Mch × Int => z.1.inv ∧ z.1.ths.length = m.ths.length ∧ z.1.bytes.length = m.bytes.length ∧ z.1.size = m.size) (fun _ => hs) (fun _ => ?_)
  obtain ⟨a, b, c', d⟩ := allM_inv c (innM m.ths.length false m 0).2.1 hs.1
  exact ⟨a, b.trans hs.2.1, c'.trans hs.2.2.1, d.trans hs.2.2.2⟩
theorem actM_inv (m : Mch) (s : Int × Int × Int) (h : m.inv) : (actM m s).1.inv ∧ (actM m s).1.ths.length = m.ths.length ∧ (actM m s).1.bytes.length = m.bytes.length ∧ (actM m s).1.size = m.size := by
 unfold actM
 refine ite_P (fun z : Mch × Int => z.1.inv ∧ z.1.ths.length = m.ths.length ∧ z.1.bytes.length = m.bytes.length ∧ z.1.size = m.size) (fun _ => ⟨h, rfl, rfl, rfl⟩) (fun _ => ?_)
 refine ite_P (fun z : Mch × Int => z.1.inv ∧ z.1.ths.length = m.ths.length ∧ z.1.bytes.length = m.bytes.length ∧ z.1.size = m.size) (fun _ => someM_inv _ _ _ m h) (fun _ => ?_)
 exact ite_P (fun z : Mch × Int => z.1.inv ∧ z.1.ths.length = m.ths.length ∧ z.1.bytes.length = m.bytes.length ∧ z.1.size = m.size) (fun _ => someM_inv _ _ _ m h) (fun _ => allM_inv _ m h)
theorem scrM_inv : ∀ (l : List (Int × Int × Int)) (m : Mch) (n : Nat), m.inv → (scrM l m n).1.inv ∧ (scrM l m n).1.ths.length = m.ths.length ∧ (scrM l m n).1.bytes.length = m.bytes.length ∧ (scrM l m n).1.size = m.size
 | [], m, n, h => ⟨h, rfl, rfl, rfl⟩
 | s :: r, m, n, h => by
  unfold scrM
  have hs := actM_inv m s h
  refine ite_P (fun z : Mch × Nat × Int => z.1.inv ∧ z.1.ths.length = m.ths.length ∧ z.1.bytes.length = m.bytes.length ∧ z.1.size = m.size) (fun _ => hs) (fun _ => ?_)
  obtain ⟨a, b, c', d⟩ := scrM_inv r (actM m s).1 (n + 1) hs.1
  exact ⟨a, b.trans hs.2.1, c'.trans hs.2.2.1, d.trans hs.2.2.2⟩
theorem scrM_split : ∀ (a b : List (Int × Int × Int)) (m : Mch) (n : Nat), scrM (a ++ b) m n = if (scrM a m n).2.2 ≠ 0 then scrM a m n else scrM b (scrM a m n).1 (n + a.length)
 | [], b, m, n => by simp [scrM]
 | s :: r, b, m, n => by
  have e : ∀ l, scrM (s :: l) m n = if (actM m s).2 ≠ 0 then ((actM m s).1, n, (actM m s).2) else scrM l (actM m s).1 (n + 1) := fun l => rfl
  rw [List.cons_append, e, e]
  by_cases h : (actM m s).2 ≠ 0
  · rw [if_pos h, if_pos h, if_pos h]
  · rw [if_neg h, if_neg h, scrM_split r b, List.length_cons, show n + 1 + r.length = n + (r.length + 1) by omega]
theorem scrM_from : ∀ (l : List (Int × Int × Int)) (m : Mch) (n j : Nat), (scrM l m (n + j)).1 = (scrM l m n).1 ∧ (scrM l m (n + j)).2.1 = (scrM l m n).2.1 + j ∧ (scrM l m (n + j)).2.2 = (scrM l m n).2.2
 | [], m, n, j => ⟨rfl, rfl, rfl⟩
 | s :: r, m, n, j => by
  unfold scrM
  by_cases h : (actM m s).2 ≠ 0
  · rw [if_pos h, if_pos h]; exact ⟨rfl, rfl, rfl⟩
  · rw [if_neg h, if_neg h, show n + j + 1 = n + 1 + j by omega]
    exact scrM_from r _ (n + 1) j
theorem scrM_all : ∀ (l : List (Int × Int × Int)) (m : Mch) (n : Nat), (scrM l m n).2.2 = 0 → (scrM l m n).2.1 = n + l.length
 | [], m, n, _ => rfl
 | s :: r, m, n, h => by
  unfold scrM at h ⊢
  by_cases e : (actM m s).2 ≠ 0
  · rw [if_pos e] at h; exact absurd h e
  · rw [if_neg e] at h ⊢
    rw [scrM_all r _ _ h, List.length_cons]; omega
end Rb

namespace Rb
open Go
theorem MS.tick {H : AH} {im ib : Nat} {ids : List Nat} {tks : List (Option Nat)} {m : Mch} (h : MS H im ib ids tks m) (v : Int) :
  ∃ H', astore H 1 (.ptr im 3) (.int .i64 v) = some H' ∧ MS H' im ib ids tks { m with taken := v } ∧ Mv H H' im ib ids tks tks := by
 obtain ⟨tt, a⟩ := h.row
 have hnd := h.nd
 rw [List.nodup_cons, List.nodup_cons] at hnd
 obtain ⟨n1, n2, n3⟩ := hnd
 have hib : ib ≠ im := fun e => n1 (e ▸ List.mem_cons_self ..)
 refine ⟨H.set im (.row [.lst tt m.ths.length (ids.map fun i => .ptr i 0), .row ib 0 m.bytes.length 1, .int .i64 m.size, .int .i64 v]), ?_, ⟨⟨tt, a.set _⟩, h.bytes.set_ne hib _, h.idl, h.tkl, h.nd, h.nt, fun k t hk => ?_⟩, ⟨Nat.le_refl _, fun j _ hf => AH.set_ne H _ (fun e => hf (.inl e)), fun _ e => .inl e⟩⟩
 · rw [a.store, if_pos ⟨rfl, rfl, rfl, (by decide : 3 + 1 ≤ 4)⟩]; rfl
 · obtain ⟨i, tk, h1, h2, h3⟩ := h.ths k t hk
   refine ⟨i, tk, h1, h2, h3.frame (Nat.le_refl _) (AH.set_ne H _ fun e => n1 (e ▸ List.mem_cons_of_mem _ (List.mem_of_getElem? h1))) fun q hq => AH.set_ne H _ fun e => ?_⟩
   subst hq
   have hq' : At H q (.tok t.prints.length 1) := h3.tok
   exact (AObj.noConfusion (hq'.2.symm.trans (e ▸ a.2)) : False)
section
variable {C : Ctx} (hGT : GTok C) (hT : Cl (ACall C) S.tab_Mch)
include hGT hT
theorem some_loop {im ib i k : Nat} {ids : List Nat} (hi : ids[k]? = some i) (fail : Bool) (count : Int) (hc : count ≤ 65536) {Q : Post} : ∀ (r s : Nat) (m : Mch) (H : AH) (tks : List (Option Nat)), (s : Int) + r = count → MS H im ib ids tks m → m.inv →
  (∀ H' tks', MS H' im ib ids tks' (someM fail k r m).1 → Mv H H' im ib ids tks tks' → Q (.int .i64 (someM fail k r m).2) H') →
  LoopP (S.f32_l1 (ACall C) (.ptr im 0) (.int .i64 k) (.int .i64 count) (.bool fail) Q) ([.int .i64 s], H) := by
 intro r
 induction r with
 | zero =>
  intro s m H tks hs h hv hQ
  refine LoopP.step ?_
  simp only [S.f32_l1, sl_zero, abin_lss, Do_of, Gd_true]
  rw [if_neg (by simp only [decide_eq_true_eq]; omega)]
  exact hQ H tks h (Mv.refl _ _ _ _ _)
 | succ r ih =>
  intro s m H tks hs h hv hQ
  refine LoopP.step ?_
  simp only [S.f32_l1, sl_zero, abin_lss, Do_of, Gd_true]
  rw [if_pos (by simp only [decide_eq_true_eq]; omega)]
  have hlt : k < m.ths.length := by rw [← h.idl]; exact lt_of_some hi
  have hk0 : m.ths[k]? = some m.ths[k] := List.getElem?_eq_getElem hlt
  obtain ⟨i', tk, hi', htk, hth⟩ := h.ths k _ hk0
  rw [hi] at hi'
  cases hi'
  have hto : m.ths[k].ok := hv.g.ok _ (List.getElem_mem hlt)
  obtain ⟨ct, sk, a⟩ := hth.row
  obtain ⟨tt, ht⟩ := ms_ths h
  obtain ⟨p, hp1, hp2⟩ := ms_at h tt hi
  simp only [anilck, afaddr, Nat.zero_add, ht, Do_of, hp1, hp2, td_fin hto a, abin_neq, ms_taken h, abin_geq, abin_add]
  unfold someM at hQ
  rw [hk0] at hQ
  dsimp only at hQ
  refine u_ite (fun e => ?_) (fun e => ?_)
  · rw [if_pos (by simpa using e)] at hQ
    exact hQ H tks h (Mv.refl _ _ _ _ _)
  rw [if_neg (by simpa using e)] at hQ
  refine u_ite (fun e2 => ?_) (fun e2 => ?_)
  · rw [if_pos (by simpa using e2)] at hQ
    exact hQ H tks h (Mv.refl _ _ _ _ _)
  have e2 : ¬ m.taken ≥ 65536 := by simpa using e2
  rw [if_neg e2] at hQ
  have h0 := hv.t0
  rw [wrap_i64 (by omega) (by omega)]
  obtain ⟨H1, s1, s2, s3⟩ := h.tick (m.taken + 1)
  rw [s1]
  simp only [Do_of]
  refine Step_ok hGT hT (m := m.tick) s2 (B := m.taken.toNat) ⟨hv.g.ok, hv.g.pr, hv.g.n, hv.g.b, hv.g.svc⟩ (by omega) k fail fun H2 tks2 g1 g2 => ?_
  rw [wrap_i64 (by omega) (by omega), show (s : Int) + 1 = ((s + 1 : Nat) : Int) by omega]
  exact ih (s + 1) _ H2 tks2 (by omega) g1 (hv.tick (by omega) k fail) fun H3 tks3 f1 f2 => hQ H3 tks3 f1 (s3.trans (g2.trans f2))
theorem some_ok {H : AH} {im ib i k : Nat} {ids : List Nat} {tks : List (Option Nat)} {m : Mch} (h : MS H im ib ids tks m) (hv : m.inv) (hi : ids[k]? = some i) (fail : Bool) {count : Int} (h0 : 0 ≤ count) (hc : count ≤ 65536) {Q : Post}
  (hQ : ∀ H' tks', MS H' im ib ids tks' (someM fail k count.toNat m).1 → Mv H H' im ib ids tks tks' → Q (.int .i64 (someM fail k count.toNat m).2) H') : ACall C K.f32 [.ptr im 0, .int .i64 k, .int .i64 count, .bool fail] H Q := by
 refine S.cl_f32 hT ?_
 unfold S.f32
 exact some_loop hGT hT hi fail count hc count.toNat 0 m H tks (by omega) h hv hQ
theorem inn_loop {im ib : Nat} {ids : List Nat} (tt : Tok) {Q : Post} {n : Nat} {s1 : List AV × AH} {L2 : (List AV × AH) → Prop} : ∀ (r k : Nat) (g : Bool) (m : Mch) (H : AH) (tks : List (Option Nat)), k + r = n → m.ths.length = n → MS H im ib ids tks m → m.inv →
  (∀ x, innM r g m k = x → ∀ H' tks', MS H' im ib ids tks' x.2.1 → Mv H H' im ib ids tks tks' → if x.2.2 ≠ 0 then Q (.int .i64 x.2.2) H' else S.f33_k4 (ACall C) s1 L2 Q [.bool x.1] H') →
  LoopP (S.f33_l5 (ACall C) (.ptr im 0) (.lst tt n (ids.map fun i => .ptr i 0)) (.int .i64 n) s1 L2 Q) ([.bool g, .int .i64 k], H) := by
 intro r
 induction r with
 | zero =>
  intro k g m H tks hk hn h hv hQ
  refine LoopP.step ?_
  simp only [S.f33_l5, sl_zero, sl_succ, abin_lss, Do_of, Gd_true, JoinP_def]
  rw [if_neg (by simp only [decide_eq_true_eq]; omega)]
  exact hQ _ rfl H tks h (Mv.refl _ _ _ _ _)
 | succ r ih =>
  intro k g m H tks hk hn h hv hQ
  refine LoopP.step ?_
  simp only [S.f33_l5, sl_zero, sl_succ, abin_lss, Do_of, Gd_true, JoinP_def, Gd3_false]
  rw [if_pos (by simp only [decide_eq_true_eq]; omega)]
  have hlt : k < m.ths.length := by omega
  have hn100 := hv.g.n
  have hk0 : m.ths[k]? = some m.ths[k] := List.getElem?_eq_getElem hlt
  obtain ⟨i, tk, hi, htk, hth⟩ := h.ths k _ hk0
  have hto : m.ths[k].ok := hv.g.ok _ (List.getElem_mem hlt)
  obtain ⟨ct, sk, a⟩ := hth.row
  obtain ⟨p, hp1, hp2⟩ := ms_at h tt hi
  rw [hn] at hp1
  simp only [hp1, hp2, Do_of, anilck, afaddr, Nat.zero_add, td_fin hto a, abin_eql]
  have hstep : innM (r + 1) g m k = if (someM false k 1 m).2 ≠ 0 then (g, someM false k 1 m) else innM r (g || m.ths[k].fin == 0) (someM false k 1 m).1 (k + 1) := by
   rw [innM, hk0]
  rw [hstep] at hQ
  have k2 : ∀ g', g' = (g || m.ths[k].fin == 0) → S.f33_k2 (ACall C) (.ptr im 0) ([.bool g, .int .i64 k], H) (LoopP (S.f33_l5 (ACall C) (.ptr im 0) (.lst tt n (ids.map fun i => .ptr i 0)) (.int .i64 n) s1 L2 Q)) Q [.bool g'] H := by
   intro g' hg'
   simp only [S.f33_k2, sl_zero, sl_succ]
   refine some_ok hGT hT h hv hi false (by decide) (by decide) fun H1 tks1 g1 g2 => ?_
   rw [show (1 : Int).toNat = 1 from rfl] at g1 ⊢
   simp only [abin_neq, Do_of, Gd_true, JoinP_def, S.f33_k1, sl_zero, sl_succ, abin_add]
   refine u_ite (fun e => ?_) (fun e => ?_)
   · have e : (someM false k 1 m).2 ≠ 0 := by simpa using e
     have := hQ (g, someM false k 1 m) (by rw [if_pos e]) H1 tks1 g1 g2
     rw [if_pos e] at this
     exact this
   · have e : ¬ (someM false k 1 m).2 ≠ 0 := by simpa using e
     rw [wrap_i64 (by omega) (by omega), show (k : Int) + 1 = ((k + 1 : Nat) : Int) by omega, hg']
     have hs := someM_inv false k 1 m hv
     exact ih (k + 1) _ _ H1 tks1 (by omega) (hs.2.1.trans hn) g1 hs.1 fun x hx H2 tks2 f1 f2 => hQ x (by rw [if_neg e]; exact hx) H2 tks2 f1 (g2.trans f2)
  refine u_itef (fun e => ?_) (fun e => ?_)
  · exact k2 _ (by rw [e]; simp)
  · exact k2 true (by rw [e]; simp)
theorem all_loop {im ib : Nat} {ids : List Nat} (count : Int) (hc : count ≤ 65536) {Q : Post} : ∀ (r s : Nat) (m : Mch) (H : AH) (tks : List (Option Nat)), (s : Int) + r = count → MS H im ib ids tks m → m.inv →
  (∀ H' tks', MS H' im ib ids tks' (allM r m).1 → Mv H H' im ib ids tks tks' → Q (.int .i64 (allM r m).2) H') →
  LoopP (S.f33_l6 (ACall C) (.ptr im 0) (.int .i64 count) Q) ([.int .i64 s], H) := by
 intro r
 induction r with
 | zero =>
  intro s m H tks hs h hv hQ
  refine LoopP.step ?_
  simp only [S.f33_l6, sl_zero, abin_lss, Do_of, Gd_true]
  rw [if_neg (by simp only [decide_eq_true_eq]; omega)]
  exact hQ H tks h (Mv.refl _ _ _ _ _)
 | succ r ih =>
  intro s m H tks hs h hv hQ
  refine LoopP.step ?_
  simp only [S.f33_l6, sl_zero, abin_lss, Do_of, Gd_true]
  rw [if_pos (by simp only [decide_eq_true_eq]; omega)]
  obtain ⟨tt, ht⟩ := ms_ths h
  simp only [anilck, afaddr, Nat.zero_add, ht, Do_of, alen_lst]
  refine inn_loop hGT hT tt m.ths.length 0 false m H tks (by omega) rfl h hv fun x hx H1 tks1 g1 g2 => ?_
  unfold allM at hQ
  subst hx
  have hi := innM_inv m.ths.length false m 0 hv
  by_cases e : (innM m.ths.length false m 0).2.2 ≠ 0
  · rw [if_pos e] at hQ ⊢
    exact hQ H1 tks1 g1 g2
  · rw [if_neg e] at hQ ⊢
    have e0 : (innM m.ths.length false m 0).2.2 = 0 := by omega
    simp only [S.f33_k4, sl_zero, aun_not, Do_of, Gd_true, JoinP_def, S.f33_k3, abin_add]
    refine u_ite (fun e1 => ?_) (fun e1 => ?_)
    · rw [if_pos (by simpa using e1)] at hQ
      have := hQ H1 tks1 g1 g2
      rw [e0] at this
      exact this
    · rw [if_neg (by simpa using e1)] at hQ
      rw [wrap_i64 (by omega) (by omega), show (s : Int) + 1 = ((s + 1 : Nat) : Int) by omega]
      exact ih (s + 1) _ H1 tks1 (by omega) g1 hi.1 fun H2 tks2 f1 f2 => hQ H2 tks2 f1 (g2.trans f2)
theorem all_ok {H : AH} {im ib : Nat} {ids : List Nat} {tks : List (Option Nat)} {m : Mch} (h : MS H im ib ids tks m) (hv : m.inv) {count : Int} (h0 : 0 ≤ count) (hc : count ≤ 65536) {Q : Post}
  (hQ : ∀ H' tks', MS H' im ib ids tks' (allM count.toNat m).1 → Mv H H' im ib ids tks tks' → Q (.int .i64 (allM count.toNat m).2) H') : ACall C K.f33 [.ptr im 0, .int .i64 count] H Q := by
 refine S.cl_f33 hT ?_
 unfold S.f33
 exact all_loop hGT hT count hc count.toNat 0 m H tks (by omega) h hv hQ
theorem one_ok {H : AH} {im ib : Nat} {ids : List Nat} {tks : List (Option Nat)} {m : Mch} (h : MS H im ib ids tks m) (hv : m.inv) (s : Int × Int × Int) {Q : Post}
  (hQ : ∀ H' tks', MS H' im ib ids tks' (actM m s).1 → Mv H H' im ib ids tks tks' → Q (.int .i64 (actM m s).2) H') : ACall C K.f16 [.ptr im 0, .agg (siteV s)] H Q := by
 refine S.cl_f16 hT ?_
 unfold S.f16
 have hbox : aboxv H false 3 (.agg (siteV s)) = some (.fptr (siteV s), H) := by unfold aboxv; rw [if_pos ⟨rfl, rfl⟩]; rfl
 have a0 : afaddr 0 (.fptr (siteV s)) = some (.fptr (siteV s)) := rfl
 have a1 : afaddr 1 (.fptr (siteV s)) = some (.fptr [.int .i64 s.2.1, .int .i64 s.2.2]) := rfl
 have a2 : afaddr 2 (.fptr (siteV s)) = some (.fptr [.int .i64 s.2.2]) := rfl
 have l0 : ∀ H, aload H 1 false (.fptr (siteV s)) = some (.int .i64 s.1) := fun _ => rfl
 have l1 : ∀ H, aload H 1 false (.fptr [.int .i64 s.2.1, .int .i64 s.2.2]) = some (.int .i64 s.2.1) := fun _ => rfl
 have l2 : ∀ H, aload H 1 false (.fptr [.int .i64 s.2.2]) = some (.int .i64 s.2.2) := fun _ => rfl
 have k2 : ∀ b : Bool, (b = true ↔ badM m s) → S.f16_k2 (ACall C) (.ptr im 0) (.fptr (siteV s)) [.int .i64 (cntM s)] Q [.bool b] H := by
  intro b hb
  simp only [S.f16_k2, sl_zero, Gd_true, a0, a1, l0, l1, Do_of, abin_eql, JoinP_def, S.f16_k1]
  unfold actM at hQ
  refine u_ite (fun e => ?_) (fun e => ?_)
  · rw [if_pos (hb.1 e)] at hQ
    exact hQ H tks h (Mv.refl _ _ _ _ _)
  have hn : ¬ badM m s := fun e' => by rw [hb.2 e'] at e; cases e
  rw [if_neg hn] at hQ
  unfold badM at hn
  have at_ : s.1 ≠ 3 → ∃ k i : Nat, s.2.1 = k ∧ s.2.1.toNat = k ∧ ids[k]? = some i := by
   intro e3
   have : 0 ≤ s.2.1 ∧ s.2.1 < m.ths.length := by omega
   have hk : s.2.1.toNat < ids.length := by rw [h.idl]; omega
   exact ⟨s.2.1.toNat, ids[s.2.1.toNat], by omega, rfl, List.getElem?_eq_getElem hk⟩
  have hcn : s.1 ≠ 2 → 0 ≤ cntM s ∧ cntM s ≤ 65536 := fun e => by
   have h' : ¬ (cntM s < 0 ∨ cntM s > 65536) := fun e' => hn (.inr (.inr (.inr ⟨e, e'⟩)))
   clear at_ hn hb hQ
   omega
  refine u_ite (fun e1 => ?_) (fun e1 => ?_)
  · have e1 : s.1 = 1 := by simpa using e1
    rw [if_pos e1] at hQ
    have hc := hcn (by omega)
    obtain ⟨k, i, k1, k2, k3⟩ := at_ (by omega)
    rw [k2] at hQ
    rw [k1]
    exact some_ok hGT hT h hv k3 false hc.1 hc.2 hQ
  have e1 : s.1 ≠ 1 := by simpa using e1
  rw [if_neg e1] at hQ
  refine u_ite (fun e2 => ?_) (fun e2 => ?_)
  · have e2 : s.1 = 2 := by simpa using e2
    rw [if_pos e2] at hQ
    obtain ⟨k, i, k1, k2, k3⟩ := at_ (by omega)
    rw [k2] at hQ
    rw [k1]
    exact some_ok hGT hT h hv k3 true (by decide) (by decide) hQ
  have e2 : s.1 ≠ 2 := by simpa using e2
  rw [if_neg e2] at hQ
  exact all_ok hGT hT h hv (hcn e2).1 (hcn e2).2 hQ
 have k3 : ∀ b : Bool, (b = true ↔ s.1 < 1 ∨ s.1 > 3 ∨ (s.1 ≠ 3 ∧ (s.2.1 < 0 ∨ s.2.1 ≥ m.ths.length))) → S.f16_k3 (ACall C) (.ptr im 0) (.fptr (siteV s)) [.int .i64 (cntM s)] Q [.bool b] H := by
  intro b hb
  simp only [S.f16_k3, sl_zero, Gd3_false, Gd3_true, a0, l0, Do_of, abin_neq, abin_lss, abin_gtr, JoinP_def]
  refine u_itef (fun e => ?_) (fun e => ?_)
  · have hn : ¬ (s.1 < 1 ∨ s.1 > 3 ∨ (s.1 ≠ 3 ∧ (s.2.1 < 0 ∨ s.2.1 ≥ m.ths.length))) := fun e' => by rw [hb.2 e'] at e; cases e
    refine u_ite (fun e2 => ?_) (fun e2 => ?_)
    · have e2 : s.1 ≠ 2 := by simpa using e2
      refine u_itef (fun e3 => ?_) (fun e3 => ?_)
      · have e3 : ¬ cntM s < 0 := by simpa using e3
        refine k2 _ ?_
        unfold badM
        simp only [decide_eq_true_eq]
        omega
      · have e3 : cntM s < 0 := by simpa using e3
        refine k2 _ ⟨fun _ => .inr (.inr (.inr ⟨e2, .inl e3⟩)), fun _ => rfl⟩
    · have e2 : s.1 = 2 := by simpa using e2
      refine k2 false ⟨fun e => (by cases e), fun e' => ?_⟩
      unfold badM at e'
      omega
  · have := hb.1 e
    refine k2 true ⟨fun _ => ?_, fun _ => rfl⟩
    unfold badM
    omega
 have k4 : ∀ b : Bool, (b = true ↔ s.1 < 1 ∨ s.1 > 3) → S.f16_k4 (ACall C) (.ptr im 0) (.fptr (siteV s)) [.int .i64 (cntM s)] Q [.bool b] H := by
  intro b hb
  simp only [S.f16_k4, sl_zero, Gd3_false, Gd3_true, a0, a1, l0, l1, Do_of, abin_neq, JoinP_def]
  refine u_itef (fun e => ?_) (fun e => ?_)
  · have hn : ¬ (s.1 < 1 ∨ s.1 > 3) := fun e' => by rw [hb.2 e'] at e; cases e
    refine u_ite (fun e2 => ?_) (fun e2 => ?_)
    · have e2 : s.1 ≠ 3 := by simpa using e2
      refine at_ok hGT hT h s.2.1 (fun hx => ?_) (fun k i t tk hx hk hi htk hth => ?_)
      · simp only [anil, AV.isNil, Option.map_some, Do_of, Bool.false_eq_true, if_false]
        exact k3 true ⟨fun _ => .inr (.inr ⟨e2, hx⟩), fun _ => rfl⟩
      · simp only [anil, AV.isNil, Option.map_some, Do_of, Bool.false_eq_true, if_false]
        refine k3 false ⟨fun e => (by cases e), fun e' => ?_⟩
        have := lt_of_some hk
        omega
    · have e2 : s.1 = 3 := by simpa using e2
      refine k3 false ⟨fun e => (by cases e), fun e' => ?_⟩
      omega
  · have := hb.1 e
    refine k3 true ⟨fun _ => ?_, fun _ => rfl⟩
    omega
 have k5 : S.f16_k5 (ACall C) (.ptr im 0) (.fptr (siteV s)) Q [.int .i64 (cntM s)] H := by
  simp only [S.f16_k5, Gd3_false, a0, l0, Do_of, abin_lss, abin_gtr, JoinP_def]
  refine u_itef (fun e => ?_) (fun e => ?_)
  · have e : ¬ s.1 < 1 := by simpa using e
    refine k4 _ ?_
    simp only [decide_eq_true_eq]
    omega
  · exact k4 true ⟨fun _ => .inl (by simpa using e), fun _ => rfl⟩
 simp only [hbox, DoH_some, a0, a1, a2, l0, l1, l2, Do_of, abin_eql, Gd_true, JoinP_def]
 unfold cntM at k5
 refine u_ite (fun e => ?_) (fun e => ?_)
 · rw [if_pos (by simpa using e)] at k5
   exact k5
 · rw [if_neg (by simpa using e)] at k5
   exact k5
theorem run_loop {im ib : Nat} {ids : List Nat} (tt : Tok) (l : List (Int × Int × Int)) (hl : l.length ≤ 1000) {Q : Post} : ∀ (r : List (Int × Int × Int)) (k : Nat) (m : Mch) (H : AH) (tks : List (Option Nat)), l.drop k = r → k ≤ l.length → MS H im ib ids tks m → m.inv →
  (∀ H' tks', MS H' im ib ids tks' (scrM r m k).1 → Mv H H' im ib ids tks tks' → Q (.tup [.int .i64 (scrM r m k).2.1, .int .i64 (scrM r m k).2.2]) H') →
  LoopP (S.f7_l2 (ACall C) (.ptr im 0) (.lst tt l.length (l.flatMap siteV)) (.int .i64 l.length) Q) ([.int .i64 k], H) := by
 intro r
 induction r with
 | nil =>
  intro k m H tks hd hk h hv hQ
  have : k = l.length := by
   have := List.drop_eq_nil_iff.1 hd
   omega
  subst this
  refine LoopP.step ?_
  simp only [S.f7_l2, sl_zero, abin_lss, Do_of, Gd_true, JoinP_def, S.f7_k1, alen_lst]
  rw [if_neg (by simp)]
  exact hQ H tks h (Mv.refl _ _ _ _ _)
 | cons s r ih =>
  intro k m H tks hd hk h hv hQ
  have hlt : k < l.length := by
   rcases Nat.lt_or_ge k l.length with e | e
   · exact e
   · rw [List.drop_eq_nil_of_le e] at hd; cases hd
  refine LoopP.step ?_
  simp only [S.f7_l2, sl_zero, abin_lss, Do_of, Gd_true]
  rw [if_pos (by simp only [decide_eq_true_eq]; omega)]
  have hp : aiaddr none 3 (.lst tt l.length (l.flatMap siteV)) (.int .i64 k) = some (.fptr ((l.flatMap siteV).drop (k * 3))) := by
   show (if 0 ≤ (k : Int) ∧ (k : Int) < (l.length : Nat) then some (AV.fptr ((l.flatMap siteV).drop ((k : Int).toNat * 3))) else none) = _
   rw [if_pos ⟨by omega, by omega⟩, Int.toNat_natCast]
  have key : ∀ (xs : List (Int × Int × Int)) (k : Nat) (s : Int × Int × Int) (r : List (Int × Int × Int)), xs.drop k = s :: r → takeCells ((xs.flatMap siteV).drop (k * 3)) 0 3 true = some (.agg (siteV s)) := by
   intro xs
   induction xs with
   | nil => intro k s r hk; simp at hk
   | cons x q ihx =>
    intro k s r hk
    cases k with
    | zero =>
     rw [List.drop_zero] at hk
     cases hk
     rw [List.flatMap_cons, Nat.zero_mul, List.drop_zero]
     exact takeCells_app rfl
    | succ k =>
     rw [List.flatMap_cons, show (k + 1) * 3 = (siteV x).length + k * 3 by show _ = 3 + _; omega, List.drop_length_add_append]
     exact ihx k s r hk
  have hld : aload H 3 true (.fptr ((l.flatMap siteV).drop (k * 3))) = some (.agg (siteV s)) := key l k s r hd
  simp only [hp, Do_of, hld, abox, if_true, DoH_some]
  have E := AH.Ext.push H (.row [.int .i64 0, .int .i64 0, .int .i64 0])
  have hst : astore (H.push (.row [.int .i64 0, .int .i64 0, .int .i64 0])) 3 (.ptr H.n 0) (.agg (siteV s)) = some (H.push (.row (siteV s))) := store_new H _ (siteV s) 3 rfl rfl rfl
  rw [hst]
  simp only [Do_of]
  have E := AH.Ext.push H (.row (siteV s))
  rw [(At.new H (.row (siteV s))).load, takeCells_whole (n := 3) (a := siteV s) rfl]
  simp only [Do_of]
  have h1 := h.frame E.1 (fun j hj => E.2 j (h.lt hj))
  have v1 := Mv.ext E im ib ids tks
  generalize H.push (.row (siteV s)) = H1 at *
  refine one_ok hGT hT h1 hv s fun H2 tks2 g1 g2 => ?_
  simp only [abin_neq, Do_of, Gd_true, abin_add]
  unfold scrM at hQ
  refine u_ite (fun e => ?_) (fun e => ?_)
  · rw [if_pos (by simpa using e)] at hQ
    exact hQ H2 tks2 g1 (v1.trans g2)
  · rw [if_neg (by simpa using e)] at hQ
    rw [wrap_i64 (by omega) (by omega), show (k : Int) + 1 = ((k + 1 : Nat) : Int) by omega]
    have hd' : l.drop (k + 1) = r := by
     rw [← List.drop_drop, hd]; rfl
    exact ih (k + 1) _ H2 tks2 hd' (by omega) g1 (actM_inv m s hv).1 fun H3 tks3 f1 f2 => hQ H3 tks3 f1 ((v1.trans g2).trans f2)
theorem Run_ok {H : AH} {im ib : Nat} {ids : List Nat} {tks : List (Option Nat)} {m : Mch} (h : MS H im ib ids tks m) (hv : m.inv) (tt : Tok) (l : List (Int × Int × Int)) (hl : l.length ≤ 1000) {Q : Post}
  (hQ : ∀ H' tks', MS H' im ib ids tks' (scrM l m 0).1 → Mv H H' im ib ids tks tks' → Q (.tup [.int .i64 (scrM l m 0).2.1, .int .i64 (scrM l m 0).2.2]) H') : ACall C K.f7 [.ptr im 0, .lst tt l.length (l.flatMap siteV)] H Q := by
 refine S.cl_f7 hT ?_
 unfold S.f7
 simp only [anil, AV.isNil, Option.map_some, Do_of, Gd_true, Bool.false_eq_true, if_false, alen_lst]
 exact run_loop hGT hT tt l hl l 0 m H tks rfl (Nat.zero_le _) h hv hQ
end
end Rb

namespace Rb
open Go
def OwnT (n0 : Nat) (H : AH) (sz : Nat) (x : AV) (len : Nat) (cells : List AV) : Prop :=
 ∃ tk, x = .lst tk len cells ∧ cells.length = len * sz ∧ ((tk = .nil ∧ len = 0) ∨ tk = .full ∨ ∃ t, tk = .own t ∧ n0 ≤ t ∧ At H t (.tok (len * sz) sz))
theorem OwnT.nil (n0 : Nat) (H : AH) (sz : Nat) : OwnT n0 H sz (.lst .nil 0 []) 0 [] := ⟨.nil, rfl, by simp, .inl ⟨rfl, rfl⟩⟩
theorem OwnT.frame {n0 : Nat} {H H' : AH} {sz len : Nat} {x : AV} {cells : List AV} (h : OwnT n0 H sz x len cells) (k : ∀ t a b, At H t (.tok a b) → At H' t (.tok a b)) : OwnT n0 H' sz x len cells := by
 obtain ⟨tk, hx, hc, ht⟩ := h
 refine ⟨tk, hx, hc, ?_⟩
 rcases ht with ht | ht | ⟨t, h1, h2, h3⟩
 · exact .inl ht
 · exact .inr (.inl ht)
 · exact .inr (.inr ⟨t, h1, h2, k t _ _ h3⟩)
def Left (n0 : Nat) (H H' : AH) : Prop := H.n ≤ H'.n ∧ ∀ i o, At H i o → (i < n0 ∨ ∀ a b, o ≠ .tok a b) → At H' i o
theorem OwnT.app {n0 sz bytes len m : Nat} {H : AH} {x y : AV} {cells news : List AV} {K : Post} (h : OwnT n0 H sz x len cells) (hn0 : n0 ≤ H.n) (hy : acells H sz y = some (m, news)) (hn : news.length = m * sz) (hs : news.all AV.scalar = true) (hm : m ≠ 0)
  (hb : (len + m) * bytes ≤ 140737488355328) (hl : len + m ≤ 9223372036854775807) (hK : ∀ x' H', OwnT n0 H' sz x' (len + m) (cells ++ news) → Left n0 H H' → K x' H') : DoH (aappend H false sz bytes x y) K := by
 obtain ⟨tk, rfl, hc, htk⟩ := h
 have hlen : (cells ++ news).length = (len + m) * sz := by simp [hc, hn, Nat.add_mul]
 have grow : ∀ tk : Tok, tk = .full ∨ (tk = .nil ∧ len = 0) → aappend H false sz bytes (.lst tk len cells) y = some (.lst (.own H.n) (len + m) (cells ++ news), H.push (.tok ((len + m) * sz) sz)) := by
  intro tk ht
  simp only [aappend, hy, hs, not_true_eq_false, if_false, if_neg hm]
  rw [if_neg (by simp only [Decidable.not_not]; exact ⟨hc, hb, hl⟩)]
  rcases ht with rfl | ⟨rfl, _⟩ <;> rfl
 have fresh : K (.lst (.own H.n) (len + m) (cells ++ news)) (H.push (.tok ((len + m) * sz) sz)) :=
  hK _ _ ⟨_, rfl, hlen, .inr (.inr ⟨H.n, rfl, hn0, At.new H _⟩)⟩ ⟨Nat.le_succ _, fun i o h _ => h.push _⟩
 rcases htk with ht | ht | ⟨t, rfl, h1, h2⟩
 · exact ⟨_, _, grow tk (.inr ht), fresh⟩
 · exact ⟨_, _, grow tk (.inl ht), fresh⟩
 · refine ⟨.lst (.own H.n) (len + m) (cells ++ news), (H.set t .gone).push (.tok ((len + m) * sz) sz), ?_, hK _ _ ⟨_, rfl, hlen, .inr (.inr ⟨H.n, rfl, hn0, At.new (H.set t .gone) _⟩)⟩ ⟨Nat.le_succ _, fun i o hi ho => (hi.set_ne (fun e => ?_) _).push _⟩⟩
   · simp only [aappend, hy, hs, not_true_eq_false, if_false, if_neg hm]
     rw [if_neg (by simp only [Decidable.not_not]; exact ⟨hc, hb, hl⟩)]
     simp [h2.2]
   · subst e
     rcases ho with ho | ho
     · omega
     · exact ho _ _ (hi.2.symm.trans h2.2)
theorem Left.row {n0 : Nat} {H H' : AH} {i : Nat} {cs : List AV} (k : Left n0 H H') (h : At H i (.row cs)) : At H' i (.row cs) := k.2 _ _ h (.inr fun _ _ e => by cases e)
end Rb

namespace Rb
open Go
theorem oneL_head (w sb : Int) : ∀ (s : List UInt8) (out : List Int) (base : Int), out.length = 7 → (oneL w sb s out base).1 = [0, 0, 0, 0, 0, 0, 0] ∨ (oneL w sb s out base).1.getD 0 0 = out.getD 0 0
 | [], out, base, _ => .inr rfl
 | c :: r, out, base, h => by
  unfold oneL
  split
  · exact oneL_head w sb r out base h
  · split
    · rcases oneL_head w sb r (out.set (atM c.toNat) (getM c.toNat w).1) (uor .u32 (uandn .u32 base (maskM (fieldM c.toNat))) (uand .u32 sb (maskM (fieldM c.toNat)))) (by simpa using h) with e | e
      · exact .inl e
      · right
        rw [e]
        have := (atM_lt c.toNat).2
        simp only [List.getD_eq_getElem?_getD, List.getElem?_set]
        rw [if_neg (by omega)]
    · exact .inl rfl
theorem oneM_svc (w : Int) : 0 ≤ (oneM 31 w).1.getD 6 0 := by
 have e : oneM 31 w = oneL w (shapeM 31).1 [105] [31, 0, 0, 0, 0, 0, 0] w := rfl
 rw [e]
 unfold oneL
 rw [if_neg (by decide)]
 split
 · rename_i h
   have h2 : (getM 105 w).1 = getZ 105 w ∧ (getM 105 w).2 = fitsM (fieldM 105) (getZ 105 w) := ⟨rfl, rfl⟩
   have h3 : fitsM (fieldM 105) (getZ 105 w) = true := h2.2 ▸ h
   have hg : (getM ((105 : UInt8).toNat : Nat) w).1 = getZ 105 w := rfl
   show 0 ≤ ([31, 0, 0, 0, 0, 0, (getM ((105 : UInt8).toNat : Nat) w).1] : List Int).getD 6 0
   rw [hg]
   unfold fitsM at h3
   rw [if_neg (by decide)] at h3
   simp only [Bool.and_eq_true, decide_eq_true_eq] at h3
   exact h3.1
 · decide
theorem decL_svc (w : Int) : ∀ n op, gi (decL w n op).1 0 = 31 → 0 ≤ gi (decL w n op).1 6
 | 0, op => fun _ => by show (0 : Int) ≤ ([0, 0, 0, 0, 0, 0, 0] : List Int).getD 6 0; decide
 | n + 1, op => by
  unfold decL
  split
  · intro h
    by_cases e : op = 31
    · subst e; exact oneM_svc w
    · rcases oneL_head w (shapeM op).1 (shapeM op).2 [op, 0, 0, 0, 0, 0, 0] w rfl with e' | e'
      · exact (by rw [show (oneM op w).1 = [0, 0, 0, 0, 0, 0, 0] from e'] ; decide)
      · exfalso
        have : (oneM op w).1.getD 0 0 = op := e'
        exact e (this.symm.trans h)
  · exact decL_svc w n _
structure GImg where
 ths : List (List Int)
 sites : List (List (Int × Int × Int))
 gl : AV
 size : Int
def wsC (ws : List Int) : List AV := [lstA (fun w => [AV.int .u32 w]) ws]
def ssC (ss : List (Int × Int × Int)) : List AV := [lstA siteV ss]
def GImg.cells (g : GImg) : List AV := [lstA wsC g.ths, lstA ssC g.sites, g.gl, .int .i64 g.size]
def codeM : List Int → List (List Int) → Int × List (List Int)
 | [], acc => (0, acc)
 | w :: r, acc => if (decM w).2 ≠ 0 then ((decM w).2, acc) else codeM r (acc ++ [(decM w).1])
def newL : List (List Int) → List (List (Int × Int × Int)) → List Thd → Int × List Thd
 | [], _, acc => (0, acc)
 | ws :: r, ss, acc => match ss with
  | [] => (1, acc)
  | s :: q => if ws.length ≠ s.length then (1, acc) else if (codeM ws []).1 ≠ 0 then ((codeM ws []).1, acc) else newL r q (acc ++ [⟨(codeM ws []).2, s, FSt.zero, [], 0⟩])
def GImg.badI (g : GImg) : Prop := g.ths.length < 1 ∨ g.ths.length > 8 ∨ g.sites.length ≠ g.ths.length ∨ g.size < 0 ∨ g.size > 65536
instance (g : GImg) : Decidable g.badI := by unfold GImg.badI; infer_instance
def GImg.room (g : GImg) : Nat := ((g.size + 15) / 16 * 16 + g.ths.length * 1024).toNat
def newM (g : GImg) : Int × Mch := if g.badI then (1, ⟨[], [], 0, 0⟩) else ((newL g.ths g.sites []).1, ⟨(newL g.ths g.sites []).2, List.replicate g.room 0, g.size, 0⟩)
theorem codeM_P : ∀ (l : List Int) (acc : List (List Int)), (∀ i ∈ acc, i.length = 7 ∧ (gi i 0 = 31 → 0 ≤ gi i 6)) → (codeM l acc).1 = 0 → (∀ i ∈ (codeM l acc).2, i.length = 7 ∧ (gi i 0 = 31 → 0 ≤ gi i 6)) ∧ (codeM l acc).2.length = acc.length + l.length
 | [], acc, h, _ => ⟨h, rfl⟩
 | w :: r, acc, h, he => by
  unfold codeM at he ⊢
  by_cases e : (decM w).2 ≠ 0
  · rw [if_pos e] at he; exact absurd he e
  · rw [if_neg e] at he ⊢
    obtain ⟨h1, h2⟩ := codeM_P r (acc ++ [(decM w).1]) (fun i hi => by
      rcases List.mem_append.1 hi with hi | hi
      · exact h i hi
      · rw [List.mem_singleton.1 hi]
        exact ⟨decL_len w _ _, decL_svc w _ _⟩) he
    exact ⟨h1, by rw [h2]; simp; omega⟩
theorem newL_P : ∀ (l : List (List Int)) (ss : List (List (Int × Int × Int))) (acc : List Thd), (∀ t ∈ acc, t.gd 0) → (newL l ss acc).1 = 0 → (∀ t ∈ (newL l ss acc).2, t.gd 0) ∧ (newL l ss acc).2.length = acc.length + l.length
 | [], ss, acc, h, _ => ⟨h, rfl⟩
 | ws :: r, ss, acc, h, he => by
  cases ss with
  | nil =>
   have h1 : (1 : Int) = 0 := he
   exact absurd h1 (by decide)
  | cons s q =>
   unfold newL at he ⊢
   dsimp only at he ⊢
   by_cases e1 : ws.length ≠ s.length
   · rw [if_pos e1] at he
     have h1 : (1 : Int) = 0 := he
     exact absurd h1 (by decide)
   · rw [if_neg e1] at he ⊢
     by_cases e2 : (codeM ws []).1 ≠ 0
     · rw [if_pos e2] at he; exact absurd he e2
     · rw [if_neg e2] at he ⊢
       have hc := codeM_P ws [] (fun i hi => by cases hi) (by omega)
       obtain ⟨h1, h2⟩ := newL_P r q (acc ++ [⟨(codeM ws []).2, s, FSt.zero, [], 0⟩]) (fun t ht => by
         rcases List.mem_append.1 ht with ht | ht
         · exact h t ht
         · rw [List.mem_singleton.1 ht]
           exact ⟨⟨FSt.zero_ok, fun i hi => (hc.1 i hi).1, by
             show s.length = (codeM ws []).2.length
             have := hc.2
             simp only [List.length_nil] at this
             omega, by show 0 ≤ 1000000000; decide⟩, Nat.le_refl _, fun i hi => (hc.1 i hi).2⟩) he
       exact ⟨h1, by rw [h2]; simp; omega⟩
theorem newM_inv (g : GImg) (h : (newM g).1 = 0) : (newM g).2.inv ∧ ¬ g.badI ∧ (newL g.ths g.sites []).1 = 0 ∧ (newM g).2.size = g.size ∧ (newM g).2.bytes.length = g.room := by
 unfold newM at h ⊢
 by_cases e : g.badI
 · rw [if_pos e] at h
   have h1 : (1 : Int) = 0 := h
   exact absurd h1 (by decide)
 · rw [if_neg e] at h ⊢
   have hb := e
   unfold GImg.badI at hb
   obtain ⟨h1, h2⟩ := newL_P g.ths g.sites [] (fun t ht => by cases ht) h
   have hr : (List.replicate g.room (0 : Int)).length = g.room := by simp
   refine ⟨⟨⟨fun t ht => (h1 t ht).ok, fun t ht => (h1 t ht).pr, ?_, ?_, fun t ht => (h1 t ht).svc⟩, by show (0 : Int) ≤ 0; decide, by show (0 : Int) ≤ 65536; decide⟩, e, h, rfl, hr⟩
   · show (newL g.ths g.sites []).2.length ≤ 100
     rw [h2]; simp; omega
   · rw [hr]; unfold GImg.room; omega
theorem Left.ext {H0 H H' : AH} (h : AH.Ext H0 H) (k : Left H0.n H H') : AH.Ext H0 H' :=
 ⟨Nat.le_trans h.1 k.1, fun i hi => ((k.2 i (H.o i) ⟨Nat.lt_of_lt_of_le hi h.1, rfl⟩ (.inl hi)).2).trans (h.2 i hi)⟩
theorem lstA1_at {α : Type} (f : α → AV) {xs r : List α} {x : α} {k : Nat} (h : xs.drop k = x :: r) : aiaddr none 1 (lstA (fun y => [f y]) xs) (.int .i64 k) = some (.fptr ((xs.flatMap fun y => [f y]).drop k)) ∧ ∀ H, aload H 1 false (.fptr ((xs.flatMap fun y => [f y]).drop k)) = some (f x) := by
 obtain ⟨hlt, hx, _⟩ := drop_cons_lt h
 have key : ∀ q : List α, (q.flatMap fun y => [f y]) = q.map f := by
  intro q
  induction q with
  | nil => rfl
  | cons y q ih => rw [List.flatMap_cons, ih]; rfl
 have hm := key xs
 rw [show lstA (fun y => [f y]) xs = .lst .dead xs.length (xs.flatMap fun y => [f y]) from rfl, hm]
 refine ⟨?_, fun H => ?_⟩
 · show (if 0 ≤ (k : Int) ∧ (k : Int) < (xs.length : Nat) then some (AV.fptr ((xs.map f).drop ((k : Int).toNat * 1))) else none) = _
   rw [if_pos ⟨by omega, by omega⟩, Int.toNat_natCast, Nat.mul_one]
 · show takeCells ((xs.map f).drop k) 0 1 false = _
   unfold takeCells
   rw [if_pos (by simp; omega), if_neg (by decide)]
   simp [hx]
structure NI (n0 : Nat) (H : AH) (im ib L : Nat) (ids : List Nat) (sz : Int) (acc : List Thd) : Prop where
 x : ∃ x, OwnT n0 H 1 x acc.length (ids.map fun i => .ptr i 0) ∧ At H im (.row [x, .row ib 0 L 1, .int .i64 sz, .int .i64 0])
 b : At H ib (.row (List.replicate L (.int .u8 0)))
 l : ids.length = acc.length
 nd : (im :: ib :: ids).Nodup
 ge : ∀ j ∈ im :: ib :: ids, n0 ≤ j
 ths : ∀ (k : Nat) (t : Thd), acc[k]? = some t → t.prints = [] ∧ ∃ i, ids[k]? = some i ∧ ∃ ct sk, At H i (.row (t.cells ct sk none))
theorem NI.lt {n0 : Nat} {H : AH} {im ib L : Nat} {ids : List Nat} {sz : Int} {acc : List Thd} (h : NI n0 H im ib L ids sz acc) : ∀ j ∈ im :: ib :: ids, j < H.n := by
 intro j hj
 rcases List.mem_cons.1 hj with rfl | hj
 · obtain ⟨x, _, a⟩ := h.x; exact a.1
 · rcases List.mem_cons.1 hj with rfl | hj
   · exact h.b.1
   · obtain ⟨k, hk, rfl⟩ := List.mem_iff_getElem.1 hj
     have hm : k < acc.length := by rw [← h.l]; exact hk
     obtain ⟨_, i, h1, _, _, a⟩ := h.ths k acc[k] (List.getElem?_eq_getElem hm)
     rw [List.getElem?_eq_getElem hk] at h1
     cases h1
     exact a.1
theorem NI.ext {n0 : Nat} {H H' : AH} {im ib L : Nat} {ids : List Nat} {sz : Int} {acc : List Thd} (h : NI n0 H im ib L ids sz acc) (k : AH.Ext H H') : NI n0 H' im ib L ids sz acc := by
 obtain ⟨x, ho, a⟩ := h.x
 exact ⟨⟨x, ho.frame fun t _ _ e => e.ext k, a.ext k⟩, h.b.ext k, h.l, h.nd, h.ge, fun j t hj => by
   obtain ⟨h0, i, h1, ct, sk, h2⟩ := h.ths j t hj
   exact ⟨h0, i, h1, ct, sk, h2.ext k⟩⟩
theorem NI.ms {n0 : Nat} {H : AH} {im ib L : Nat} {ids : List Nat} {sz : Int} {acc : List Thd} (h : NI n0 H im ib L ids sz acc) : MS H im ib ids (List.replicate acc.length none) ⟨acc, List.replicate L 0, sz, 0⟩ := by
 obtain ⟨x, ⟨tk, rfl, _, _⟩, a⟩ := h.x
 refine ⟨⟨tk, by simpa using a⟩, by simpa using h.b, h.l, by simp, h.nd, fun a b k ha hb => ?_, fun k t hk => ?_⟩
 · rw [List.getElem?_replicate] at ha
   split at ha
   · cases ha
   · cases ha
 · obtain ⟨h0, i, h1, h2⟩ := h.ths k t hk
   refine ⟨i, none, h1, ?_, h2, h0⟩
   rw [List.getElem?_replicate, if_pos (lt_of_some hk)]
end Rb

namespace Rb
open Go
theorem siteA_len : ∀ s : List (Int × Int × Int), (s.flatMap siteV).length = s.length * 3
 | [] => rfl
 | x :: r => by
  rw [List.flatMap_cons, List.length_append, siteA_len r, List.length_cons]
  show 3 + _ = _
  omega
theorem siteA_sc (s : List (Int × Int × Int)) : (s.flatMap siteV).all AV.scalar = true := by
 rw [List.all_flatMap]
 rw [List.all_eq_true]
 intro x _
 rfl
def t0M (acc : List (List Int)) (s : List (Int × Int × Int)) : Thd := ⟨acc, s, FSt.zero, [], 0⟩
theorem td_setcode {H : AH} {id : Nat} {acc acc' : List (List Int)} {s : List (Int × Int × Int)} {ct sk ct' : Tok} (a : At H id (.row ((t0M acc s).cells ct sk none))) : astore H 1 (.ptr id 0) (.lst ct' acc'.length (acc'.flatMap IV)) = some (H.set id (.row ((t0M acc' s).cells ct' sk none))) := by
 rw [a.store, if_pos ⟨rfl, rfl, rfl, (by show 0 + 1 ≤ 40; decide)⟩]
 rfl
theorem td_lcode {H : AH} {id : Nat} {acc : List (List Int)} {s : List (Int × Int × Int)} {ct sk : Tok} (a : At H id (.row ((t0M acc s).cells ct sk none))) : aload H 1 false (.ptr id 0) = some (.lst ct acc.length (acc.flatMap IV)) := by
 rw [a.load]; rfl
section
variable {C : Ctx} (hGT : GTok C) (hT : Cl (ACall C) S.tab_Mch) (hCl : ∀ (H : AH) (Q : Post), Q (.lst .dead 0 []) H → ACall C K.f14 [.lst .dead 0 []] H Q)
include hGT hT
theorem Stack_ok {g : GImg} {n : Int} (h1 : 0 ≤ n) (h2 : n < g.ths.length) (h3 : g.ths.length ≤ 8) (s0 : 0 ≤ g.size) (s1 : g.size ≤ 65536) {H : AH} {Q : Post} (hQ : ∀ H', AH.Ext H H' → Q (I2 (65536 + (g.size + 15) / 16 * 16 + n * 1024) 1024) H') : ACall C K.f13 [.agg g.cells, .int .i64 n] H Q := by
 refine S.cl_f13 hT ?_
 unfold S.f13
 have hb : aboxv H false 4 (.agg g.cells) = some (.fptr g.cells, H) := by unfold aboxv; rw [if_pos ⟨rfl, rfl⟩]; rfl
 have f0 : afaddr 0 (.fptr g.cells) = some (.fptr g.cells) := rfl
 have f3 : afaddr 3 (.fptr g.cells) = some (.fptr [.int .i64 g.size]) := rfl
 have l0 : ∀ H, aload H 1 false (.fptr g.cells) = some (.lst .dead g.ths.length (g.ths.flatMap wsC)) := fun _ => rfl
 have l3 : ∀ H, aload H 1 false (.fptr [.int .i64 g.size]) = some (.int .i64 g.size) := fun _ => rfl
 simp only [hb, DoH_some, abox, if_true, f0, l0, alen_lst, abin_lss, abin_geq, Do_of, Gd3_false, JoinP_def]
 rw [if_pos (by simp only [decide_eq_false_iff_not]; omega)]
 simp only [S.f13_k5, sl_zero, Gd3_false, abin_geq, Do_of, JoinP_def]
 rw [if_pos (by simp only [decide_eq_false_iff_not]; omega)]
 simp only [S.f13_k4, sl_zero, Gd3_false, f3, l3, abin_lss, Do_of, JoinP_def]
 rw [if_pos (by simp only [decide_eq_false_iff_not]; omega)]
 simp only [S.f13_k3, sl_zero, Gd3_false, f3, l3, abin_gtr, Do_of, JoinP_def]
 rw [if_pos (by simp only [decide_eq_false_iff_not]; omega)]
 simp only [S.f13_k2, sl_zero, Gd_true, JoinP_def]
 rw [if_neg (by simp only [decide_eq_true_eq]; omega)]
 simp only [S.f13_k1, f3, l3, abin_add, abin_sub, abin_mul, Do_of]
 rw [wrap_i64 (n := g.size + 16) (by omega) (by omega), wrap_i64 (n := g.size + 16 - 1) (by omega) (by omega), abin_quo _ _ _ (by decide)]
 have e1 : (g.size + 16 - 1).tdiv 16 = (g.size + 15) / 16 := by
  rw [Int.tdiv_eq_ediv_of_nonneg (by omega)]; congr 1; omega
 rw [e1, wrap_i64 (by omega) (by omega)]
 simp only [Do_of, abin_mul, abin_add]
 rw [wrap_i64 (n := (g.size + 15) / 16 * 16) (by omega) (by omega), wrap_i64 (n := 65536 + (g.size + 15) / 16 * 16) (by omega) (by omega), wrap_i64 (n := n * 1024) (by omega) (by omega), wrap_i64 (n := 65536 + (g.size + 15) / 16 * 16 + n * 1024) (by omega) (by omega)]
 rw [i2_b0]
 simp only [Do_of]
 rw [i2_new]
 simp only [Do_of]
 rw [i2_ld (At.new _ _)]
 simp only [Do_of]
 exact hQ _ (AH.Ext.push H _)
include hCl in
theorem Clone_ok {s : List (Int × Int × Int)} (hs : s.length ≤ 1000000) {H : AH} {Q : Post} (hQ : ∀ sk H', AH.Ext H H' → Q (.lst sk s.length (s.flatMap siteV)) H') : ACall C K.f14 [lstA siteV s] H Q := by
 cases s with
 | nil => exact hCl H Q (hQ .dead H (AH.Ext.refl H))
 | cons x r =>
  refine S.cl_f14 hT ?_
  unfold S.f14
  have e1 : anil .s false (lstA siteV (x :: r)) = some (.bool false) := rfl
  have e2 : abslice H false 3 0 [.int .i64 0, .int .i64 0, .int .i64 0] [] = some (.lst .full 0 [], H) := rfl
  simp only [e1, Do_of, Gd_true, Bool.false_eq_true, if_false, e2, DoH_some]
  have ho : OwnT H.n H 3 (.lst .full 0 []) 0 [] := ⟨.full, rfl, rfl, .inr (.inl rfl)⟩
  have hc : acells H 3 (lstA siteV (x :: r)) = some ((x :: r).length, (x :: r).flatMap siteV) := by
   show (if ((x :: r).flatMap siteV).length = (x :: r).length * 3 then some ((x :: r).length, (x :: r).flatMap siteV) else none) = _
   rw [if_pos (siteA_len _)]
  refine ho.app (Nat.le_refl _) hc (siteA_len _) (siteA_sc _) (by simp) (by omega) (by omega) fun x' H' hx hl => ?_
  obtain ⟨tk, rfl, _, _⟩ := hx
  rw [Nat.zero_add, List.nil_append]
  exact hQ tk H' (Left.ext (AH.Ext.refl H) hl)
theorem code_loop {im it : Nat} {ws : List Int} {s : List (Int × Int × Int)} {sk : Tok} {H0 : AH} {s56 : List AV × AH} {L57 : (List AV × AH) → Prop} {Q : Post} (hit : H0.n ≤ it) (hlen : ws.length ≤ 1000000) : ∀ (r : List Int) (k : Nat) (acc : List (List Int)) (ct : Tok) (H : AH),
  ws.drop k = r → k ≤ ws.length → acc.length = k → (∀ i ∈ acc, i.length = 7) → AH.Ext H0 H → At H it (.row ((t0M acc s).cells ct sk none)) → OwnT H0.n H 7 (.lst ct acc.length (acc.flatMap IV)) acc.length (acc.flatMap IV) →
  ((codeM r acc).1 ≠ 0 → ∀ H', Q (.tup [.nilp, .int .i64 (codeM r acc).1]) H') →
  ((codeM r acc).1 = 0 → ∀ ct' H', AH.Ext H0 H' → At H' it (.row ((t0M (codeM r acc).2 s).cells ct' sk none)) → S.f6_k2 (ACall C) (.ptr im 0) (.ptr it 0) s56 L57 Q [] H') →
  LoopP (S.f6_l3 (ACall C) (.ptr im 0) (lstA (fun w => [AV.int .u32 w]) ws) (.ptr it 0) (.int .i64 ws.length) s56 L57 Q) ([.int .i64 k], H) := by
 intro r
 induction r with
 | nil =>
  intro k acc ct H hd hk ha h7 hE a ho herr hok
  have : k = ws.length := by
   have := List.drop_eq_nil_iff.1 hd
   omega
  refine LoopP.step ?_
  simp only [S.f6_l3, sl_zero, abin_lss, Do_of, Gd_true, JoinP_def]
  rw [if_neg (by simp only [decide_eq_true_eq]; omega)]
  exact hok rfl ct H hE a
 | cons w r ih =>
  intro k acc ct H hd hk ha h7 hE a ho herr hok
  obtain ⟨hlt, hx, hd'⟩ := drop_cons_lt hd
  obtain ⟨p1, p2⟩ := lstA1_at (fun w => AV.int .u32 w) hd
  refine LoopP.step ?_
  simp only [S.f6_l3, sl_zero, abin_lss, Do_of, Gd_true]
  rw [if_pos (by simp only [decide_eq_true_eq]; omega)]
  simp only [p1, p2, Do_of]
  refine Decode_val hGT hT w _ _ ?_
  simp only [aextract, List.getElem?_cons_zero, List.getElem?_cons_succ, Do_of, abox, if_true, DoH_some]
  unfold codeM at herr hok
  have h7w : (decM w).1.length = 7 := decL_len w _ _
  generalize (decM w).1 = ins at *
  generalize (decM w).2 = err at *
  rw [store_new H _ (IV ins) 7 (by simpa using h7w) (IV_sc ins) rfl]
  simp only [Do_of, abin_neq, Gd_true]
  refine u_ite (fun e => ?_) (fun e => ?_)
  · have e : err ≠ 0 := by simpa using e
    rw [if_pos e] at herr
    exact herr e _
  have e : ¬ err ≠ 0 := by simpa using e
  rw [if_neg e] at herr hok
  have E1 := AH.Ext.push H (.row (IV ins))
  have a1 := a.ext E1
  have x1 : aload (H.push (.row (IV ins))) 7 true (.ptr H.n 0) = some (.agg (IV ins)) := by rw [(At.new H _).load]; exact takeCells_whole (by simpa using h7w)
  simp only [anilck, afaddr, Nat.zero_add, Do_of, td_lcode a1, x1]
  have ho1 : OwnT H0.n (H.push (.row (IV ins))) 7 (.lst ct acc.length (acc.flatMap IV)) acc.length (acc.flatMap IV) := ho.frame fun t _ _ q => q.push _
  have E2 := hE.trans E1
  generalize H.push (.row (IV ins)) = H1 at *
  have hsl : abslice H1 false 7 1 [.int .i64 0, .int .i64 0, .int .i64 0, .int .i64 0, .int .i64 0, .int .i64 0, .int .i64 0] [(0, 7, .agg (IV ins))] = some (.lst .full 1 (IV ins), H1) := by
   match ins, h7w with
   | [b0, b1, b2, b3, b4, b5, b6], _ => rfl
  rw [hsl]
  simp only [DoH_some]
  have hc : acells H1 7 (.lst .full 1 (IV ins)) = some (1, IV ins) := by
   show (if (IV ins).length = 1 * 7 then some (1, IV ins) else none) = _
   rw [if_pos (by simpa using h7w)]
  refine ho1.app E2.1 hc (by simpa using h7w) (IV_sc ins) (by decide) (by omega) (by omega) fun x' H2 hx2 hl2 => ?_
  obtain ⟨tk, hxe, hx3⟩ := hx2
  subst hxe
  have a2 := hl2.row a1
  have hacc : acc.flatMap IV ++ IV ins = (acc ++ [ins]).flatMap IV := by simp
  have hal : acc.length + 1 = (acc ++ [ins]).length := by simp
  rw [hacc, hal] at hx3 ⊢
  rw [td_setcode a2]
  simp only [Do_of, abin_add]
  rw [wrap_i64 (by omega) (by omega), show (k : Int) + 1 = ((k + 1 : Nat) : Int) by omega]
  have E3 := Left.ext E2 hl2
  refine ih (k + 1) (acc ++ [ins]) tk _ hd' hlt (by simp [ha]) (fun i hi => ?_) (E3.set hit _) (a2.set _) ?_ herr hok
  · rcases List.mem_append.1 hi with hi | hi
    · exact h7 i hi
    · rw [List.mem_singleton.1 hi]; exact h7w
  · have ho2 : OwnT H0.n H2 7 (.lst tk (acc ++ [ins]).length ((acc ++ [ins]).flatMap IV)) (acc ++ [ins]).length ((acc ++ [ins]).flatMap IV) := ⟨tk, rfl, hx3⟩
    refine ho2.frame fun t u v q => q.set_ne (fun e => ?_) _
    subst e
    exact (AObj.noConfusion (q.2.symm.trans a2.2) : False)
end
end Rb

namespace Rb
open Go
theorem NI.add {He H' H2 : AH} {im ib L it : Nat} {ids : List Nat} {sz : Int} {acc : List Thd} {t : Thd} {x' : AV} (h : NI He.n H' im ib L ids sz acc) (hit : ∀ j ∈ im :: ib :: ids, j < it) (ge : He.n ≤ it) (hp : t.prints = []) {ct sk : Tok} (a : At H' it (.row (t.cells ct sk none)))
  (hl : Left He.n H' H2) (ho : OwnT He.n H2 1 x' (acc.length + 1) (ids.map (fun i => AV.ptr i 0) ++ [.ptr it 0])) :
  NI He.n (H2.set im (.row [x', .row ib 0 L 1, .int .i64 sz, .int .i64 0])) im ib L (ids ++ [it]) sz (acc ++ [t]) := by
 obtain ⟨x, _, ax⟩ := h.x
 have ax2 := hl.row ax
 have hnd := h.nd
 rw [List.nodup_cons, List.nodup_cons] at hnd
 obtain ⟨n1, n2, n3⟩ := hnd
 have hib : ib ≠ im := fun e => n1 (e ▸ List.mem_cons_self ..)
 have hi1 : it ≠ im := fun e => by have := hit im (List.mem_cons_self ..); omega
 refine ⟨⟨x', ?_, ax2.set _⟩, (hl.row h.b).set_ne hib _, by simp [h.l], ?_, ?_, ?_⟩
 · rw [show (acc ++ [t]).length = acc.length + 1 by simp, show ((ids ++ [it]).map fun i => AV.ptr i 0) = ids.map (fun i => AV.ptr i 0) ++ [.ptr it 0] by simp]
   refine ho.frame fun u v w q => q.set_ne (fun e => ?_) _
   subst e
   exact (AObj.noConfusion (q.2.symm.trans ax2.2) : False)
 · rw [show im :: ib :: (ids ++ [it]) = (im :: ib :: ids) ++ [it] by simp, List.nodup_append]
   refine ⟨h.nd, by simp, fun u hu v hv => ?_⟩
   rw [List.mem_singleton.1 hv]
   have := hit u hu
   omega
 · intro j hj
   rw [show im :: ib :: (ids ++ [it]) = (im :: ib :: ids) ++ [it] by simp] at hj
   rcases List.mem_append.1 hj with hj | hj
   · exact h.ge j hj
   · rw [List.mem_singleton.1 hj]; exact ge
 · intro k u hk
   rcases Nat.lt_or_ge k acc.length with e | e
   · rw [List.getElem?_append_left e] at hk
     obtain ⟨h0, i, h1, ct', sk', h2⟩ := h.ths k u hk
     refine ⟨h0, i, by rw [List.getElem?_append_left (by rw [h.l]; exact e)]; exact h1, ct', sk', (hl.row h2).set_ne (fun e' => ?_) _⟩
     exact n1 (e' ▸ List.mem_cons_of_mem _ (List.mem_of_getElem? h1))
   · rw [List.getElem?_append_right e] at hk
     have hk0 : k - acc.length = 0 := by
      rcases Nat.eq_zero_or_pos (k - acc.length) with z | z
      · exact z
      · rw [List.getElem?_eq_none (by simp; omega)] at hk; cases hk
     rw [hk0] at hk
     cases hk
     refine ⟨hp, it, ?_, ct, sk, (hl.row a).set_ne hi1 _⟩
     rw [List.getElem?_append_right (by rw [h.l]; exact e), h.l, hk0]
     rfl
section
variable {C : Ctx} (hGT : GTok C) (hT : Cl (ACall C) S.tab_Mch) (hCl : ∀ (H : AH) (Q : Post), Q (.lst .dead 0 []) H → ACall C K.f14 [.lst .dead 0 []] H Q)
include hGT hT hCl
theorem ths_loop {g : GImg} {im ib L : Nat} {sz : Int} {He : AH} {Q : Post} (hn : g.sites.length = g.ths.length) (hn8 : g.ths.length ≤ 8) (hw : ∀ ws ∈ g.ths, ws.length ≤ 1000000) : ∀ (r : List (List Int)) (q : List (List (Int × Int × Int))) (k : Nat) (ids : List Nat) (acc : List Thd) (H : AH),
  g.ths.drop k = r → g.sites.drop k = q → k ≤ g.ths.length → acc.length = k → AH.Ext He H → NI He.n H im ib L ids sz acc →
  ((newL r q acc).1 ≠ 0 → ∀ H', Q (.tup [.nilp, .int .i64 (newL r q acc).1]) H') →
  ((newL r q acc).1 = 0 → ∀ ids' H', AH.Ext He H' → NI He.n H' im ib L ids' sz (newL r q acc).2 → Q (.tup [.ptr im 0, .int .i64 0]) H') →
  LoopP (S.f6_l5 (ACall C) (.fptr g.cells) (.ptr im 0) (lstA wsC g.ths) (.int .i64 g.ths.length) Q) ([.int .i64 k], H) := by
 intro r
 induction r with
 | nil =>
  intro q k ids acc H hd hq hk ha hE hN herr hok
  have : k = g.ths.length := by
   have := List.drop_eq_nil_iff.1 hd
   omega
  refine LoopP.step ?_
  simp only [S.f6_l5, sl_zero, abin_lss, Do_of, Gd_true, JoinP_def, S.f6_k4]
  rw [if_neg (by simp only [decide_eq_true_eq]; omega)]
  exact hok rfl ids H hE hN
 | cons ws r ih =>
  intro q k ids acc H hd hq hk ha hE hN herr hok
  obtain ⟨hlt, hx, hd'⟩ := drop_cons_lt hd
  obtain ⟨s, q', rfl⟩ : ∃ s q', q = s :: q' := by
   cases q with
   | nil =>
    have := List.drop_eq_nil_iff.1 hq
    omega
   | cons s q' => exact ⟨s, q', rfl⟩
  obtain ⟨_, hxs, hq'⟩ := drop_cons_lt hq
  obtain ⟨p1, p2⟩ := lstA1_at (fun ws : List Int => lstA (fun w => [AV.int .u32 w]) ws) hd
  obtain ⟨s1, s2⟩ := lstA1_at (fun ss : List (Int × Int × Int) => lstA siteV ss) hq
  change aiaddr none 1 (lstA wsC g.ths) _ = _ at p1
  change aiaddr none 1 (lstA ssC g.sites) _ = _ at s1
  have f1 : afaddr 1 (.fptr g.cells) = some (.fptr [lstA ssC g.sites, g.gl, .int .i64 g.size]) := rfl
  have l1 : ∀ H, aload H 1 false (.fptr [lstA ssC g.sites, g.gl, .int .i64 g.size]) = some (lstA ssC g.sites) := fun _ => rfl
  have n1 : alen false (lstA (fun w => [AV.int .u32 w]) ws) = some (.int .i64 ws.length) := rfl
  have n2 : alen false (lstA siteV s) = some (.int .i64 s.length) := rfl
  refine LoopP.step ?_
  simp only [S.f6_l5, sl_zero, abin_lss, Do_of, Gd_true]
  rw [if_pos (by simp only [decide_eq_true_eq]; omega)]
  simp only [p1, p2, n1, f1, l1, s1, s2, n2, Do_of, abin_neq, Gd_true]
  have hstep : newL (ws :: r) (s :: q') acc = if ws.length ≠ s.length then (1, acc) else if (codeM ws []).1 ≠ 0 then ((codeM ws []).1, acc) else newL r q' (acc ++ [⟨(codeM ws []).2, s, FSt.zero, [], 0⟩]) := rfl
  rw [hstep] at herr hok
  refine u_ite (fun e => ?_) (fun e => ?_)
  · have e : ws.length ≠ s.length := by
      have : (ws.length : Int) ≠ s.length := by simpa using e
      omega
    rw [if_pos e] at herr
    exact herr (show ¬ ((1 : Int) = 0) by decide) H
  have e : ¬ ws.length ≠ s.length := by
   have : (ws.length : Int) = s.length := by simpa using e
   omega
  rw [if_neg e] at herr hok
  have hwl := hw ws (List.mem_of_getElem? hx)
  refine Clone_ok hGT hT hCl (by omega) fun sk H1 E1 => ?_
  refine ⟨.agg ((t0M [] s).cells .nil sk none), rfl, ?_⟩
  have hbox : aboxv H1 true 40 (.agg ((t0M [] s).cells .nil sk none)) = some (.ptr H1.n 0, H1.push (.row ((t0M [] s).cells .nil sk none))) := by
   unfold aboxv
   rw [if_pos ⟨rfl, rfl⟩]
   rfl
  dsimp only
  rw [hbox, DoH_some]
  have hN1 := hN.ext E1
  have hlt1 := hN1.lt
  refine code_loop hGT hT (im := im) (it := H1.n) (ws := ws) (s := s) (sk := sk) (H0 := H1) (Nat.le_refl _) hwl ws 0 [] .nil _ rfl (Nat.zero_le _) rfl (fun i hi => by cases hi) (AH.Ext.push H1 _) (At.new H1 _) (OwnT.nil _ _ _) (fun he H' => ?_) (fun he ct' H' E2 a2 => ?_)
  · rw [if_pos he] at herr
    exact herr he H'
  · rw [if_neg (by omega)] at herr hok
    have hN2 := hN1.ext E2
    obtain ⟨x, ho, ax⟩ := hN2.x
    have lx : aload H' 1 false (.ptr im 0) = some x := by rw [ax.load]; rfl
    simp only [S.f6_k2, anilck, afaddr, Nat.zero_add, Do_of, lx]
    have hsl : abslice H' false 1 1 [.nilp] [(0, 1, .ptr H1.n 0)] = some (.lst .full 1 [.ptr H1.n 0], H') := rfl
    rw [hsl]
    simp only [DoH_some]
    have hE2 := (hE.trans E1).trans E2
    have hn8' : acc.length ≤ 8 := by omega
    refine ho.app hE2.1 (m := 1) (news := [.ptr H1.n 0]) rfl rfl rfl (by decide) (by omega) (by omega) fun x' H3 ho' hl => ?_
    have ax3 := hl.row ax
    have hst : astore H3 1 (.ptr im 0) x' = some (H3.set im (.row [x', .row ib 0 L 1, .int .i64 sz, .int .i64 0])) := by
     obtain ⟨tk, rfl, _⟩ := ho'
     rw [ax3.store, if_pos ⟨rfl, rfl, rfl, (by decide : 0 + 1 ≤ 4)⟩]; rfl
    rw [hst]
    simp only [Do_of, JoinP_def, S.f6_k1, sl_zero, abin_add]
    rw [wrap_i64 (by omega) (by omega), show (k : Int) + 1 = ((k + 1 : Nat) : Int) by omega]
    have hge : He.n ≤ H1.n := Nat.le_trans hE.1 E1.1
    exact ih q' (k + 1) (ids ++ [H1.n]) (acc ++ [t0M (codeM ws []).2 s]) _ hd' hq' hlt (by simp [ha]) ((Left.ext hE2 hl).set (hN.ge im (List.mem_cons_self ..)) _) (hN2.add hlt1 hge rfl a2 hl ho') herr hok
theorem New_ok {g : GImg} {H : AH} {Q : Post} (hsz : -9223372036854775808 ≤ g.size ∧ g.size ≤ 9223372036854775807) (hw : g.ths.length ≤ 8 → ∀ ws ∈ g.ths, ws.length ≤ 1000000)
  (herr : (newM g).1 ≠ 0 → ∀ H', Q (.tup [.nilp, .int .i64 (newM g).1]) H')
  (hok : (newM g).1 = 0 → ∀ im ib ids tks H', AH.Ext H H' → MS H' im ib ids tks (newM g).2 → (∀ j, FP im ib ids tks j → H.n ≤ j) → Q (.tup [.ptr im 0, .int .i64 0]) H') : ACall C K.f6 [.agg g.cells] H Q := by
 refine S.cl_f6 hT ?_
 unfold S.f6
 have hb : aboxv H false 4 (.agg g.cells) = some (.fptr g.cells, H) := by unfold aboxv; rw [if_pos ⟨rfl, rfl⟩]; rfl
 have f0 : afaddr 0 (.fptr g.cells) = some (.fptr g.cells) := rfl
 have f1 : afaddr 1 (.fptr g.cells) = some (.fptr [lstA ssC g.sites, g.gl, .int .i64 g.size]) := rfl
 have f3 : afaddr 3 (.fptr g.cells) = some (.fptr [.int .i64 g.size]) := rfl
 have l0 : ∀ H, aload H 1 false (.fptr g.cells) = some (lstA wsC g.ths) := fun _ => rfl
 have l1 : ∀ H, aload H 1 false (.fptr [lstA ssC g.sites, g.gl, .int .i64 g.size]) = some (lstA ssC g.sites) := fun _ => rfl
 have l3 : ∀ H, aload H 1 false (.fptr [.int .i64 g.size]) = some (.int .i64 g.size) := fun _ => rfl
 have n0 : alen false (lstA wsC g.ths) = some (.int .i64 g.ths.length) := rfl
 have n1 : alen false (lstA ssC g.sites) = some (.int .i64 g.sites.length) := rfl
 have k7 : ∀ b : Bool, (b = true ↔ g.badI) → S.f6_k7 (ACall C) (.fptr g.cells) (.int .i64 g.ths.length) Q [.bool b] H := by
  intro b hb'
  simp only [S.f6_k7, sl_zero, Gd_true, JoinP_def]
  unfold newM at herr hok
  refine u_ite (fun e => ?_) (fun e => ?_)
  · rw [if_pos (hb'.1 e)] at herr
    exact herr (by show ¬ ((1 : Int) = 0); decide) H
  have hnb : ¬ g.badI := fun e' => by rw [hb'.2 e'] at e; cases e
  rw [if_neg hnb] at herr hok
  have hg : ¬ (g.ths.length < 1 ∨ g.ths.length > 8 ∨ g.sites.length ≠ g.ths.length ∨ g.size < 0 ∨ g.size > 65536) := hnb
  have hg1 : 1 ≤ g.ths.length ∧ g.ths.length ≤ 8 ∧ g.sites.length = g.ths.length ∧ 0 ≤ g.size ∧ g.size ≤ 65536 := by omega
  obtain ⟨g1, g2, g3, g4, g5⟩ := hg1
  simp only [S.f6_k6, f3, l3, Do_of]
  refine ⟨.agg [.lst .nil 0 [], .lst .nil 0 [], .int .i64 g.size, .int .i64 0], rfl, ?_⟩
  have hbox : aboxv H true 4 (.agg [.lst .nil 0 [], .lst .nil 0 [], .int .i64 g.size, .int .i64 0]) = some (.ptr H.n 0, H.push (.row [.lst .nil 0 [], .lst .nil 0 [], .int .i64 g.size, .int .i64 0])) := by
   unfold aboxv
   rw [if_pos ⟨rfl, rfl⟩]
   rfl
  dsimp only
  rw [hbox, DoH_some]
  have la : ∀ H, aload H 4 true (.fptr g.cells) = some (.agg g.cells) := fun _ => takeCells_whole (n := 4) rfl
  simp only [la, Do_of, abin_sub]
  rw [wrap_i64 (by omega) (by omega)]
  have E1 := AH.Ext.push H (.row [.lst .nil 0 [], .lst .nil 0 [], .int .i64 g.size, .int .i64 0])
  have a1 := At.new H (.row [.lst .nil 0 [], .lst .nil 0 [], .int .i64 g.size, .int .i64 0])
  generalize H.push (.row [.lst .nil 0 [], .lst .nil 0 [], .int .i64 g.size, .int .i64 0]) = H1 at *
  refine Stack_ok hGT hT (by omega) (by omega) g2 g4 g5 fun H2 E2 => ?_
  have a2 := a1.ext E2
  have E12 := E1.trans E2
  simp only [abox, if_true, DoH_some]
  rw [i2_new]
  simp only [Do_of]
  have E3 := E12.trans (AH.Ext.push H2 (.row [.int .i64 (65536 + (g.size + 15) / 16 * 16 + ((g.ths.length : Int) - 1) * 1024), .int .i64 1024]))
  have a3 := a2.push (.row [.int .i64 (65536 + (g.size + 15) / 16 * 16 + ((g.ths.length : Int) - 1) * 1024), .int .i64 1024])
  have b3 := At.new H2 (.row [.int .i64 (65536 + (g.size + 15) / 16 * 16 + ((g.ths.length : Int) - 1) * 1024), .int .i64 1024])
  have hq0 : 0 ≤ (g.size + 15) / 16 * 16 ∧ (g.size + 15) / 16 * 16 ≤ 65551 := by omega
  have hrm : (65536 + (g.size + 15) / 16 * 16 + ((g.ths.length : Int) - 1) * 1024 + 1024 - 65536) = (g.room : Nat) := by unfold GImg.room; omega
  have hrl : g.room ≤ 100000 := by unfold GImg.room; omega
  generalize 65536 + (g.size + 15) / 16 * 16 + ((g.ths.length : Int) - 1) * 1024 = at' at *
  generalize H2.push (.row [.int .i64 at', .int .i64 1024]) = H3 at *
  have c0 : aload H3 1 false (.ptr H2.n 0) = some (.int .i64 at') := by rw [b3.load]; rfl
  have c1 : aload H3 1 false (.ptr H2.n 1) = some (.int .i64 1024) := by rw [b3.load]; rfl
  simp only [afaddr, Nat.zero_add, Do_of, c0, c1, abin_add, abin_sub]
  rw [wrap_i64 (n := at' + 1024) (by omega) (by omega), wrap_i64 (n := at' + 1024 - 65536) (by omega) (by omega), hrm]
  have hmk : amake H3 true 1 1 [.int .u8 0] (.int .i64 g.room) (.int .i64 g.room) = some (.row H3.n 0 g.room 1, H3.push (.row (List.replicate g.room (.int .u8 0)))) := by
   simp only [amake]
   rw [if_pos ⟨by omega, Int.le_refl _, by omega, by omega, rfl⟩]
   simp only [if_true, Int.toNat_natCast]
   congr 4
   generalize g.room = n
   induction n with
   | zero => rfl
   | succ n ih => rw [List.replicate_succ, List.flatten_cons, ih, List.replicate_succ]; rfl
  rw [hmk, DoH_some]
  have a4 := a3.push (.row (List.replicate g.room (.int .u8 0)))
  have b4 := At.new H3 (.row (List.replicate g.room (.int .u8 0)))
  have E4 := E3.trans (AH.Ext.push H3 (.row (List.replicate g.room (.int .u8 0))))
  have hlt : H.n < H3.n := a3.1
  generalize H3.push (.row (List.replicate g.room (.int .u8 0))) = H4 at *
  have hst : astore H4 1 (.ptr H.n 1) (.row H3.n 0 g.room 1) = some (H4.set H.n (.row [.lst .nil 0 [], .row H3.n 0 g.room 1, .int .i64 g.size, .int .i64 0])) := by
   rw [a4.store, if_pos ⟨rfl, rfl, rfl, (by decide : 1 + 1 ≤ 4)⟩]; rfl
  simp only [anilck, afaddr, Nat.zero_add, Do_of, hst]
  rw [show aload (H4.set H.n (.row [.lst .nil 0 [], .row H3.n 0 g.room 1, .int .i64 g.size, .int .i64 0])) 1 false (.fptr (List.drop 0 g.cells)) = some (lstA wsC g.ths) from rfl]
  simp only [Do_of, n0]
  have hN : NI H.n (H4.set H.n (.row [.lst .nil 0 [], .row H3.n 0 g.room 1, .int .i64 g.size, .int .i64 0])) H.n H3.n g.room [] g.size [] :=
   ⟨⟨_, OwnT.nil _ _ _, a4.set _⟩, b4.set_ne (by omega) _, rfl, by simp; omega, by simp; omega, fun k t hk => by simp at hk⟩
  refine ths_loop hGT hT hCl g3 g2 (hw g2) g.ths g.sites 0 [] [] _ rfl rfl (Nat.zero_le _) rfl (E4.set (Nat.le_refl _) _) hN herr fun he ids' H' hE hN' => ?_
  refine hok he H.n H3.n ids' _ H' hE hN'.ms fun j hj => ?_
  rcases hj with rfl | rfl | hj | hj
  · exact Nat.le_refl _
  · omega
  · exact hN'.ge j (List.mem_cons_of_mem _ (List.mem_cons_of_mem _ hj))
  · rw [List.mem_replicate] at hj
    cases hj.2
 have k8 : ∀ b : Bool, (b = true ↔ g.ths.length < 1 ∨ g.ths.length > 8 ∨ g.sites.length ≠ g.ths.length ∨ g.size < 0) → S.f6_k8 (ACall C) (.fptr g.cells) (.int .i64 g.ths.length) Q [.bool b] H := by
  intro b hb'
  simp only [S.f6_k8, sl_zero, Gd3_false, f3, l3, Do_of, abin_gtr, JoinP_def]
  refine u_itef (fun e => ?_) (fun e => ?_)
  · have hn : ¬ (g.ths.length < 1 ∨ g.ths.length > 8 ∨ g.sites.length ≠ g.ths.length ∨ g.size < 0) := fun e' => by rw [hb'.2 e'] at e; cases e
    refine k7 _ ?_
    unfold GImg.badI
    simp only [decide_eq_true_eq]
    omega
  · have := hb'.1 e
    refine k7 true ⟨fun _ => ?_, fun _ => rfl⟩
    unfold GImg.badI
    omega
 have k9 : ∀ b : Bool, (b = true ↔ g.ths.length < 1 ∨ g.ths.length > 8 ∨ g.sites.length ≠ g.ths.length) → S.f6_k9 (ACall C) (.fptr g.cells) (.int .i64 g.ths.length) Q [.bool b] H := by
  intro b hb'
  simp only [S.f6_k9, sl_zero, Gd3_false, f3, l3, Do_of, abin_lss, JoinP_def]
  refine u_itef (fun e => ?_) (fun e => ?_)
  · have hn : ¬ (g.ths.length < 1 ∨ g.ths.length > 8 ∨ g.sites.length ≠ g.ths.length) := fun e' => by rw [hb'.2 e'] at e; cases e
    refine k8 _ ?_
    simp only [decide_eq_true_eq]
    omega
  · have := hb'.1 e
    refine k8 true ⟨fun _ => ?_, fun _ => rfl⟩
    omega
 have k10 : ∀ b : Bool, (b = true ↔ g.ths.length < 1 ∨ g.ths.length > 8) → S.f6_k10 (ACall C) (.fptr g.cells) (.int .i64 g.ths.length) Q [.bool b] H := by
  intro b hb'
  simp only [S.f6_k10, sl_zero, Gd3_false, f1, l1, n1, Do_of, abin_neq, JoinP_def]
  refine u_itef (fun e => ?_) (fun e => ?_)
  · have hn : ¬ (g.ths.length < 1 ∨ g.ths.length > 8) := fun e' => by rw [hb'.2 e'] at e; cases e
    refine k9 _ ?_
    simp only [bne_iff_ne, ne_eq]
    omega
  · have := hb'.1 e
    refine k9 true ⟨fun _ => ?_, fun _ => rfl⟩
    omega
 simp only [hb, DoH_some, f0, l0, n0, Do_of, abin_lss, abin_gtr, Gd3_false, JoinP_def]
 refine u_itef (fun e => ?_) (fun e => ?_)
 · refine k10 _ ?_
   simp only [decide_eq_true_eq, decide_eq_false_iff_not] at e ⊢
   omega
 · refine k10 true ⟨fun _ => ?_, fun _ => rfl⟩
   simp only [decide_eq_true_eq] at e
   omega
end
end Rb

namespace Rb
open Go
theorem clone_list {H : AH} {bytes n : Nat} {x : AV} {cells : List AV} {K : AV → AH → Prop} (hx : acells H 1 x = some (n, cells)) (hl : cells.length = n) (hs : cells.all AV.scalar = true) (hb : n * bytes ≤ 140737488355328) (hn : n ≤ 9223372036854775807)
  (hK : ∀ tk H', AH.Ext H H' → tk ≠ .nil → K (.lst tk n cells) H') : DoH (aappend H false 1 bytes (.lst .full 0 []) x) K := by
 by_cases h0 : n = 0
 · subst h0
   have : cells = [] := List.length_eq_zero_iff.1 hl
   subst this
   have e : aappend H false 1 bytes (.lst .full 0 []) x = some (.lst .full 0 [], H) := by
    simp only [aappend, hx]
    rfl
   rw [e, DoH_some]
   exact hK .full H (AH.Ext.refl H) (by decide)
 · have ho : OwnT H.n H 1 (.lst .full 0 []) 0 [] := ⟨.full, rfl, rfl, .inr (.inl rfl)⟩
   refine ho.app (Nat.le_refl _) hx (by rw [hl, Nat.mul_one]) hs h0 (by rw [Nat.zero_add]; exact hb) (by omega) fun x' H' hx' hl' => ?_
   obtain ⟨tk, rfl, _, ht⟩ := hx'
   rw [Nat.zero_add, List.nil_append]
   refine hK tk H' (Left.ext (AH.Ext.refl H) hl') ?_
   rcases ht with ⟨_, ht⟩ | rfl | ⟨t, rfl, _⟩
   · omega
   · decide
   · intro e; cases e
theorem clip_list {n : Nat} {tk : Tok} {cells : List AV} (hl : cells.length = n) (ht : tk = .nil → n = 0) : ∃ tk', aslice 1 (.lst tk n cells) none (some (.int .i64 n)) (some (.int .i64 n)) = some (.lst tk' n cells) := by
 have hb : abound (some (.int .i64 (n : Int))) n = some n := by
  simp only [abound]
  rw [if_pos (by omega)]
  simp
 have hb0 : abound (some (.int .i64 (n : Int))) 0 = some n := by
  simp only [abound]
  rw [if_pos (by omega)]
  simp
 have hl0 : abound none 0 = some 0 := rfl
 simp only [aslice, hb, hb0, hl0, Option.map_some]
 by_cases h0 : n = 0
 · subst h0
   have : cells = [] := List.length_eq_zero_iff.1 hl
   subst this
   cases tk <;> exact ⟨_, rfl⟩
 · rw [if_neg (by omega), if_pos ⟨Nat.zero_le _, Nat.le_refl _, Nat.le_refl _, by omega, fun e => h0 (ht e), by omega⟩]
   refine ⟨.full, ?_⟩
   rw [Nat.mul_one, List.take_of_length_le (by omega), List.drop_zero, if_pos trivial, Nat.sub_zero]
theorem OwnT.app2 {n0 sz bytes len m : Nat} {H : AH} {x y : AV} {cells news : List AV} {K : Post} (h : OwnT n0 H sz x len cells) (hn0 : n0 ≤ H.n) (hy : acells H sz y = some (m, news)) (hn : news.length = m * sz) (hs : news.all AV.scalar = true) (hm : m ≠ 0)
  (hb : (len + m) * bytes ≤ 140737488355328) (hl : len + m ≤ 9223372036854775807) (hK : ∀ H', OwnT n0 H' sz (.lst (.own H.n) (len + m) (cells ++ news)) (len + m) (cells ++ news) → H.n < H'.n → (∀ i o, At H i o → x ≠ .lst (.own i) len cells → At H' i o) → (∀ i cs, At H i (.row cs) → At H' i (.row cs)) → K (.lst (.own H.n) (len + m) (cells ++ news)) H') : DoH (aappend H false sz bytes x y) K := by
 obtain ⟨tk, rfl, hc, htk⟩ := h
 have hlen : (cells ++ news).length = (len + m) * sz := by simp [hc, hn, Nat.add_mul]
 have grow : ∀ tk : Tok, tk = .full ∨ (tk = .nil ∧ len = 0) → aappend H false sz bytes (.lst tk len cells) y = some (.lst (.own H.n) (len + m) (cells ++ news), H.push (.tok ((len + m) * sz) sz)) := by
  intro tk ht
  simp only [aappend, hy, hs, not_true_eq_false, if_false, if_neg hm]
  rw [if_neg (by simp only [Decidable.not_not]; exact ⟨hc, hb, hl⟩)]
  rcases ht with rfl | ⟨rfl, _⟩ <;> rfl
 have fresh : K (.lst (.own H.n) (len + m) (cells ++ news)) (H.push (.tok ((len + m) * sz) sz)) :=
  hK _ ⟨_, rfl, hlen, .inr (.inr ⟨H.n, rfl, hn0, At.new H _⟩)⟩ (Nat.lt_succ_self _) (fun i o h _ => h.push _) (fun i cs h => h.push _)
 rcases htk with ht | ht | ⟨t, rfl, h1, h2⟩
 · exact ⟨_, _, grow tk (.inr ht), fresh⟩
 · exact ⟨_, _, grow tk (.inl ht), fresh⟩
 · refine ⟨.lst (.own H.n) (len + m) (cells ++ news), (H.set t .gone).push (.tok ((len + m) * sz) sz), ?_, hK _ ⟨_, rfl, hlen, .inr (.inr ⟨H.n, rfl, hn0, At.new (H.set t .gone) _⟩)⟩ (Nat.lt_succ_self _) (fun i o hi ho => (hi.set_ne (fun e => ho (by rw [e])) _).push _) (fun i cs hi => (hi.set_ne (fun e => ?_) _).push _)⟩
   · simp only [aappend, hy, hs, not_true_eq_false, if_false, if_neg hm]
     rw [if_neg (by simp only [Decidable.not_not]; exact ⟨hc, hb, hl⟩)]
     simp [h2.2]
   · subst e
     exact (AObj.noConfusion (h2.2.symm.trans hi.2) : False)
section
variable {C : Ctx} (hT : Cl (ACall C) S.tab_Mch)
include hT
theorem cl8_ok {H : AH} {n : Nat} {x : AV} {cells : List AV} {Q : Post} (hx : acells H 1 x = some (n, cells)) (hnil : anil .s false x = some (.bool false)) (hl : cells.length = n) (hs : cells.all AV.scalar = true) (hn : n ≤ 1000000000)
  (hQ : ∀ tk H', AH.Ext H H' → tk ≠ .nil → Q (.lst tk n cells) H') : ACall C K.f18 [x] H Q := by
 refine S.cl_f18 hT ?_
 unfold S.f18
 have e2 : abslice H false 1 0 [.int .u8 0] [] = some (.lst .full 0 [], H) := rfl
 simp only [hnil, Do_of, Gd_true, Bool.false_eq_true, if_false, e2, DoH_some]
 exact clone_list hx hl hs (by omega) (by omega) hQ
theorem cl64_ok {H : AH} {n : Nat} {x : AV} {cells : List AV} {Q : Post} (hx : acells H 1 x = some (n, cells)) (hnil : anil .s false x = some (.bool false)) (hl : cells.length = n) (hs : cells.all AV.scalar = true) (hn : n ≤ 1000000000)
  (hQ : ∀ tk H', AH.Ext H H' → tk ≠ .nil → Q (.lst tk n cells) H') : ACall C K.f20 [x] H Q := by
 refine S.cl_f20 hT ?_
 unfold S.f20
 have e2 : abslice H false 1 0 [.int .u64 0] [] = some (.lst .full 0 [], H) := rfl
 simp only [hnil, Do_of, Gd_true, Bool.false_eq_true, if_false, e2, DoH_some]
 exact clone_list hx hl hs (by omega) (by omega) hQ
theorem clip8_ok {H : AH} {n : Nat} {tk : Tok} {cells : List AV} {Q : Post} (hl : cells.length = n) (ht : tk = .nil → n = 0) (hQ : ∀ tk', Q (.lst tk' n cells) H) : ACall C K.f17 [.lst tk n cells] H Q := by
 refine S.cl_f17 hT ?_
 unfold S.f17
 obtain ⟨tk', e⟩ := clip_list hl ht
 simp only [alen_lst, Do_of, e]
 exact hQ tk'
theorem clip64_ok {H : AH} {n : Nat} {tk : Tok} {cells : List AV} {Q : Post} (hl : cells.length = n) (ht : tk = .nil → n = 0) (hQ : ∀ tk', Q (.lst tk' n cells) H) : ACall C K.f19 [.lst tk n cells] H Q := by
 refine S.cl_f19 hT ?_
 unfold S.f19
 obtain ⟨tk', e⟩ := clip_list hl ht
 simp only [alen_lst, Do_of, e]
 exact hQ tk'
theorem prints_ok {H : AH} {i : Nat} {tk : Option Nat} {t : Thd} (ho : t.ok) (h : ThM H i tk t) {Q : Post} (hQ : ∀ tk' H', AH.Ext H H' → (tk' = .nil → t.prints.length = 0) → Q (.lst tk' t.prints.length (t.prints.map (AV.int .u64))) H') : ACall C K.f20 [prV t tk] H Q := by
 have hp := ho.pr
 cases tk with
 | none =>
  have e : t.prints = [] := h.tok
  refine S.cl_f20 hT ?_
  unfold S.f20
  have hn : anil .s false (prV t none) = some (.bool true) := rfl
  simp only [hn, Do_of, Gd_true, if_true]
  have := hQ .nil H (AH.Ext.refl H) (fun _ => by rw [e]; rfl)
  rw [e] at this
  exact this
 | some k =>
  have hx : acells H 1 (prV t (some k)) = some (t.prints.length, t.prints.map (AV.int .u64)) := by
   show (if (t.prints.map (AV.int .u64)).length = t.prints.length * 1 then some (t.prints.length, t.prints.map (AV.int .u64)) else none) = _
   rw [if_pos (by simp)]
  exact cl64_ok hT hx rfl (by simp) (by simp [AV.scalar]) hp fun tk H' hE htk => hQ tk H' hE fun e => absurd e htk
end
section
variable {C : Ctx} (hGT : GTok C) (hT : Cl (ACall C) S.tab_Mch)
include hGT hT
theorem out_loop {im ib : Nat} {ids : List Nat} {tks : List (Option Nat)} {m : Mch} (tt : Tok) (hok : m.ok) (hn : m.ths.length ≤ 100) {He : AH} {x1 x3 : Nat} (h1 : He.n ≤ x1) (h3 : He.n ≤ x3) (hne : x1 ≠ x3) {bv : AV} (hbv : bv.scalar = true) (hbk : bv.known = true) (hMS : MS He im ib ids tks m) {Q : Post}
  (hQ : ∀ P tk1 tk2 H', AH.Ext He H' → Q (.agg [bv, .lst tk1 m.ths.length P, .lst tk2 m.ths.length (m.ths.map fun t => .int .i64 t.fin)]) H') : ∀ (r : List Thd) (k : Nat) (px ex : AV) (P : List AV) (H : AH), m.ths.drop k = r → k ≤ m.ths.length → AH.Ext He H → At H x1 (.row [.lst .nil 0 [], .lst .nil 0 [], .lst .nil 0 []]) → At H x3 (.row [bv, px, ex]) →
  OwnT He.n H 1 px k P → OwnT He.n H 1 ex k ((m.ths.take k).map fun t => .int .i64 t.fin) → (∀ t a b, px = .lst (.own t) a b → ∀ c d, ex ≠ .lst (.own t) c d) →
  LoopP (S.f8_l2 (ACall C) (.ptr x1 0) (.ptr x3 0) (.lst tt m.ths.length (ids.map fun i => .ptr i 0)) (.int .i64 m.ths.length) Q) ([.int .i64 k], H) := by
 intro r
 induction r with
 | nil =>
  intro k px ex P H hd hk hE a1 a3 hp he hpe
  have : k = m.ths.length := by
   have := List.drop_eq_nil_iff.1 hd
   omega
  subst this
  refine LoopP.step ?_
  simp only [S.f8_l2, sl_zero, abin_lss, Do_of, Gd_true, JoinP_def, S.f8_k1]
  rw [if_neg (by simp)]
  obtain ⟨tk1, rfl, _, _⟩ := hp
  obtain ⟨tk2, rfl, _, _⟩ := he
  rw [a3.load, takeCells_whole (n := 3) rfl]
  simp only [Do_of]
  rw [a1.store, if_pos ⟨rfl, rfl, by simp only [AV.cells, List.all_cons, hbv]; rfl, (by decide : 0 + 3 ≤ 3)⟩]
  simp only [Do_of]
  rw [show setCells [AV.lst .nil 0 [], .lst .nil 0 [], .lst .nil 0 []] 0 (AV.agg [bv, .lst tk1 m.ths.length P, .lst tk2 m.ths.length ((m.ths.take m.ths.length).map fun t => AV.int .i64 t.fin)]).cells = [bv, .lst tk1 m.ths.length P, .lst tk2 m.ths.length ((m.ths.take m.ths.length).map fun t => AV.int .i64 t.fin)] from rfl]
  rw [(a1.set _).load, takeCells_whole (n := 3) rfl]
  simp only [Do_of]
  rw [List.take_length]
  exact hQ P tk1 tk2 _ (hE.set h1 _)
 | cons t r ih =>
  intro k px ex P H hd hk hE a1 a3 hp he hpe
  obtain ⟨hlt, hx, hd'⟩ := drop_cons_lt hd
  obtain ⟨i, tk, hi, htk, hth0⟩ := hMS.ths k t hx
  have hto := hok t (List.mem_of_getElem? hx)
  obtain ⟨p, hp1, hp2⟩ := ms_at hMS tt hi
  have thx : ∀ {H'}, AH.Ext He H' → ThM H' i tk t := fun {H'} e => hth0.frame e.1 (e.2 _ (hMS.lt (.inr (.inr (.inl (List.mem_of_getElem? hi)))))) fun j hj => e.2 _ (hMS.lt (.inr (.inr (.inr (by rw [← hj]; exact List.mem_of_getElem? htk)))))
  have hth := thx hE
  obtain ⟨ct, sk, a⟩ := hth.row
  refine LoopP.step ?_
  simp only [S.f8_l2, sl_zero, abin_lss, Do_of, Gd_true]
  rw [if_pos (by simp only [decide_eq_true_eq]; omega)]
  have lp : ∀ {H' : AH}, At H' x3 (.row [bv, px, ex]) → aload H' 1 false (.ptr x3 1) = some px := fun a' => by rw [a'.load]; rfl
  simp only [hp1, hp2, Do_of, anilck, afaddr, Nat.zero_add, lp a3, td_pr hto a]
  refine prints_ok hT hto hth fun tk' H1 hE1 ht1 => ?_
  have a3' := a3.ext hE1
  refine ⟨lp a3', ?_⟩
  refine clip64_ok hT (by simp) ht1 fun tk2 => ?_
  refine ⟨lp a3', ?_⟩
  have hsl : abslice H1 false 1 1 [.lst .nil 0 []] [(0, 1, .lst tk2 t.prints.length (t.prints.map (AV.int .u64)))] = some (.lst .full 1 [.lst tk2 t.prints.length (t.prints.map (AV.int .u64))], H1) := rfl
  rw [hsl, DoH_some]
  have fr : ∀ {x : AV} {n : Nat} {cs : List AV}, OwnT He.n H 1 x n cs → OwnT He.n H1 1 x n cs := fun h => h.frame fun _ _ _ q => q.ext hE1
  have hEE := hE.trans hE1
  refine (fr hp).app2 hEE.1 (m := 1) (news := [.lst tk2 t.prints.length (t.prints.map (AV.int .u64))]) rfl rfl rfl (by decide) (by omega) (by omega) fun H2 hp2 hn2 st2 row2 => ?_
  have a3'' := row2 _ _ a3'
  have hsp : astore H2 1 (.ptr x3 1) (.lst (.own H1.n) (k + 1) (P ++ [.lst tk2 t.prints.length (t.prints.map (AV.int .u64))])) = some (H2.set x3 (.row [bv, .lst (.own H1.n) (k + 1) (P ++ [.lst tk2 t.prints.length (t.prints.map (AV.int .u64))]), ex])) := by
   rw [a3''.store, if_pos ⟨rfl, rfl, rfl, (by decide : 1 + 1 ≤ 3)⟩]; rfl
  rw [hsp]
  simp only [Do_of]
  have E2 : AH.Ext He H2 := ⟨Nat.le_trans hEE.1 (Nat.le_of_lt hn2), fun i hi => by
    obtain ⟨tkp, rfl, _, hpt⟩ := fr hp
    refine ((st2 i (H1.o i) ⟨Nat.lt_of_lt_of_le hi hEE.1, rfl⟩ ?_).2).trans (hEE.2 i hi)
    intro e
    simp only [AV.lst.injEq] at e
    rcases hpt with hpt | hpt | ⟨q, hq, hq2, _⟩
    · rw [hpt.1] at e; cases e.1
    · rw [hpt] at e; cases e.1
    · rw [hq] at e; cases e.1; omega⟩
  have b3 := a3''.set (.row [bv, .lst (.own H1.n) (k + 1) (P ++ [.lst tk2 t.prints.length (t.prints.map (AV.int .u64))]), ex])
  have E3 := E2.set h3 (.row [bv, .lst (.own H1.n) (k + 1) (P ++ [.lst tk2 t.prints.length (t.prints.map (AV.int .u64))]), ex])
  have he1 := fr he
  have hexn : ∀ q c d, ex = .lst (.own q) c d → q < H1.n := by
   intro q c d e
   obtain ⟨tke, rfl, _, hpt⟩ := he1
   simp only [AV.lst.injEq] at e
   rcases hpt with hpt | hpt | ⟨q', hq, _, hq2⟩
   · rw [hpt.1] at e; cases e.1
   · rw [hpt] at e; cases e.1
   · rw [hq] at e; cases e.1; exact hq2.1
  have he2 : OwnT He.n H2 1 ex k ((m.ths.take k).map fun t => .int .i64 t.fin) := by
   obtain ⟨tke, rfl, hcl, hpt⟩ := he1
   refine ⟨tke, rfl, hcl, ?_⟩
   rcases hpt with hpt | hpt | ⟨q, hq, hq1, hq2⟩
   · exact .inl hpt
   · exact .inr (.inl hpt)
   · exact .inr (.inr ⟨q, hq, hq1, st2 q _ hq2 fun e => hpe q _ _ e _ _ (by rw [hq])⟩)
  have a13 := (row2 _ _ (a1.ext hE1)).set_ne hne (.row [bv, .lst (.own H1.n) (k + 1) (P ++ [.lst tk2 t.prints.length (t.prints.map (AV.int .u64))]), ex])
  have hH13 : H1.n < (H2.set x3 (.row [bv, .lst (.own H1.n) (k + 1) (P ++ [.lst tk2 t.prints.length (t.prints.map (AV.int .u64))]), ex])).n := hn2
  have setk : ∀ {x : AV} {n : Nat} {cs : List AV}, OwnT He.n H2 1 x n cs → OwnT He.n (H2.set x3 (.row [bv, .lst (.own H1.n) (k + 1) (P ++ [.lst tk2 t.prints.length (t.prints.map (AV.int .u64))]), ex])) 1 x n cs := fun h => h.frame fun u v w q => q.set_ne (fun e => by
    subst e
    exact (AObj.noConfusion (q.2.symm.trans a3''.2) : False)) _
  have hp3 := setk hp2
  have he3 := setk he2
  generalize H2.set x3 (.row [bv, .lst (.own H1.n) (k + 1) (P ++ [.lst tk2 t.prints.length (t.prints.map (AV.int .u64))]), ex]) = H3 at *
  generalize P ++ [.lst tk2 t.prints.length (t.prints.map (AV.int .u64))] = P' at *
  have c3 : aload H3 1 false (.ptr x3 2) = some ex := by rw [b3.load]; rfl
  obtain ⟨ct', sk', a'⟩ := (thx E3).row
  simp only [c3, Do_of, td_fin hto a']
  have hsl2 : abslice H3 false 1 1 [.int .i64 0] [(0, 1, .int .i64 t.fin)] = some (.lst .full 1 [.int .i64 t.fin], H3) := rfl
  rw [hsl2, DoH_some]
  refine he3.app2 E3.1 (m := 1) (news := [.int .i64 t.fin]) rfl rfl rfl (by decide) (by omega) (by omega) fun H4 he4 hn4 st4 row4 => ?_
  have b4 := row4 _ _ b3
  have hse : astore H4 1 (.ptr x3 2) (.lst (.own H3.n) (k + 1) ((m.ths.take k).map (fun t => AV.int .i64 t.fin) ++ [.int .i64 t.fin])) = some (H4.set x3 (.row [bv, .lst (.own H1.n) (k + 1) P', .lst (.own H3.n) (k + 1) ((m.ths.take k).map (fun t => AV.int .i64 t.fin) ++ [.int .i64 t.fin])])) := by
   rw [b4.store, if_pos ⟨rfl, rfl, rfl, (by decide : 2 + 1 ≤ 3)⟩]; rfl
  rw [hse]
  simp only [Do_of, abin_add]
  rw [wrap_i64 (by omega) (by omega), show (k : Int) + 1 = ((k + 1 : Nat) : Int) by omega]
  have hexE : ∀ q c d, ex = .lst (.own q) c d → He.n ≤ q := by
   intro q c d e
   obtain ⟨tke, rfl, _, hpt⟩ := he1
   simp only [AV.lst.injEq] at e
   rcases hpt with hpt | hpt | ⟨q', hq, hq1, _⟩
   · rw [hpt.1] at e; cases e.1
   · rw [hpt] at e; cases e.1
   · rw [hq] at e; cases e.1; exact hq1
  have E4 : AH.Ext He H4 := ⟨Nat.le_trans E3.1 (Nat.le_of_lt hn4), fun i hi => ((st4 i (H3.o i) ⟨Nat.lt_of_lt_of_le hi E3.1, rfl⟩ (fun e => by
    have := hexE i _ _ e
    omega)).2).trans (E3.2 i hi)⟩
  have hp4 : OwnT He.n H4 1 (.lst (.own H1.n) (k + 1) P') (k + 1) P' := by
   obtain ⟨tke, hxe, hcl, hpt⟩ := hp3
   refine ⟨tke, hxe, hcl, ?_⟩
   simp only [AV.lst.injEq] at hxe
   rcases hpt with hpt | hpt | ⟨q, hq, hq1, hq2⟩
   · exact .inl hpt
   · exact .inr (.inl hpt)
   · refine .inr (.inr ⟨q, hq, hq1, st4 q _ hq2 fun e => ?_⟩)
     have := hexn q _ _ e
     rw [hq] at hxe
     cases hxe.1
     omega
  have setk2 : ∀ {x : AV} {n : Nat} {cs xs : List AV}, OwnT He.n H4 1 x n cs → OwnT He.n (H4.set x3 (.row xs)) 1 x n cs := fun h => h.frame fun u v w q => q.set_ne (fun e => by
    subst e
    exact (AObj.noConfusion (q.2.symm.trans b4.2) : False)) _
  have htake : (m.ths.take k).map (fun t => AV.int .i64 t.fin) ++ [.int .i64 t.fin] = (m.ths.take (k + 1)).map fun t => AV.int .i64 t.fin := by
   rw [List.take_add_one, hx]; simp
  rw [htake] at he4 ⊢
  have hn31 : H1.n < H3.n := hH13
  have a14 := row4 _ _ a13
  exact ih (k + 1) _ _ P' _ hd' hlt (E4.set h3 _) (a14.set_ne hne _) (b4.set _) (setk2 hp4) (setk2 he4) (fun q a b e c d e' => by
    simp only [AV.lst.injEq] at e e'
    have e1 := e.1
    have e2 := e'.1
    cases e1
    have e3 : H3.n = H1.n := Tok.own.inj e2
    omega)
theorem Outcome_ok {H : AH} {im ib : Nat} {ids : List Nat} {tks : List (Option Nat)} {m : Mch} (h : MS H im ib ids tks m) (hok : m.ok) (hn : m.ths.length ≤ 100) (hb : m.bytes.length ≤ 1000000) (h0 : 0 ≤ m.size) (hs : m.size ≤ m.bytes.length) {Q : Post}
  (hQ : ∀ P tk0 tk1 tk2 H', AH.Ext H H' → Q (.agg [.lst tk0 m.size.toNat ((m.bytes.take m.size.toNat).map (AV.int .u8)), .lst tk1 m.ths.length P, .lst tk2 m.ths.length (m.ths.map fun t => .int .i64 t.fin)]) H') : ACall C K.f8 [.ptr im 0] H Q := by
 refine S.cl_f8 hT ?_
 unfold S.f8
 simp only [abox, if_true, DoH_some]
 have E1 := AH.Ext.push H (.row [.lst .nil 0 [], .lst .nil 0 [], .lst .nil 0 []])
 have a1 := At.new H (.row [.lst .nil 0 [], .lst .nil 0 [], .lst .nil 0 []])
 have n1 : (H.push (.row [.lst .nil 0 [], .lst .nil 0 [], .lst .nil 0 []])).n = H.n + 1 := rfl
 generalize H.push (.row [.lst .nil 0 [], .lst .nil 0 [], .lst .nil 0 []]) = H1 at *
 have E2 := E1.trans (AH.Ext.push H1 (.row [.lst .nil 0 [], .lst .nil 0 [], .lst .nil 0 []]))
 have a2 := a1.push (.row [.lst .nil 0 [], .lst .nil 0 [], .lst .nil 0 []])
 have b2 := At.new H1 (.row [.lst .nil 0 [], .lst .nil 0 [], .lst .nil 0 []])
 generalize H1.push (.row [.lst .nil 0 [], .lst .nil 0 [], .lst .nil 0 []]) = H2 at *
 have h2 := h.frame E2.1 (fun j hj => E2.2 j (h.lt hj))
 obtain ⟨n, hn'⟩ : ∃ n : Nat, m.size = n := ⟨m.size.toNat, by omega⟩
 rw [hn'] at hQ
 simp only [Int.toNat_natCast] at hQ
 have hsl : aslice 1 (.row ib 0 m.bytes.length 1) none (some (.int .i64 m.size)) none = some (.row ib 0 n 1) := by
  rw [hn']
  simp only [aslice, abound, Option.map_none]
  rw [if_pos (by omega)]
  simp only [Int.toNat_natCast]
  rw [if_pos ⟨by omega, by omega, trivial⟩, if_pos (.inl trivial)]
  simp
 simp only [anil, AV.isNil, Option.map_some, Do_of, Gd_true, Bool.false_eq_true, if_false, anilck, afaddr, Nat.zero_add, ms_bytes h2, ms_size h2, hsl]
 have hac : acells H2 1 (.row ib 0 n 1) = some (n, (m.bytes.take n).map (AV.int .u8)) := by
  simp only [acells, h2.bytes.2]
  rw [if_pos (by simp; omega)]
  simp
 refine cl8_ok hT hac rfl (by simp; omega) (by rw [List.all_map, List.all_eq_true]; intro x _; rfl) (by omega) fun tk H3 E3 ht => ?_
 refine clip8_ok hT (by simp; omega) (fun e => absurd e ht) fun tk0 => ?_
 have a3 := a2.ext E3
 have b3 := b2.ext E3
 have hE := E2.trans E3
 have hst : astore H3 1 (.ptr H1.n 0) (.lst tk0 n ((m.bytes.take n).map (AV.int .u8))) = some (H3.set H1.n (.row [.lst tk0 n ((m.bytes.take n).map (AV.int .u8)), .lst .nil 0 [], .lst .nil 0 []])) := by
  rw [b3.store, if_pos ⟨rfl, rfl, rfl, (by decide : 0 + 1 ≤ 3)⟩]; rfl
 rw [hst]
 have hE4 := hE.set (show H.n ≤ H1.n by omega) (.row [.lst tk0 n ((m.bytes.take n).map (AV.int .u8)), .lst .nil 0 [], .lst .nil 0 []])
 have h4 := h.frame hE4.1 (fun j hj => hE4.2 j (h.lt hj))
 obtain ⟨tt, htt⟩ := ms_ths h4
 simp only [Do_of, htt, alen_lst]
 refine out_loop hGT hT tt hok hn (He := H) (Nat.le_refl _) (show H.n ≤ H1.n by omega) (show H.n ≠ H1.n by omega) rfl rfl h (fun P tk1 tk2 H' hE' => hQ P tk0 tk1 tk2 H' hE') m.ths 0 _ _ [] _ rfl (Nat.zero_le _) hE4 (a3.set_ne (by omega) _) (b3.set _) (OwnT.nil _ _ _) (OwnT.nil _ _ _) (fun t a b e => by cases e)
end
end Rb

namespace Rb
open Go
structure GImg.ok (g : GImg) : Prop where
 n : g.ths.length ≤ 140737488355328
 w : ∀ ws ∈ g.ths, ws.length ≤ 140737488355328
 s : -9223372036854775808 ≤ g.size ∧ g.size ≤ 9223372036854775807
theorem ints_at {xs : List Int} {k : Nat} {x : Int} (tk : Tok) (h : xs[k]? = some x) : aiaddr none 1 (.lst tk xs.length (xs.map (AV.int .i64))) (.int .i64 k) = some (.fptr ((xs.map (AV.int .i64)).drop k)) ∧ ∀ H, aload H 1 false (.fptr ((xs.map (AV.int .i64)).drop k)) = some (.int .i64 x) := by
 have hlt := lt_of_some h
 refine ⟨?_, fun H => ?_⟩
 · show (if 0 ≤ (k : Int) ∧ (k : Int) < (xs.length : Nat) then some (AV.fptr ((xs.map (AV.int .i64)).drop ((k : Int).toNat * 1))) else none) = _
   rw [if_pos ⟨by omega, by omega⟩, Int.toNat_natCast, Nat.mul_one]
 · show takeCells ((xs.map (AV.int .i64)).drop k) 0 1 false = _
   unfold takeCells
   rw [if_pos (by simp; omega), if_neg (by decide)]
   simp [h]
theorem map_u8_bytes : ∀ xs : List Int, ∃ s, cellBytes (xs.map (AV.int .u8)) = some s
 | [] => ⟨[], rfl⟩
 | x :: r => by
  obtain ⟨s, h⟩ := map_u8_bytes r
  refine ⟨UInt8.ofNat x.toNat :: s, ?_⟩
  show (cellBytes (r.map (AV.int .u8))).map _ = _
  rw [h]; rfl
section
variable {C : Ctx} (hT : Cl (ACall C) S.tab_Mch)
include hT
theorem small_ok {g : GImg} (ho : g.ok) {H : AH} {Q : Post} (hQ : ∀ b, (b = true → g.ths.length ≤ 20 → ∀ ws ∈ g.ths, ws.length ≤ 5000) → Q (.bool b) H) : ACall C K.f4 [.agg g.cells] H Q := by
 refine S.cl_f4 hT ?_
 unfold S.f4
 have hb : aboxv H false 4 (.agg g.cells) = some (.fptr g.cells, H) := by unfold aboxv; rw [if_pos ⟨rfl, rfl⟩]; rfl
 have f0 : afaddr 0 (.fptr g.cells) = some (.fptr g.cells) := rfl
 have l0 : ∀ H, aload H 1 false (.fptr g.cells) = some (lstA wsC g.ths) := fun _ => rfl
 have n0 : alen false (lstA wsC g.ths) = some (.int .i64 g.ths.length) := rfl
 rw [hb, DoH_some]
 have key : ∀ (r : List (List Int)) (k : Nat) (n : Int), g.ths.drop k = r → k ≤ g.ths.length → k ≤ 20 → 0 ≤ n → n ≤ k * 140737488355328 → (∀ (j : Nat) ws, j < k → g.ths[j]? = some ws → (ws.length : Int) ≤ n) →
   LoopP (S.f4_l4 (ACall C) (.fptr g.cells) Q) ([.int .i64 n, .int .i64 k], H) := by
  intro r
  induction r with
  | nil =>
   intro k n hd hk hk20 h0 hn hall
   have : k = g.ths.length := by
    have := List.drop_eq_nil_iff.1 hd
    omega
   refine LoopP.step ?_
   simp only [S.f4_l4, f0, l0, n0, sl_zero, sl_succ, Do_of, abin_lss, Gd3_true, JoinP_def]
   rw [if_neg (by simp only [decide_eq_true_eq]; omega)]
   simp only [S.f4_k3, sl_zero, Gd_true, JoinP_def, S.f4_k2, abin_leq, Do_of, Bool.false_eq_true, if_false]
   refine hQ _ fun hb h20 ws hws => ?_
   obtain ⟨j, hj, e⟩ := List.mem_iff_getElem.1 hws
   have := hall j ws (by omega) (by rw [List.getElem?_eq_getElem hj, e])
   simp only [decide_eq_true_eq] at hb
   omega
  | cons ws r ih =>
   intro k n hd hk hk20 h0 hn hall
   obtain ⟨hlt, hx, hd'⟩ := drop_cons_lt hd
   obtain ⟨p1, p2⟩ := lstA1_at (fun ws : List Int => lstA (fun w => [AV.int .u32 w]) ws) hd
   change aiaddr none 1 (lstA wsC g.ths) _ = _ at p1
   have n1 : alen false (lstA (fun w => [AV.int .u32 w]) ws) = some (.int .i64 ws.length) := rfl
   have hwl := ho.w ws (List.mem_of_getElem? hx)
   refine LoopP.step ?_
   simp only [S.f4_l4, f0, l0, n0, sl_zero, sl_succ, Do_of, abin_lss, Gd3_true, JoinP_def]
   rw [if_pos (by simp only [decide_eq_true_eq]; omega)]
   simp only [S.f4_k3, sl_zero, Gd_true, JoinP_def, S.f4_k2, S.f4_k1, f0, l0, p1, p2, n1, sl_succ, abin_leq, abin_add, Do_of]
   refine u_ite (fun e => ?_) (fun e => ?_)
   · have e : k < 20 := by simp only [decide_eq_true_eq] at e; omega
     rw [wrap_i64 (n := n + ws.length) (by omega) (by omega), wrap_i64 (n := (k : Int) + 1) (by omega) (by omega), show (k : Int) + 1 = ((k + 1 : Nat) : Int) by omega]
     refine ih (k + 1) (n + ws.length) hd' hlt (by omega) (by omega) (by omega) fun j u hj hu => ?_
     rcases Nat.lt_or_ge j k with e' | e'
     · have := hall j u e' hu; omega
     · have : j = k := by omega
       subst this
       rw [hx] at hu
       cases hu
       omega
   · have e : ¬ k < 20 := by simp only [decide_eq_false_iff_not] at e; omega
     refine hQ _ fun hb h20 u hu => ?_
     omega
 exact key g.ths 0 0 rfl (Nat.zero_le _) (by decide) (by decide) (by decide) fun j ws hj => by omega
theorem Ints_ok {xs : List Int} {t1 t2 : Tok} (hl : xs.length ≤ 1000) {H : AH} {Q : Post} (hQ : Q (.bool true) H) : ACall C K.f9 [.lst t1 xs.length (xs.map (AV.int .i64)), .lst t2 xs.length (xs.map (AV.int .i64))] H Q := by
 refine S.cl_f9 hT ?_
 unfold S.f9
 simp only [alen_lst, Do_of, abin_neq, Gd_true]
 rw [if_neg (by simp)]
 have key : ∀ (r : List Int) (k : Nat), xs.drop k = r → k ≤ xs.length → LoopP (S.f9_l1 (ACall C) (.lst t1 xs.length (xs.map (AV.int .i64))) (.lst t2 xs.length (xs.map (AV.int .i64))) Q) ([.int .i64 k], H) := by
  intro r
  induction r with
  | nil =>
   intro k hd hk
   have := List.drop_eq_nil_iff.1 hd
   refine LoopP.step ?_
   simp only [S.f9_l1, sl_zero, alen_lst, Do_of, abin_lss, Gd_true]
   rw [if_neg (by simp only [decide_eq_true_eq]; omega)]
   exact hQ
  | cons x r ih =>
   intro k hd hk
   obtain ⟨hlt, hx, hd'⟩ := drop_cons_lt hd
   obtain ⟨p1, p2⟩ := ints_at t1 hx
   obtain ⟨q1, q2⟩ := ints_at t2 hx
   refine LoopP.step ?_
   simp only [S.f9_l1, sl_zero, alen_lst, Do_of, abin_lss, Gd_true, p1, p2, q1, q2, abin_neq, abin_add]
   rw [if_pos (by simp only [decide_eq_true_eq]; omega), if_neg (by simp)]
   rw [wrap_i64 (by omega) (by omega), show (k : Int) + 1 = ((k + 1 : Nat) : Int) by omega]
   exact ih (k + 1) hd' hlt
 exact key xs 0 rfl (Nat.zero_le _)
end
section
variable {C : Ctx} (hGT : GTok C) (hT : Cl (ACall C) S.tab_Mch) (hA : ∀ (H : AH) (Q : Post), Q (.bool true) H → ACall C K.f5 [] H Q)
include hGT hT hA
theorem ends_loop {im ib : Nat} {ids : List Nat} {r9 : Nat} {m0 : Mch} {tk2 : Tok} {c0 c1 : AV} {B : Nat} (hB : B ≤ 100000) {Q : Post} (hQ : ∀ H, Q (.bool true) H) : ∀ (r : List Thd) (k : Nat) (m : Mch) (H : AH) (tks : List (Option Nat)), m0.ths.drop k = r → k ≤ m0.ths.length → MS H im ib ids tks m → m.good (B + k) → m.ths.length = m0.ths.length →
  (∀ j, k ≤ j → (m.ths[j]?).map Thd.fin = (m0.ths[j]?).map Thd.fin) → At H r9 (.row [c0, c1, .lst tk2 m0.ths.length ((m0.ths.map Thd.fin).map (AV.int .i64))]) → ¬ FP im ib ids tks r9 →
  LoopP (S.f3_l5 (ACall C) (.ptr im 0) (.ptr r9 0) Q) ([.int .i64 k], H) := by
 intro r
 induction r with
 | nil =>
  intro k m H tks hd hk h hg hn hf a9 hnf
  have := List.drop_eq_nil_iff.1 hd
  have l2 : aload H 1 false (.ptr r9 2) = some (.lst tk2 m0.ths.length ((m0.ths.map Thd.fin).map (AV.int .i64))) := by rw [a9.load]; rfl
  refine LoopP.step ?_
  simp only [S.f3_l5, sl_zero, afaddr, Nat.zero_add, Do_of, l2, alen_lst, abin_lss, Gd_true, JoinP_def, S.f3_k4]
  rw [if_neg (by simp only [decide_eq_true_eq]; omega)]
  exact hA _ _ (hQ _)
 | cons t r ih =>
  intro k m H tks hd hk h hg hn hf a9 hnf
  obtain ⟨hlt, hx, hd'⟩ := drop_cons_lt hd
  have l2 : ∀ {H'}, At H' r9 (.row [c0, c1, .lst tk2 m0.ths.length ((m0.ths.map Thd.fin).map (AV.int .i64))]) → aload H' 1 false (.ptr r9 2) = some (.lst tk2 m0.ths.length ((m0.ths.map Thd.fin).map (AV.int .i64))) := fun a => by rw [a.load]; rfl
  have hn100 := hg.n
  refine LoopP.step ?_
  simp only [S.f3_l5, sl_zero, afaddr, Nat.zero_add, Do_of, l2 a9, alen_lst, abin_lss, Gd_true]
  rw [if_pos (by simp only [decide_eq_true_eq]; omega)]
  refine Step_ok hGT hT h hg (by omega) k false fun H1 tks1 g1 g2 => ?_
  simp only [aextract, List.getElem?_cons_zero, List.getElem?_cons_succ, Do_of, abox, if_true, DoH_some]
  have a91 : At H1 r9 _ := ⟨Nat.lt_of_lt_of_le a9.1 g2.n, (g2.o _ a9.1 hnf).trans a9.2⟩
  have hnf1 := g2.nfp a9.1 hnf
  have hst := store_new H1 [.bool false, .bool false, .int .i64 0, .int .i64 0, .bool false, .bool false, .bool false, .int .u64 0, .int .u64 0, .bool false, .int .u64 0, .int .u64 0, .int .i64 0, .int .i64 0, .int .i64 0] (stepM m k false).2.1.cells 15 rfl rfl rfl
  rw [hst]
  simp only [Do_of, abin_eql]
  have E := AH.Ext.push H1 (.row (stepM m k false).2.1.cells)
  have a92 := a91.ext E
  have g3 := g1.frame E.1 (fun j hj => E.2 j (g1.lt hj))
  have hlen : (m0.ths.map Thd.fin).length = m0.ths.length := by simp
  have hx2 : (m0.ths.map Thd.fin)[k]? = some t.fin := by simp [hx]
  obtain ⟨p1, p2⟩ := ints_at tk2 hx2
  rw [hlen] at p1
  simp only [l2 a92, Do_of, p1, p2, abin_neq, abeq, Gd_true, abin_add, if_true]
  have hmk : ∃ t', m.ths[k]? = some t' ∧ t'.fin = t.fin := by
   have := hf k (Nat.le_refl _)
   rw [hx] at this
   cases hm : m.ths[k]? with
   | none => rw [hm] at this; cases this
   | some t' => rw [hm] at this; exact ⟨t', rfl, Option.some.inj this⟩
  obtain ⟨t', hm, hft⟩ := hmk
  have hdone := step_done hm false
  rw [hft] at hdone
  have hbb : (((stepM m k false).2.2 == 15) == (t.fin != 0)) = true := by
   by_cases e : t.fin = 0
   · have : ¬ (stepM m k false).2.2 = 15 := fun e' => (hdone.1 e') e
     simp [e, this]
   · have := hdone.2 e
     simp [e, this]
  rw [hbb]
  simp only [Bool.not_true, Bool.false_eq_true, if_false]
  have K := MKeep.stepM m k false
  rw [wrap_i64 (by omega) (by omega), show (k : Int) + 1 = ((k + 1 : Nat) : Int) by omega]
  refine ih (k + 1) _ _ tks1 hd' hlt g3 (hg.step (by omega) k false) (K.n.trans hn) (fun j hj => ?_) a92 (fun e => ?_)
  · rw [step_fin m (by omega) false]
    exact hf j (by omega)
  · exact hnf1 e
end
end Rb

namespace Rb
open Go
theorem siteV_take : ∀ (l : List (Int × Int × Int)) (k : Nat), (l.flatMap siteV).take (k * 3) = (l.take k).flatMap siteV
 | [], k => by simp
 | x :: r, 0 => by simp
 | x :: r, k + 1 => by
  rw [List.flatMap_cons, List.take_succ_cons, List.flatMap_cons, show (k + 1) * 3 = (siteV x).length + k * 3 by show _ = 3 + _; omega, List.take_length_add_append, siteV_take r k]
theorem siteV_drop : ∀ (l : List (Int × Int × Int)) (k : Nat), (l.flatMap siteV).drop (k * 3) = (l.drop k).flatMap siteV
 | [], k => by simp
 | x :: r, 0 => by simp
 | x :: r, k + 1 => by
  rw [List.flatMap_cons, List.drop_succ_cons, show (k + 1) * 3 = (siteV x).length + k * 3 by show _ = 3 + _; omega, List.drop_length_add_append, siteV_drop r k]
theorem slice_take (l : List (Int × Int × Int)) {k : Nat} (hk : k ≤ l.length) : aslice 3 (lstA siteV l) none (some (.int .i64 k)) none = some (lstA siteV (l.take k)) := by
 show aslice 3 (.lst .dead l.length (l.flatMap siteV)) none (some (.int .i64 k)) none = some (.lst .dead (l.take k).length ((l.take k).flatMap siteV))
 simp only [aslice, abound, Option.map_none]
 rw [if_pos (by omega)]
 simp only [Int.toNat_natCast]
 rw [if_pos ⟨Nat.zero_le _, hk, siteA_len l⟩]
 by_cases e : k = l.length
 · subst e
   rw [if_pos ⟨trivial, rfl⟩, List.take_length]
 · rw [if_neg (fun h => e h.2), Nat.zero_mul, List.drop_zero, siteV_take, if_pos trivial, Nat.sub_zero, List.length_take, Nat.min_eq_left hk]
theorem slice_drop (l : List (Int × Int × Int)) {k : Nat} (hk : k ≤ l.length) : aslice 3 (lstA siteV l) (some (.int .i64 k)) none none = some (lstA siteV (l.drop k)) := by
 show aslice 3 (.lst .dead l.length (l.flatMap siteV)) (some (.int .i64 k)) none none = some (.lst .dead (l.drop k).length ((l.drop k).flatMap siteV))
 simp only [aslice, abound, Option.map_none]
 rw [if_pos (by omega)]
 simp only [Int.toNat_natCast]
 rw [if_pos ⟨hk, Nat.le_refl _, siteA_len l⟩]
 by_cases e : k = 0
 · subst e
   rw [if_pos ⟨rfl, trivial⟩]; rfl
 · rw [if_neg (fun h => e h.1), if_neg e, List.take_of_length_le (by rw [siteA_len]; exact Nat.le_refl _), siteV_drop, List.length_drop]
theorem scr_parts (l : List (Int × Int × Int)) (m : Mch) (k : Nat) (hk : k ≤ l.length) :
  ((scrM (l.take k) m 0).2.2 ≠ 0 → scrM l m 0 = scrM (l.take k) m 0) ∧
  ((scrM (l.take k) m 0).2.2 = 0 → (scrM l m 0).1 = (scrM (l.drop k) (scrM (l.take k) m 0).1 0).1 ∧ (scrM l m 0).2.1 = (scrM (l.take k) m 0).2.1 + (scrM (l.drop k) (scrM (l.take k) m 0).1 0).2.1 ∧ (scrM l m 0).2.2 = (scrM (l.drop k) (scrM (l.take k) m 0).1 0).2.2) := by
 have h := scrM_split (l.take k) (l.drop k) m 0
 rw [List.take_append_drop] at h
 refine ⟨fun e => by rw [h, if_pos e], fun e => ?_⟩
 rw [h, if_neg (by omega)]
 obtain ⟨h1, h2, h3⟩ := scrM_from (l.drop k) (scrM (l.take k) m 0).1 0 (l.take k).length
 have h4 := scrM_all (l.take k) m 0 e
 exact ⟨h1, by rw [h2, h4]; omega, h3⟩
theorem scr_le : ∀ (l : List (Int × Int × Int)) (m : Mch) (n : Nat), n ≤ (scrM l m n).2.1 ∧ (scrM l m n).2.1 ≤ n + l.length
 | [], m, n => ⟨Nat.le_refl _, Nat.le_refl _⟩
 | s :: r, m, n => by
  unfold scrM
  by_cases e : (actM m s).2 ≠ 0
  · rw [if_pos e]; exact ⟨Nat.le_refl _, by rw [List.length_cons]; show n ≤ _; omega⟩
  · rw [if_neg e]
    have := scr_le r (actM m s).1 (n + 1)
    rw [List.length_cons]; omega
section
variable {C : Ctx} (hGT : GTok C) (hT : Cl (ACall C) S.tab_Mch) (hA : ∀ (H : AH) (Q : Post), Q (.bool true) H → ACall C K.f5 [] H Q)
include hGT hT hA
theorem outs_ok {H : AH} {ima iba imb ibb : Nat} {idsa idsb : List Nat} {ta tb : List (Option Nat)} {m : Mch} (ha : MS H ima iba idsa ta m) (hb : MS H imb ibb idsb tb m) (hv : m.inv) (h0 : 0 ≤ m.size) (hs : m.size ≤ m.bytes.length) {n e : Int} {Q : Post} (hQ : ∀ H, Q (.bool true) H) :
  S.f3_k10 (ACall C) (.ptr ima 0) (.ptr imb 0) (.int .i64 n) (.int .i64 e) Q [.int .i64 n, .int .i64 e] H := by
 simp only [S.f3_k10, sl_zero, sl_succ]
 have hb6 : m.bytes.length ≤ 1000000 := hv.g.b
 refine Outcome_ok hGT hT ha hv.g.ok hv.g.n hb6 h0 hs fun P t0 t1 t2 H1 E1 => ?_
 have ha1 := ha.frame E1.1 (fun j hj => E1.2 j (ha.lt hj))
 have hb1 := hb.frame E1.1 (fun j hj => E1.2 j (hb.lt hj))
 refine Outcome_ok hGT hT hb1 hv.g.ok hv.g.n hb6 h0 hs fun P' t0' t1' t2' H2 E2 => ?_
 have ha2 := ha1.frame E2.1 (fun j hj => E2.2 j (ha1.lt hj))
 simp only [abox, if_true, DoH_some]
 have hfin : (m.ths.map fun t => AV.int .i64 t.fin) = (m.ths.map Thd.fin).map (AV.int .i64) := by simp
 rw [hfin]
 obtain ⟨s, hs'⟩ := map_u8_bytes (m.bytes.take m.size.toNat)
 have hlb : ((m.bytes.take m.size.toNat).map (AV.int .u8)).length = m.size.toNat := by simp; omega
 generalize (m.bytes.take m.size.toNat).map (AV.int .u8) = bs at *
 have hlf : (m.ths.map Thd.fin).length = m.ths.length := by simp
 have a3 := At.new H2 (.row [.lst .nil 0 [], .lst .nil 0 [], .lst .nil 0 []])
 have E3 := AH.Ext.push H2 (.row [.lst .nil 0 [], .lst .nil 0 [], .lst .nil 0 []])
 have hr9 : ¬ FP ima iba idsa ta H2.n := fun e => Nat.lt_irrefl _ (ha2.lt e)
 have n3 : (H2.push (.row [.lst .nil 0 [], .lst .nil 0 [], .lst .nil 0 []])).n = H2.n + 1 := rfl
 generalize H2.push (.row [.lst .nil 0 [], .lst .nil 0 [], .lst .nil 0 []]) = H3 at *
 have a4 := a3.push (.row [.lst .nil 0 [], .lst .nil 0 [], .lst .nil 0 []])
 have b4 := At.new H3 (.row [.lst .nil 0 [], .lst .nil 0 [], .lst .nil 0 []])
 have E4 := E3.trans (AH.Ext.push H3 (.row [.lst .nil 0 [], .lst .nil 0 [], .lst .nil 0 []]))
 generalize H3.push (.row [.lst .nil 0 [], .lst .nil 0 [], .lst .nil 0 []]) = H4 at *
 have st : ∀ (H' : AH) (id : Nat) (x y z : AV), At H' id (.row [.lst .nil 0 [], .lst .nil 0 [], .lst .nil 0 []]) → x.scalar = true → y.scalar = true → z.scalar = true → astore H' 3 (.ptr id 0) (.agg [x, y, z]) = some (H'.set id (.row [x, y, z])) := by
  intro H' id x y z a hx hy hz
  rw [a.store, if_pos ⟨rfl, rfl, by simp only [AV.cells, List.all_cons, hx, hy, hz]; rfl, (by decide : 0 + 3 ≤ 3)⟩]; rfl
 rw [st H4 H2.n _ _ _ a4 rfl rfl rfl]
 simp only [Do_of]
 have hne : H3.n ≠ H2.n := by omega
 rw [st _ H3.n _ _ _ (b4.set_ne hne _) rfl rfl rfl]
 simp only [Do_of, abin_neq, Gd3_false, JoinP_def]
 have a6 := (a4.set (.row [.lst t0 m.size.toNat bs, .lst t1 m.ths.length P, .lst t2 m.ths.length ((m.ths.map Thd.fin).map (AV.int .i64))])).set_ne hne.symm (.row [.lst t0' m.size.toNat bs, .lst t1' m.ths.length P', .lst t2' m.ths.length ((m.ths.map Thd.fin).map (AV.int .i64))])
 have b6 := (b4.set_ne hne (.row [.lst t0 m.size.toNat bs, .lst t1 m.ths.length P, .lst t2 m.ths.length ((m.ths.map Thd.fin).map (AV.int .i64))])).set (.row [.lst t0' m.size.toNat bs, .lst t1' m.ths.length P', .lst t2' m.ths.length ((m.ths.map Thd.fin).map (AV.int .i64))])
 have E6 := (E4.set (Nat.le_refl _) (.row [.lst t0 m.size.toNat bs, .lst t1 m.ths.length P, .lst t2 m.ths.length ((m.ths.map Thd.fin).map (AV.int .i64))])).set (show H2.n ≤ H3.n by omega) (.row [.lst t0' m.size.toNat bs, .lst t1' m.ths.length P', .lst t2' m.ths.length ((m.ths.map Thd.fin).map (AV.int .i64))])
 generalize (H4.set H2.n (.row [.lst t0 m.size.toNat bs, .lst t1 m.ths.length P, .lst t2 m.ths.length ((m.ths.map Thd.fin).map (AV.int .i64))])).set H3.n (.row [.lst t0' m.size.toNat bs, .lst t1' m.ths.length P', .lst t2' m.ths.length ((m.ths.map Thd.fin).map (AV.int .i64))]) = H6 at *
 have ha6 := ha2.frame E6.1 (fun j hj => E6.2 j (ha2.lt hj))
 rw [if_pos (by simp), show (e != e) = false by simp]
 have x0 : aload H6 1 false (.ptr H2.n 0) = some (.lst t0 m.size.toNat bs) := by rw [a6.load]; rfl
 have y0 : aload H6 1 false (.ptr H3.n 0) = some (.lst t0' m.size.toNat bs) := by rw [b6.load]; rfl
 have x2 : aload H6 1 false (.ptr H2.n 2) = some (.lst t2 m.ths.length ((m.ths.map Thd.fin).map (AV.int .i64))) := by rw [a6.load]; rfl
 have y2 : aload H6 1 false (.ptr H3.n 2) = some (.lst t2' m.ths.length ((m.ths.map Thd.fin).map (AV.int .i64))) := by rw [b6.load]; rfl
 have sx : ∀ t, abstr H6 (.lst t m.size.toNat bs) = some (.str s) := by
  intro t
  have : acells H6 1 (.lst t m.size.toNat bs) = some (m.size.toNat, bs) := by
   show (if bs.length = m.size.toNat * 1 then some (m.size.toNat, bs) else none) = _
   rw [if_pos (by omega)]
  simp only [abstr, this, hs', Option.map_some]
 simp only [S.f3_k9, sl_zero, Gd3_false, afaddr, Nat.zero_add, Do_of, x0, y0, sx, JoinP_def, Bool.not_false, if_true]
 have hss : abin .neq (.str s) (.str s) = some (.bool false) := by simp [abin, abinStr]
 rw [hss]
 simp only [Do_of, S.f3_k8, sl_zero, Gd3_false, afaddr, Nat.zero_add, x2, y2, JoinP_def, if_true]
 have hIn := Ints_ok (t1 := t2) (t2 := t2') (xs := m.ths.map Thd.fin) hT (H := H6) (by rw [hlf]; have := hv.g.n; omega) (Q := fun x119 H120 => Do (aun .not x119) fun x121 => S.f3_k7 (ACall C) (.ptr ima 0) (.ptr H2.n 0) Q [x121] H120) (by
   simp only [aun_not, Do_of, S.f3_k7, sl_zero, Gd_true, Bool.not_true, Bool.false_eq_true, if_false, JoinP_def, S.f3_k6]
   have hB : m.taken.toNat ≤ 100000 := by have := hv.t1; omega
   exact ends_loop hGT hT hA (B := m.taken.toNat) hB hQ m.ths 0 m H6 ta rfl (Nat.zero_le _) ha6 hv.g rfl (fun j _ => rfl) a6 hr9)
 rw [hlf] at hIn
 exact hIn
end
end Rb

namespace Rb
open Go
section
variable {C : Ctx} (hGT : GTok C) (hT : Cl (ACall C) S.tab_Mch) (hA : ∀ (H : AH) (Q : Post), Q (.bool true) H → ACall C K.f5 [] H Q) (hCl : ∀ (H : AH) (Q : Post), Q (.lst .dead 0 []) H → ACall C K.f14 [.lst .dead 0 []] H Q)
include hGT hT hA
theorem run2_ok {H : AH} {ima iba imb ibb : Nat} {idsa idsb : List Nat} {ta tb : List (Option Nat)} {m : Mch} (ha : MS H ima iba idsa ta m) (hb : MS H imb ibb idsb tb m) (hd : ∀ j, FP ima iba idsa ta j → ¬ FP imb ibb idsb tb j) (hv : m.inv) (h0 : 0 ≤ m.size) (hs : m.size ≤ m.bytes.length)
  {l : List (Int × Int × Int)} (hl : l.length ≤ 12) {at' : Int} (a0 : 0 ≤ at') (a1 : at' ≤ 255) {Q : Post} (hQ : ∀ H, Q (.bool true) H) :
  S.f3_k11 (ACall C) (lstA siteV l) (.int .u8 at') (.ptr ima 0) (.ptr imb 0) Q [] H := by
 simp only [S.f3_k11]
 refine Run_ok hGT hT ha hv .dead l (by omega) fun H1 ta1 ga va => ?_
 obtain ⟨hb1, hd1⟩ := hb.beside va hd
 have hn : alen false (lstA siteV l) = some (.int .i64 l.length) := rfl
 simp only [aextract, List.getElem?_cons_zero, List.getElem?_cons_succ, Do_of, aconv_int, hn, abin_add]
 rw [wrap_i64 (n := at') (by omega) (by omega), wrap_i64 (n := (l.length : Int) + 1) (by omega) (by omega), abin_rem _ _ _ (by omega)]
 obtain ⟨k, hk⟩ : ∃ k : Nat, at'.tmod ((l.length : Int) + 1) = k := ⟨(at'.tmod ((l.length : Int) + 1)).toNat, by rw [Int.toNat_of_nonneg (Int.tmod_nonneg _ a0)]⟩
 have hkl : k ≤ l.length := by
  have := Int.tmod_lt_of_pos at' (show (0 : Int) < (l.length : Int) + 1 by omega)
  omega
 rw [hk]
 simp only [Do_of, slice_take l hkl]
 obtain ⟨p1, p2⟩ := scr_parts l m k hkl
 obtain ⟨f1, f2, f3, f4⟩ := scrM_inv l m 0 hv
 have hd1' : ∀ j, FP imb ibb idsb tb j → ¬ FP ima iba idsa ta1 j := fun j h1 h2 => hd1 j h2 h1
 have hz := (scr_le l m 0).2
 refine Run_ok hGT hT hb1 hv .dead (l.take k) (by rw [List.length_take]; omega) fun H2 tb2 gb vb => ?_
 obtain ⟨ha2, hd2⟩ := ga.beside vb hd1'
 simp only [List.getElem?_cons_zero, List.getElem?_cons_succ, Do_of, abin_eql, Gd_true]
 refine u_ite (fun e => ?_) (fun e => ?_)
 · have e : (scrM (l.take k) m 0).2.2 = 0 := by simpa using e
   obtain ⟨q1, q2, q3⟩ := p2 e
   rw [slice_drop l hkl]
   simp only [Do_of]
   obtain ⟨w1, w2, w3, w4⟩ := scrM_inv (l.take k) m 0 hv
   refine Run_ok hGT hT gb w1 .dead (l.drop k) (by rw [List.length_drop]; omega) fun H3 tb3 gb3 vb3 => ?_
   obtain ⟨ha3, _⟩ := ha2.beside vb3 hd2
   simp only [List.getElem?_cons_zero, List.getElem?_cons_succ, Do_of, abin_add, JoinP_def]
   have hle := (scr_le (l.drop k) (scrM (l.take k) m 0).1 0).2
   have hle2 := (scr_le (l.take k) m 0).2
   rw [List.length_drop] at hle
   rw [List.length_take] at hle2
   rw [wrap_i64 (by omega) (by omega), show (((scrM (l.take k) m 0).2.1 : Int) + (scrM (l.drop k) (scrM (l.take k) m 0).1 0).2.1) = ((scrM l m 0).2.1 : Nat) by omega, ← q3]
   rw [← q1] at gb3
   exact outs_ok hGT hT hA ha3 gb3 f1 (by rw [f4]; exact h0) (by rw [f4, f3]; exact hs) hQ
 · have e : (scrM (l.take k) m 0).2.2 ≠ 0 := by simpa using e
   have q := p1 e
   simp only [JoinP_def]
   rw [← q] at gb ⊢
   exact outs_ok hGT hT hA ha2 gb f1 (by rw [f4]; exact h0) (by rw [f4, f3]; exact hs) hQ
include hCl
theorem Splits_spec {g : GImg} (ho : g.ok) {l : List (Int × Int × Int)} (hll : l.length ≤ 140737488355328) {at' : Int} (a0 : 0 ≤ at') (a1 : at' ≤ 255) {H : AH} {Q : Post} (hQ : ∀ H, Q (.bool true) H) : S.f3 (ACall C) (.agg g.cells) (lstA siteV l) (.int .u8 at') H Q := by
 unfold S.f3
 have hb : aboxv H false 4 (.agg g.cells) = some (.fptr g.cells, H) := by unfold aboxv; rw [if_pos ⟨rfl, rfl⟩]; rfl
 have la : ∀ H, aload H 4 true (.fptr g.cells) = some (.agg g.cells) := fun _ => takeCells_whole (n := 4) rfl
 have hn : alen false (lstA siteV l) = some (.int .i64 l.length) := rfl
 simp only [hb, DoH_some, la, Do_of]
 refine small_ok hT ho fun b hb => ?_
 have k15 : b = true → l.length ≤ 12 → S.f3_k15 (ACall C) (lstA siteV l) (.int .u8 at') (.fptr g.cells) Q [] H := by
  intro e hl12
  have hw : g.ths.length ≤ 8 → ∀ ws ∈ g.ths, ws.length ≤ 1000000 := fun h8 ws hws => Nat.le_trans (hb e (by omega) ws hws) (by decide)
  simp only [S.f3_k15, la, Do_of]
  refine New_ok hGT hT hCl ho.s hw (fun he H1 => ?_) (fun he im ib ids tks H1 E1 h1 fp1 => ?_)
  · simp only [aextract, List.getElem?_cons_zero, List.getElem?_cons_succ, Do_of, la]
    refine New_ok hGT hT hCl ho.s hw (fun _ H2 => ?_) (fun he' => absurd he' he)
    simp only [aextract, List.getElem?_cons_zero, List.getElem?_cons_succ, Do_of, abin_neq, Gd3_false, JoinP_def]
    rw [if_neg (by simpa using he)]
    simp only [S.f3_k14, sl_zero, Gd3_false, JoinP_def, Bool.true_eq_false, if_false, S.f3_k13, S.f3_k12, Gd_true, if_true]
    refine hA _ _ ?_
    simp only [Gd3_true, if_true, abin_eql, Do_of, JoinP_def, S.f3_k3, sl_zero, abin_neq]
    rw [if_pos (by simp), show ((newM g).1 != 0) = true by simpa using he]
    exact hQ _
  · simp only [aextract, List.getElem?_cons_zero, List.getElem?_cons_succ, Do_of, la]
    refine New_ok hGT hT hCl ho.s hw (fun he' => absurd he he') (fun _ imb ibb idsb tb H2 E2 h2 fp2 => ?_)
    have h12 := h1.frame E2.1 (fun j hj => E2.2 j (h1.lt hj))
    simp only [aextract, List.getElem?_cons_zero, List.getElem?_cons_succ, Do_of, abin_neq, Gd3_false, JoinP_def, anil, AV.isNil, Option.map_some, Bool.false_eq_true, if_false]
    rw [if_pos (by simp)]
    simp only [S.f3_k14, sl_zero, Gd3_false, JoinP_def, S.f3_k13, S.f3_k12, Gd_true, anil, AV.isNil, Option.map_some, Do_of, Bool.false_eq_true, if_false]
    rw [if_pos (by simp)]
    obtain ⟨i1, i2, i3, i4, i5⟩ := newM_inv g he
    have hnb : ¬ (g.ths.length < 1 ∨ g.ths.length > 8 ∨ g.sites.length ≠ g.ths.length ∨ g.size < 0 ∨ g.size > 65536) := i2
    have hs0 : 0 ≤ g.size ∧ g.size ≤ (g.room : Nat) := by unfold GImg.room; omega
    exact run2_ok hGT hT hA h12 h2 (fun j hj hj2 => by
      have := h1.lt hj
      have := fp2 j hj2
      omega) i1 (by rw [i4]; exact hs0.1) (by rw [i4, i5]; exact hs0.2) hl12 a0 a1 hQ
 have l16 : b = true → l.length ≤ 12 → ∀ (r : List (Int × Int × Int)) (k : Nat), l.drop k = r → k ≤ l.length → LoopP (S.f3_l16 (ACall C) (lstA siteV l) (.int .u8 at') (.fptr g.cells) Q) ([.int .i64 k], H) := by
  intro eb hl12 r
  induction r with
  | nil =>
   intro k hd hk
   have := List.drop_eq_nil_iff.1 hd
   refine LoopP.step ?_
   simp only [S.f3_l16, sl_zero, hn, Do_of, abin_lss, Gd_true, JoinP_def]
   rw [if_neg (by simp only [decide_eq_true_eq]; omega)]
   exact k15 eb hl12
  | cons s r ih =>
   intro k hd hk
   obtain ⟨hlt, hx, hd'⟩ := drop_cons_lt hd
   have hp : aiaddr none 3 (lstA siteV l) (.int .i64 k) = some (.fptr ((l.flatMap siteV).drop (k * 3))) := by
    show (if 0 ≤ (k : Int) ∧ (k : Int) < (l.length : Nat) then some (AV.fptr ((l.flatMap siteV).drop ((k : Int).toNat * 3))) else none) = _
    rw [if_pos ⟨by omega, by omega⟩, Int.toNat_natCast]
   have hdr : (l.flatMap siteV).drop (k * 3) = siteV s ++ r.flatMap siteV := by rw [siteV_drop, hd]; rfl
   have f1 : afaddr 1 (.fptr (siteV s ++ r.flatMap siteV)) = some (.fptr ([.int .i64 s.2.1, .int .i64 s.2.2] ++ r.flatMap siteV)) := rfl
   have f2 : afaddr 2 (.fptr (siteV s ++ r.flatMap siteV)) = some (.fptr ([.int .i64 s.2.2] ++ r.flatMap siteV)) := rfl
   have e1 : aload H 1 false (.fptr ([.int .i64 s.2.1, .int .i64 s.2.2] ++ r.flatMap siteV)) = some (.int .i64 s.2.1) := by
    show takeCells _ 0 1 false = _
    unfold takeCells
    rw [if_pos (by simp), if_neg (by decide)]; rfl
   have e2 : aload H 1 false (.fptr ([.int .i64 s.2.2] ++ r.flatMap siteV)) = some (.int .i64 s.2.2) := by
    show takeCells _ 0 1 false = _
    unfold takeCells
    rw [if_pos (by simp), if_neg (by decide)]; rfl
   have k2 : ∀ c : Bool, S.f3_k2 (ACall C) ([.int .i64 k], H) (LoopP (S.f3_l16 (ACall C) (lstA siteV l) (.int .u8 at') (.fptr g.cells) Q)) Q [.bool c] H := by
    intro c
    simp only [S.f3_k2, sl_zero, Gd_true, JoinP_def, S.f3_k1, abin_add, Do_of]
    refine u_ite (fun _ => hA _ _ (hQ _)) (fun _ => ?_)
    rw [wrap_i64 (by omega) (by omega), show (k : Int) + 1 = ((k + 1 : Nat) : Int) by omega]
    exact ih (k + 1) hd' hlt
   refine LoopP.step ?_
   simp only [S.f3_l16, sl_zero, hn, Do_of, abin_lss, Gd_true, JoinP_def]
   rw [if_pos (by simp only [decide_eq_true_eq]; omega)]
   simp only [hp, hdr, f1, f2, e1, e2, Do_of, abin_gtr, Gd3_false, JoinP_def]
   exact u_itef (fun _ => k2 _) (fun _ => k2 _)
 have k18 : ∀ c : Bool, (c = false → b = true ∧ l.length ≤ 12) → S.f3_k18 (ACall C) (lstA siteV l) (.int .u8 at') (.fptr g.cells) Q [.bool c] H := by
  intro c hc
  simp only [S.f3_k18, sl_zero, Gd_true, JoinP_def, S.f3_k17]
  refine u_ite (fun _ => hA _ _ (hQ _)) (fun e => ?_)
  obtain ⟨e1, e2⟩ := hc e
  exact l16 e1 e2 l 0 rfl (Nat.zero_le _)
 simp only [aun_not, Do_of, Gd3_false, hn, abin_gtr, JoinP_def]
 refine u_itef (fun e => ?_) (fun e => ?_)
 · refine k18 _ fun e' => ⟨by simpa using e, ?_⟩
   simp only [decide_eq_false_iff_not] at e'
   omega
 · exact k18 true (fun e' => by cases e')
end
end Rb

namespace Go.Proofs.YtjnhnoldfbkgmaaGreatDoor.rb
open Rb
theorem machSplits.any (x : GImg) (hx : x.ok) (l : List (Int × Int × Int)) (hl : l.length ≤ 140737488355328) (_ : ∀ y ∈ l, True) (a : Int) (a0 : 0 ≤ a) (a1 : a ≤ 255) : ACall C K.f3 [.agg x.cells, lstA siteV l, .int .u8 a] AH.mt (fun v _ => v = .bool true) :=
 S.cl_f3 cl_Mch (Splits_spec gtC cl_Mch (fun H Q hQ => RbM18_rootok0 K.f5 [] (.bool true) rfl H Q hQ) cloneE hx hl a0 a1 fun _ => rfl)
end Go.Proofs.YtjnhnoldfbkgmaaGreatDoor.rb

namespace Go.Proofs.YtjnhnoldfbkgmaaGreatDoor.rb
open Rb Go.ChangeShapes Go.WideShapes Go.ChangeAt Go.RowKit
theorem own : ownKnob Tryz.prog.godebug = none := by kernel_rfl
theorem laidOut : laidOutB Tryz.prog = true := by kernel_rfl
theorem cellsU : Tryz.prog.cellsOf 5 = 1 := by kernel_rfl
def laidVars : List (String × DataW Unit) := Rows.machSplitsRow.laid
theorem gT0 : Tryz.prog.globalNamed "strings.asciiSpace" = some 0 := by kernel_rfl
theorem gTType0 : (Tryz.prog.globals[0]?).map (·.type) = some 273 := by kernel_rfl
theorem cellsT0 : Tryz.prog.cellsOf 273 = 256 := by kernel_rfl
theorem tab_eq0 : (Rows.laid_strings_asciiSpace : DataW Unit) = Go.Lib.tabData .u8 Go.Lib.asciiSpaceTab := by kernel_rfl
theorem tab_mem0 : (("strings.asciiSpace", Go.Lib.tabData .u8 Go.Lib.asciiSpaceTab) : String × DataW Unit) ∈ laidVars := by
 rw [← tab_eq0]; exact .tail _ (.tail _ (.tail _ (.tail _ (.tail _ (.tail _ (.head _))))))
set_option maxRecDepth 100000 in
theorem tab_of0 {W : World} (h : laidMet Tryz.prog laidVars W) : Go.Lib.TabIs Tryz.prog W "strings.asciiSpace" .u8 Go.Lib.asciiSpaceTab := by
 obtain ⟨g', t', cs, fuel, p, hg', ht', hvar, hd⟩ := Go.Lib.laidMet.reads h tab_mem0
 obtain rfl := Option.some.inj (gT0.symm.trans hg')
 obtain rfl := Option.some.inj (gTType0.symm.trans ht')
 unfold Go.Lib.TabIs
 rw [hvar, ← Go.Lib.cells_of_tab Tryz.underlying273 Tryz.underlying5 cellsU cellsT0 hd]
theorem gT1 : Tryz.prog.globalNamed "internal/strconv.uint64pow10" = some 5 := by kernel_rfl
theorem gTType1 : (Tryz.prog.globals[5]?).map (·.type) = some 433 := by kernel_rfl
theorem cellsT1 : Tryz.prog.cellsOf 433 = 20 := by kernel_rfl
theorem tab_eq1 : (Rows.laid_internal_strconv_uint64pow10 : DataW Unit) = Go.Lib.tabData .u64 tenTab := by kernel_rfl
theorem tab_mem1 : (("internal/strconv.uint64pow10", Go.Lib.tabData .u64 tenTab) : String × DataW Unit) ∈ laidVars := by
 rw [← tab_eq1]; exact .tail _ (.tail _ (.head _))
set_option maxRecDepth 100000 in
theorem tab_of1 {W : World} (h : laidMet Tryz.prog laidVars W) : Go.Lib.TabIs Tryz.prog W "internal/strconv.uint64pow10" .u64 tenTab := by
 obtain ⟨g', t', cs, fuel, p, hg', ht', hvar, hd⟩ := Go.Lib.laidMet.reads h tab_mem1
 obtain rfl := Option.some.inj (gT1.symm.trans hg')
 obtain rfl := Option.some.inj (gTType1.symm.trans ht')
 unfold Go.Lib.TabIs
 rw [hvar, ← Go.Lib.cells_of_tab Tryz.underlying433 Tryz.underlying12 (by kernel_rfl) cellsT1 hd]
theorem gT2 : Tryz.prog.globalNamed "math/bits.deBruijn64tab" = some 7 := by kernel_rfl
theorem gTType2 : (Tryz.prog.globals[7]?).map (·.type) = some 436 := by kernel_rfl
theorem cellsT2 : Tryz.prog.cellsOf 436 = 64 := by kernel_rfl
theorem tab_eq2 : (Rows.laid_math_bits_deBruijn64tab : DataW Unit) = Go.Lib.tabData .u8 deB64 := by kernel_rfl
theorem tab_mem2 : (("math/bits.deBruijn64tab", Go.Lib.tabData .u8 deB64) : String × DataW Unit) ∈ laidVars := by
 rw [← tab_eq2]; exact .tail _ (.head _)
set_option maxRecDepth 100000 in
theorem tab_of2 {W : World} (h : laidMet Tryz.prog laidVars W) : Go.Lib.TabIs Tryz.prog W "math/bits.deBruijn64tab" .u8 deB64 := by
 obtain ⟨g', t', cs, fuel, p, hg', ht', hvar, hd⟩ := Go.Lib.laidMet.reads h tab_mem2
 obtain rfl := Option.some.inj (gT2.symm.trans hg')
 obtain rfl := Option.some.inj (gTType2.symm.trans ht')
 unfold Go.Lib.TabIs
 rw [hvar, ← Go.Lib.cells_of_tab Tryz.underlying436 Tryz.underlying5 cellsU cellsT2 hd]
theorem gok0 {W : World} (h : laidMet Tryz.prog laidVars W) : GOK C W (Ghost.mt (allFz W)) := by
 intro g l hg
 change gt g = some l at hg
 unfold gt at hg
 split at hg
 · rename_i e
   subst e
   cases hg
   rw [asciiSpace_eq]
   exact fptr_of_tab fun i hi => (tab_of0 h).cell gT0 i hi
 · split at hg
   · rename_i e
     subst e
     cases hg
     rw [(show pow10tab = tenTab.map (AV.int .u64) from rfl)]
     exact fptr_of_tab fun i hi => (tab_of1 h).cell gT1 i hi
   · split at hg
     · rename_i e
       subst e
       cases hg
       rw [(show deBruijn64tab = deB64.map (AV.int .u8) from rfl)]
       exact fptr_of_tab fun i hi => (tab_of2 h).cell gT2 i hi
     · cases hg
theorem gok {W : World} (h : laidMet Tryz.prog laidVars W) : GOX C W (Ghost.mt (allFz W)) AH.mt := by
 refine ⟨gok0 h, fun g l hg _ => ⟨?_, fun i hi => by cases hi⟩⟩
 change gt g = some l at hg
 unfold gt at hg
 split at hg
 · rename_i e
   subst e
   cases hg
   obtain ⟨cs, t, fr, h1, h2⟩ := size_of_var gT0 (tab_of0 h)
   exact ⟨cs, t, fr, h1, h2.trans (by kernel_rfl)⟩
 · split at hg
   · rename_i e
     subst e
     cases hg
     obtain ⟨cs, t, fr, h1, h2⟩ := size_of_var gT1 (tab_of1 h)
     exact ⟨cs, t, fr, h1, h2.trans (by kernel_rfl)⟩
   · split at hg
     · rename_i e
       subst e
       cases hg
       obtain ⟨cs, t, fr, h1, h2⟩ := size_of_var gT2 (tab_of2 h)
       exact ⟨cs, t, fr, h1, h2.trans (by kernel_rfl)⟩
     · cases hg
noncomputable def laidWorld (os : Os) : World :=
 let N := (World.settled Tryz.prog os).heap.size
 let w0 := World.holding Tryz.prog os ⟨#[.cells #[.string ⟨#[118, 97, 108, 117, 101, 32, 111, 117, 116, 32, 111, 102, 32, 114, 97, 110, 103, 101]⟩] 411, .cells #[.string ⟨#[105, 110, 118, 97, 108, 105, 100, 32, 115, 121, 110, 116, 97, 120]⟩] 411, .cells #[.int .u16 9, .int .u16 13, .int .u16 1, .int .u16 32, .int .u16 133, .int .u16 101, .int .u16 160, .int .u16 5760, .int .u16 5600, .int .u16 8192, .int .u16 8202, .int .u16 1, .int .u16 8232, .int .u16 8233, .int .u16 1, .int .u16 8239, .int .u16 8287, .int .u16 48, .int .u16 12288, .int .u16 12288, .int .u16 1] 363, .cells #[.slice (some ⟨N + 2, 0, none⟩) 7 7, .slice none 0 0, .int .i64 2] 360], #[], []⟩
 let put (h : Array Obj) (g : Nat) (cs : Array Value) : Array Obj := h.modify g fun
  | .cells _ t frozen => .cells cs t frozen
  | o => o
 { w0 with heap := put (put (put (put (put (put (put (w0.heap) 6 #[.int .u8 0, .int .u8 1, .int .u8 28, .int .u8 2, .int .u8 29, .int .u8 14, .int .u8 24, .int .u8 3, .int .u8 30, .int .u8 22, .int .u8 20, .int .u8 15, .int .u8 25, .int .u8 17, .int .u8 4, .int .u8 8, .int .u8 31, .int .u8 27, .int .u8 13, .int .u8 23, .int .u8 21, .int .u8 19, .int .u8 16, .int .u8 7, .int .u8 26, .int .u8 12, .int .u8 18, .int .u8 6, .int .u8 11, .int .u8 5, .int .u8 10, .int .u8 9]) 7 #[.int .u8 0, .int .u8 1, .int .u8 56, .int .u8 2, .int .u8 57, .int .u8 49, .int .u8 28, .int .u8 3, .int .u8 61, .int .u8 58, .int .u8 42, .int .u8 50, .int .u8 38, .int .u8 29, .int .u8 17, .int .u8 4, .int .u8 62, .int .u8 47, .int .u8 59, .int .u8 36, .int .u8 45, .int .u8 43, .int .u8 51, .int .u8 22, .int .u8 53, .int .u8 39, .int .u8 33, .int .u8 30, .int .u8 24, .int .u8 18, .int .u8 12, .int .u8 5, .int .u8 63, .int .u8 55, .int .u8 48, .int .u8 27, .int .u8 60, .int .u8 41, .int .u8 37, .int .u8 16, .int .u8 46, .int .u8 35, .int .u8 44, .int .u8 21, .int .u8 52, .int .u8 32, .int .u8 23, .int .u8 11, .int .u8 54, .int .u8 26, .int .u8 40, .int .u8 15, .int .u8 34, .int .u8 20, .int .u8 31, .int .u8 10, .int .u8 25, .int .u8 14, .int .u8 19, .int .u8 9, .int .u8 13, .int .u8 8, .int .u8 7, .int .u8 6]) 5 #[.int .u64 1, .int .u64 10, .int .u64 100, .int .u64 1000, .int .u64 10000, .int .u64 100000, .int .u64 1000000, .int .u64 10000000, .int .u64 100000000, .int .u64 1000000000, .int .u64 10000000000, .int .u64 100000000000, .int .u64 1000000000000, .int .u64 10000000000000, .int .u64 100000000000000, .int .u64 1000000000000000, .int .u64 10000000000000000, .int .u64 100000000000000000, .int .u64 1000000000000000000, .int .u64 10000000000000000000]) 3 #[.iface 409 (.pointer (some ⟨N + 0, 0, none⟩))]) 2 #[.iface 409 (.pointer (some ⟨N + 1, 0, none⟩))]) 1 #[.pointer (some ⟨N + 3, 0, none⟩)]) 0 #[.int .u8 0, .int .u8 0, .int .u8 0, .int .u8 0, .int .u8 0, .int .u8 0, .int .u8 0, .int .u8 0, .int .u8 0, .int .u8 1, .int .u8 1, .int .u8 1, .int .u8 1, .int .u8 1, .int .u8 0, .int .u8 0, .int .u8 0, .int .u8 0, .int .u8 0, .int .u8 0, .int .u8 0, .int .u8 0, .int .u8 0, .int .u8 0, .int .u8 0, .int .u8 0, .int .u8 0, .int .u8 0, .int .u8 0, .int .u8 0, .int .u8 0, .int .u8 0, .int .u8 1, .int .u8 0, .int .u8 0, .int .u8 0, .int .u8 0, .int .u8 0, .int .u8 0, .int .u8 0, .int .u8 0, .int .u8 0, .int .u8 0, .int .u8 0, .int .u8 0, .int .u8 0, .int .u8 0, .int .u8 0, .int .u8 0, .int .u8 0, .int .u8 0, .int .u8 0, .int .u8 0, .int .u8 0, .int .u8 0, .int .u8 0, .int .u8 0, .int .u8 0, .int .u8 0, .int .u8 0, .int .u8 0, .int .u8 0, .int .u8 0, .int .u8 0, .int .u8 0, .int .u8 0, .int .u8 0, .int .u8 0, .int .u8 0, .int .u8 0, .int .u8 0, .int .u8 0, .int .u8 0, .int .u8 0, .int .u8 0, .int .u8 0, .int .u8 0, .int .u8 0, .int .u8 0, .int .u8 0, .int .u8 0, .int .u8 0, .int .u8 0, .int .u8 0, .int .u8 0, .int .u8 0, .int .u8 0, .int .u8 0, .int .u8 0, .int .u8 0, .int .u8 0, .int .u8 0, .int .u8 0, .int .u8 0, .int .u8 0, .int .u8 0, .int .u8 0, .int .u8 0, .int .u8 0, .int .u8 0, .int .u8 0, .int .u8 0, .int .u8 0, .int .u8 0, .int .u8 0, .int .u8 0, .int .u8 0, .int .u8 0, .int .u8 0, .int .u8 0, .int .u8 0, .int .u8 0, .int .u8 0, .int .u8 0, .int .u8 0, .int .u8 0, .int .u8 0, .int .u8 0, .int .u8 0, .int .u8 0, .int .u8 0, .int .u8 0, .int .u8 0, .int .u8 0, .int .u8 0, .int .u8 0, .int .u8 0, .int .u8 0, .int .u8 0, .int .u8 0, .int .u8 0, .int .u8 0, .int .u8 0, .int .u8 0, .int .u8 0, .int .u8 0, .int .u8 0, .int .u8 0, .int .u8 0, .int .u8 0, .int .u8 0, .int .u8 0, .int .u8 0, .int .u8 0, .int .u8 0, .int .u8 0, .int .u8 0, .int .u8 0, .int .u8 0, .int .u8 0, .int .u8 0, .int .u8 0, .int .u8 0, .int .u8 0, .int .u8 0, .int .u8 0, .int .u8 0, .int .u8 0, .int .u8 0, .int .u8 0, .int .u8 0, .int .u8 0, .int .u8 0, .int .u8 0, .int .u8 0, .int .u8 0, .int .u8 0, .int .u8 0, .int .u8 0, .int .u8 0, .int .u8 0, .int .u8 0, .int .u8 0, .int .u8 0, .int .u8 0, .int .u8 0, .int .u8 0, .int .u8 0, .int .u8 0, .int .u8 0, .int .u8 0, .int .u8 0, .int .u8 0, .int .u8 0, .int .u8 0, .int .u8 0, .int .u8 0, .int .u8 0, .int .u8 0, .int .u8 0, .int .u8 0, .int .u8 0, .int .u8 0, .int .u8 0, .int .u8 0, .int .u8 0, .int .u8 0, .int .u8 0, .int .u8 0, .int .u8 0, .int .u8 0, .int .u8 0, .int .u8 0, .int .u8 0, .int .u8 0, .int .u8 0, .int .u8 0, .int .u8 0, .int .u8 0, .int .u8 0, .int .u8 0, .int .u8 0, .int .u8 0, .int .u8 0, .int .u8 0, .int .u8 0, .int .u8 0, .int .u8 0, .int .u8 0, .int .u8 0, .int .u8 0, .int .u8 0, .int .u8 0, .int .u8 0, .int .u8 0, .int .u8 0, .int .u8 0, .int .u8 0, .int .u8 0, .int .u8 0, .int .u8 0, .int .u8 0, .int .u8 0, .int .u8 0, .int .u8 0, .int .u8 0, .int .u8 0, .int .u8 0, .int .u8 0, .int .u8 0, .int .u8 0, .int .u8 0, .int .u8 0, .int .u8 0, .int .u8 0, .int .u8 0, .int .u8 0, .int .u8 0, .int .u8 0, .int .u8 0, .int .u8 0, .int .u8 0, .int .u8 0, .int .u8 0, .int .u8 0, .int .u8 0] }
theorem laid_met (os : Os) (args : Array Value) : laidMet Tryz.prog laidVars ((laidWorld os).forCall (fun _ _ => 0) ⟨#[], args, []⟩).memory :=
 laidMet_of_run3 10 (by kernel_rfl) (by kernel_rfl) (by kernel_rfl)
theorem laid_shaped (os : Os) (args : Array Value) : ((laidWorld os).forCall (fun _ _ => 0) ⟨#[], args, []⟩).Shaped Tryz.prog := World.shaped_of_RefB (by kernel_rfl) (by kernel_rfl)
end Go.Proofs.YtjnhnoldfbkgmaaGreatDoor.rb

namespace Rb
open Go Go.RowKit
theorem VR.lst_len {F : FTab} {w : World} {G : Ghost} {tk : Tok} {n : Nat} {cs : List AV} {a : Option Addr} {m c : Nat} (h : VR F w G (.lst tk n cs) (.slice a m c)) : n = m := by
 cases h <;> rfl
section
variable {H : Type} {enc : TypeId × Value → H} {P : Program} {w : World} {sp : Nat → Bool} {held : Bool} {F : FTab} {G : Ghost}
end
end Rb

namespace Rb
open Go Go.RowKit
section
variable {H : Type} {enc : TypeId × Value → H} {P : Program} {w : World} {sp : Nat → Bool} {held : Bool} {F : FTab}
theorem VRs.one_inv {G : Ghost} {c : AV} {cs : List Value} (h : VRs F w G [c] cs.toArray) : ∃ V, cs = [V] ∧ VR F w G c V := by
 obtain ⟨hl, hv⟩ := h
 match cs, hl with
 | [V], _ => exact ⟨V, rfl, hv 0 c V rfl rfl⟩
theorem Dec.slice47 {n : Nat} {t e0 : TypeId} {α : Type} {cells : α → List AV} {ok : α → Prop} (ht : P.underlying t = some (.slice e0)) {sz : Nat} (hs : P.cellsOf e0 = sz) (hz : 0 < sz) (hc : ∀ x, (cells x).length = sz) (hb : 0 < P.bytesOf e0) (h : Dec F enc P w sp held n e0 cells ok) :
  Dec F enc P w sp held (n + 1) t (fun xs : List α => [lstA cells xs]) (fun xs => xs.length ≤ 140737488355328 ∧ ∀ x ∈ xs, ok x) := by
 intro fuel hf cs d ps hd hwt
 obtain ⟨xs, hx, hv⟩ := Dec.slice ht hs hz hc h fuel hf cs d ps hd hwt
 refine ⟨xs, ⟨?_, hx.2⟩, hv⟩
 obtain ⟨V, hcs, hV⟩ := VRs.one_inv hv
 subst hcs
 rcases DataW.trod_slice ht hd with ⟨e, _⟩ | ⟨a, len, cap, elems, rest, m, _, e, hdx, _, _, _, hel, _⟩
 · simp only [List.cons.injEq, and_true] at e
   subst e
   rw [hV.lst_len]; simp
 · simp only [List.cons.injEq, and_true] at e
   subst e
   have hn := hV.lst_len
   have hmem : ∀ d', d = d' → d' = .slice (elems.map (·.1)) (rest.map (·.1)) → (elems.length + rest.length) * P.bytesOf e0 ∈ d.weights P t := by
    rintro d' rfl rfl
    simp [DataW.weights, ht]
   have hmem := hmem _ rfl (congrArg Prod.fst hdx)
   have h1 := hwt _ hmem
   have h2 : reachBytes < 140737488355328 := reachBytes_lt
   have h3 : elems.length * 1 ≤ (elems.length + rest.length) * P.bytesOf e0 := Nat.mul_le_mul (Nat.le_add_right _ _) hb
   omega
def GProg.ok2 (p : GProg) : Prop := p.ok ∧ p.threads.length ≤ 140737488355328 ∧ ∀ t ∈ p.threads, t.length ≤ 140737488355328
end
end Rb

namespace Go.Proofs.YtjnhnoldfbkgmaaGreatDoor.rb
open Rb
variable {H : Type} {enc : TypeId × Value → H} {w : World} {sp : Nat → Bool} {held : Bool} {F : FTab}
theorem decSite (n : Nat) : Dec F enc Tryz.prog w sp held n 52 siteV (fun _ => True) := Dec.map (fun x : Int × Int × Int × Unit => ((x.1, x.2.1, x.2.2.1) : Int × Int × Int)) (fun _ => rfl) (fun _ _ => trivial) (Dec.mono (n := n + 1) (Dec.struct Tryz.underlying52 rfl (by kernel_rfl) (by kernel_rfl) (DecL.cons (Dec.int Tryz.underlying3) (DecL.cons (Dec.int Tryz.underlying3) (DecL.cons (Dec.int Tryz.underlying3) DecL.nil)))) (by omega))
theorem decStep (n : Nat) : Dec F enc Tryz.prog w sp held n 31 siteV (fun _ => True) := Dec.map (fun x : Int × Int × Int × Unit => ((x.1, x.2.1, x.2.2.1) : Int × Int × Int)) (fun _ => rfl) (fun _ _ => trivial) (Dec.mono (n := n + 1) (Dec.struct Tryz.underlying31 rfl (by kernel_rfl) (by kernel_rfl) (DecL.cons (Dec.int Tryz.underlying3) (DecL.cons (Dec.int Tryz.underlying3) (DecL.cons (Dec.int Tryz.underlying3) DecL.nil)))) (by omega))
theorem decSteps (n : Nat) : Dec F enc Tryz.prog w sp held n 27 (fun xs : List (Int × Int × Int) => [lstA siteV xs]) (fun xs => xs.length ≤ 140737488355328 ∧ ∀ x ∈ xs, True) := Dec.mono (Dec.slice47 Tryz.underlying27 (sz := 3) (by kernel_rfl) (by decide) (fun _ => rfl) (Nat.le_of_ble_eq_true (by kernel_rfl)) (decStep n)) (Nat.le_succ n)
theorem decWords (n : Nat) : Dec F enc Tryz.prog w sp held n 58 wsC (fun ws => ws.length ≤ 140737488355328) := Dec.map id (fun _ => rfl) (fun x hx => hx.1) (Dec.mono (Dec.slice47 Tryz.underlying58 (sz := 1) (by kernel_rfl) (by decide) (fun _ => rfl) (Nat.le_of_ble_eq_true (by kernel_rfl)) (Dec.int Tryz.underlying78 (n := n))) (Nat.le_succ n))
theorem decSites (n : Nat) : Dec F enc Tryz.prog w sp held n 69 ssC (fun _ => True) := Dec.map id (fun _ => rfl) (fun x hx => trivial) (Dec.mono (Dec.slice Tryz.underlying69 (sz := 3) (by kernel_rfl) (by decide) (fun _ => rfl) (decSite n)) (Nat.le_succ n))
theorem decImage (n : Nat) : Dec F enc Tryz.prog w sp held n 26 GImg.cells GImg.ok := by
 refine Dec.mono (n := n + 5) ?_ (by omega)
 have kW := Dec.slice47 (F := F) (enc := enc) (w := w) (sp := sp) (held := held) Tryz.underlying22 (sz := 1) (by kernel_rfl) (by decide) (fun _ => rfl) (Nat.le_of_ble_eq_true (by kernel_rfl)) (decWords (F := F) (enc := enc) (w := w) (sp := sp) (held := held) (n + 3))
 have kS := Dec.slice (F := F) (enc := enc) (w := w) (sp := sp) (held := held) Tryz.underlying23 (sz := 1) (by kernel_rfl) (by decide) (fun _ => rfl) (decSites (F := F) (enc := enc) (w := w) (sp := sp) (held := held) (n + 3))
 have kP := Dec.struct (F := F) (enc := enc) (w := w) (sp := sp) (held := held) (n := n + 1) Tryz.underlying46 rfl (by kernel_rfl) (by kernel_rfl) (DecL.cons (Dec.int Tryz.underlying3) (DecL.cons (Dec.int Tryz.underlying3) DecL.nil))
 have kG0 := Dec.struct (F := F) (enc := enc) (w := w) (sp := sp) (held := held) (n := n + 2) Tryz.underlying193 rfl (by kernel_rfl) (by kernel_rfl) (DecL.cons (Dec.string Tryz.underlying9) (DecL.cons kP DecL.nil))
 have kG := Dec.slice (F := F) (enc := enc) (w := w) (sp := sp) (held := held) Tryz.underlying24 (sz := 3) (by kernel_rfl) (by decide) (fun _ => rfl) kG0
 have kI := Dec.struct (F := F) (enc := enc) (w := w) (sp := sp) (held := held) (n := n + 4) Tryz.underlying26 rfl (by kernel_rfl) (by kernel_rfl) (DecL.cons kW (DecL.cons kS (DecL.cons kG (DecL.cons (Dec.i64 Tryz.underlying3) DecL.nil))))
 exact Dec.map (fun x : List (List Int) × List (List (Int × Int × Int)) × List (List UInt8 × (Int × Int × Unit) × Unit) × Int × Unit => (⟨x.1, x.2.1, lstA _ x.2.2.1, x.2.2.2.1⟩ : GImg)) (fun _ => rfl) (fun x hx => ⟨hx.1.1, hx.1.2, hx.2.2.2.1⟩) kI
end Go.Proofs.YtjnhnoldfbkgmaaGreatDoor.rb
