/- A part of the proof (part 5): see the last text. -/
import Derived.Test.YtbkkoplgicffgaaGreatDoorRb3
import Derived.Test.YtbkkoplgicffgaaGreatDoorRb4
import Derived.Shelf.Pu.ParseUintPublic10
import Derived.Lib.AtoiErrMem
import Derived.Lib.ItoaNum
set_option linter.unusedVariables false
set_option linter.unusedSimpArgs false
namespace Go.Proofs.YtbkkoplgicffgaaGreatDoor.rb
open Rb Go.Shelf Go.RowKit
def laysPu14_ren : Go.Shelf.Ren := ⟨fun | 14 => 84 | 16 => 110 | 17 => 111 | 19 => 126 | 20 => 127 | 21 => 128 | 22 => 129 | 23 => 130 | 24 => 131 | 25 => 146 | 27 => 95 | 26 => 147 | 28 => 116 | 29 => 137 | 30 => 133 | 31 => 134 | 32 => 135 | 33 => 136 | 35 => 149 | 34 => 148 | 36 => 150 | 37 => 151 | 38 => 152 | 39 => 154 | 40 => 155 | n => n, fun | 9 => 9 | 3 => 3 | 22 => 70 | 24 => 114 | 25 => 145 | 4 => 4 | 34 => 183 | 5 => 5 | 36 => 185 | 37 => 75 | 0 => 0 | 39 => 186 | 21 => 21 | 44 => 210 | 47 => 123 | 50 => 224 | 48 => 222 | 2 => 2 | 52 => 189 | 55 => 192 | 59 => 214 | 60 => 180 | 20 => 20 | 61 => 215 | 65 => 226 | 66 => 227 | 67 => 62 | n => n, fun | 0 => 2 | 1 => 3 | 2 => 4 | 3 => 8 | 4 => 9 | n => n⟩
theorem laysPu14 : Go.Proofs.LaysPu.n14 Tryz.prog laysPu14_ren := {
  mixed := by kernel_rfl
  f14 := Tryz.func84.trans (congrArg some (by kernel_rfl))
  f16 := Tryz.func110.trans (congrArg some (by kernel_rfl))
  f17 := Tryz.func111.trans (congrArg some (by kernel_rfl))
  f19 := Tryz.func126.trans (congrArg some (by kernel_rfl))
  f20 := Tryz.func127.trans (congrArg some (by kernel_rfl))
  f21 := Tryz.func128.trans (congrArg some (by kernel_rfl))
  f22 := Tryz.func129.trans (congrArg some (by kernel_rfl))
  f23 := Tryz.func130.trans (congrArg some (by kernel_rfl))
  f24 := Tryz.func131.trans (congrArg some (by kernel_rfl))
  f25 := Tryz.func146.trans (congrArg some (by kernel_rfl))
  f26 := Tryz.func147.trans (congrArg some (by kernel_rfl))
  f27 := Tryz.func95.trans (congrArg some (by kernel_rfl))
  f28 := Tryz.func116.trans (congrArg some (by kernel_rfl))
  f29 := Tryz.func137.trans (congrArg some (by kernel_rfl))
  f30 := Tryz.func133.trans (congrArg some (by kernel_rfl))
  f31 := Tryz.func134.trans (congrArg some (by kernel_rfl))
  f32 := Tryz.func135.trans (congrArg some (by kernel_rfl))
  f33 := Tryz.func136.trans (congrArg some (by kernel_rfl))
  f34 := Tryz.func148.trans (congrArg some (by kernel_rfl))
  f35 := Tryz.func149.trans (congrArg some (by kernel_rfl))
  f36 := Tryz.func150.trans (congrArg some (by kernel_rfl))
  f37 := Tryz.func151.trans (congrArg some (by kernel_rfl))
  f38 := Tryz.func152.trans (congrArg some (by kernel_rfl))
  f39 := Tryz.func154.trans (congrArg some (by kernel_rfl))
  f40 := Tryz.func155.trans (congrArg some (by kernel_rfl))
  t0 := Tryz.underlying0
  a0 := Tryz.isAgg0
  z0 := Tryz.sizeOf0
  v0 := Tryz.zeroValue0
  i0 := by kernel_rfl
  t2 := Tryz.underlying2
  a2 := Tryz.isAgg2
  z2 := Tryz.sizeOf2
  v2 := Tryz.zeroValue2
  i2 := by kernel_rfl
  t3 := Tryz.underlying3
  a3 := Tryz.isAgg3
  z3 := Tryz.sizeOf3
  v3 := Tryz.zeroValue3
  i3 := by kernel_rfl
  t4 := Tryz.underlying4
  a4 := Tryz.isAgg4
  z4 := Tryz.sizeOf4
  v4 := Tryz.zeroValue4
  i4 := by kernel_rfl
  t5 := Tryz.underlying5
  a5 := Tryz.isAgg5
  z5 := Tryz.sizeOf5
  v5 := Tryz.zeroValue5
  i5 := by kernel_rfl
  t9 := Tryz.underlying9
  a9 := Tryz.isAgg9
  z9 := Tryz.sizeOf9
  v9 := Tryz.zeroValue9
  i9 := by kernel_rfl
  t20 := Tryz.underlying20
  a20 := Tryz.isAgg20
  z20 := Tryz.sizeOf20
  v20 := Tryz.zeroValue20
  i20 := by kernel_rfl
  t21 := Tryz.underlying21
  a21 := Tryz.isAgg21
  z21 := Tryz.sizeOf21
  v21 := Tryz.zeroValue21
  i21 := by kernel_rfl
  t22 := Tryz.underlying70
  a22 := Tryz.isAgg70
  z22 := Tryz.sizeOf70
  v22 := Tryz.zeroValue70
  i22 := by kernel_rfl
  t24 := Tryz.underlying114
  a24 := Tryz.isAgg114
  z24 := Tryz.sizeOf114
  v24 := Tryz.zeroValue114
  i24 := by kernel_rfl
  t25 := Tryz.underlying145
  a25 := Tryz.isAgg145
  z25 := Tryz.sizeOf145
  v25 := Tryz.zeroValue145
  i25 := by kernel_rfl
  t34 := Tryz.underlying183
  a34 := Tryz.isAgg183
  z34 := Tryz.sizeOf183
  v34 := Tryz.zeroValue183
  i34 := by kernel_rfl
  c34 := by kernel_rfl
  t36 := Tryz.underlying185
  a36 := Tryz.isAgg185
  z36 := Tryz.sizeOf185
  v36 := Tryz.zeroValue185
  i36 := by kernel_rfl
  t37 := Tryz.underlying75
  a37 := Tryz.isAgg75
  z37 := Tryz.sizeOf75
  v37 := Tryz.zeroValue75
  i37 := by kernel_rfl
  t39 := Tryz.underlying186
  a39 := Tryz.isAgg186
  z39 := Tryz.sizeOf186
  v39 := Tryz.zeroValue186
  i39 := by kernel_rfl
  t44 := Tryz.underlying210
  a44 := Tryz.isAgg210
  z44 := Tryz.sizeOf210
  v44 := Tryz.zeroValue210
  i44 := by kernel_rfl
  t47 := Tryz.underlying123
  a47 := Tryz.isAgg123
  z47 := Tryz.sizeOf123
  v47 := Tryz.zeroValue123
  i47 := by kernel_rfl
  t48 := Tryz.underlying222
  a48 := Tryz.isAgg222
  z48 := Tryz.sizeOf222
  v48 := Tryz.zeroValue222
  i48 := by kernel_rfl
  t50 := Tryz.underlying224
  a50 := Tryz.isAgg224
  z50 := Tryz.sizeOf224
  v50 := Tryz.zeroValue224
  i50 := by kernel_rfl
  t52 := Tryz.underlying189
  a52 := Tryz.isAgg189
  z52 := Tryz.sizeOf189
  v52 := Tryz.zeroValue189
  i52 := by kernel_rfl
  t55 := Tryz.underlying192
  a55 := Tryz.isAgg192
  z55 := Tryz.sizeOf192
  v55 := Tryz.zeroValue192
  i55 := by kernel_rfl
  t59 := Tryz.underlying214
  a59 := Tryz.isAgg214
  z59 := Tryz.sizeOf214
  v59 := Tryz.zeroValue214
  i59 := by kernel_rfl
  t60 := Tryz.underlying180
  a60 := Tryz.isAgg180
  z60 := Tryz.sizeOf180
  v60 := Tryz.zeroValue180
  i60 := by kernel_rfl
  t61 := Tryz.underlying215
  a61 := Tryz.isAgg215
  z61 := Tryz.sizeOf215
  t65 := Tryz.underlying226
  a65 := Tryz.isAgg226
  z65 := Tryz.sizeOf226
  v65 := Tryz.zeroValue226
  i65 := by kernel_rfl
  t66 := Tryz.underlying227
  a66 := Tryz.isAgg227
  z66 := Tryz.sizeOf227
  v66 := Tryz.zeroValue227
  i66 := by kernel_rfl
  t67 := Tryz.underlying62
  a67 := Tryz.isAgg62
  z67 := Tryz.sizeOf62
  v67 := Tryz.zeroValue62
  i67 := by kernel_rfl
  g0 := by kernel_rfl
  m0 := by kernel_rfl
  g1 := by kernel_rfl
  m1 := by kernel_rfl
  g2 := by kernel_rfl
  m2 := by kernel_rfl
  g3 := by kernel_rfl
  m3 := by kernel_rfl
  g4 := by kernel_rfl
  m4 := by kernel_rfl }
theorem errCell {W : World} {G : Ghost} (hG : GOK C W G) {g : Nat} (hg : gt g = some [.iface 222 (.fptr [])]) : ∃ V, W.cell? ⟨g, 0, none⟩ = some (.iface 222 V) := by
 have h := hG g _ hg
 cases h with
 | fptr cells b o Vs h hv =>
  have h1 := (h 0 _ rfl).2
  have h2 := hv 0 _ rfl
  rw [Nat.add_zero] at h1
  generalize Vs 0 = V at *
  cases h2
  exact ⟨_, h1⟩
theorem tup2 {F : FTab} {w : World} {G : Ghost} {a b : AV} {A B : Value} (h1 : VR F w G a A) (h2 : VR F w G b B) : VR F w G (.tup [a, b]) (.tuple #[A, B]) := by
 refine .tup _ _ rfl fun j c V hc hV => ?_
 rcases j with _ | _ | j
 · simp at hc hV; subst hc hV; exact h1
 · simp at hc hV; subst hc hV; exact h2
 · simp at hc
def valX (w : List UInt8) : Int := match Go.Lib.parseUintB 64 w with
 | .ok u => u
 | .range => 18446744073709551615
 | _ => 0
theorem num2OK (w : List UInt8) (H : AH) (Q : Post) (hw : w.length ≤ 1048576) (h1 : numX w = true → Q (.tup [.int .u64 (valX w), .nilif]) H) (h2 : numX w = false → ∀ T, Q (.tup [.int .u64 (valX w), .iface T .bot]) H) : ACall C K.strconv_ParseUint [.str w, .int .i64 10, .int .i64 64] H Q := by
 refine ⟨by
   cases hn : numX w with
   | false => exact ⟨_, _, h2 hn 0⟩
   | true => exact ⟨_, _, h1 hn⟩, fun f hf G W Vs hG hrel hargs => ?_⟩
 obtain rfl : f = 84 := by
  have : C.F K.strconv_ParseUint = some 84 := by kernel_rfl
  rw [this] at hf; exact (Option.some.inj hf).symm
 obtain ⟨hl, hv⟩ := hargs
 obtain ⟨Vl⟩ := Vs
 match Vl, hl with
 | [V0, V1, V2], _ =>
  have e0 := (hv 0 _ V0 rfl rfl).str_inv
  have e1 := (hv 1 _ V1 rfl rfl).int_inv
  have e2 := (hv 2 _ V2 rfl rfl).int_inv
  subst e0 e1 e2
  have hs : (⟨w.toArray⟩ : ByteArray).size ≤ 1048576 := by show w.toArray.size ≤ _; simpa using hw
  have hd : (⟨w.toArray⟩ : ByteArray).data.toList = w := by simp
  obtain ⟨VS, hS⟩ := errCell hG.1 (g := 2) rfl
  obtain ⟨VT, hR⟩ := errCell hG.1 (g := 3) rfl
  unfold valX numX at h1 h2
  cases hp : Go.Lib.parseUintB 64 w
  · rename_i u
    rw [hp] at h1
    refine (Any.strconv_ParseUint_10_at64_ok laysPu14 ⟨w.toArray⟩ (by omega) u (by rw [hd]; exact hp) W).mono fun e w' ⟨he, hw'⟩ => ?_
    have hbel : Below W.heap.size W w' := by
     rcases hw' with rfl | rfl
     · exact Below.refl _ _
     · exact Lib.bytesWorld_below _ _ _
    exact ⟨_, _, H, G, he, h1 rfl, tup2 (.int _ _) .nilif, rel_below hbel hrel, step_below hbel hrel⟩
  · rw [hp] at h2
    refine (Any.strconv_ParseUint_10_at64_syntax laysPu14 ⟨w.toArray⟩ (by omega) (by rw [hd]; exact hp) _ W hS (.inr ⟨_, _, rfl⟩)).mono fun e w' ⟨N, he, _, _, hbel⟩ => ?_
    exact ⟨_, _, H, G, he, h2 rfl _, tup2 (.int _ _) (.iface _ _ _ (.bot _)), rel_below hbel hrel, step_below hbel hrel⟩
  · rw [hp] at h2
    refine (Any.strconv_ParseUint_10_at64_range laysPu14 ⟨w.toArray⟩ (by omega) (by rw [hd]; exact hp) _ W hR (.inr ⟨_, _, rfl⟩)).mono fun e w' ⟨N, he, _, _, hbel⟩ => ?_
    exact ⟨_, _, H, G, he, h2 rfl _, tup2 (.int _ _) (.iface _ _ _ (.bot _)), rel_below hbel hrel, step_below hbel hrel⟩
theorem numOK : NumS (ACall C) numX := fun w H Q hw h1 h2 => num2OK w H Q hw (fun h => h1 h _) (fun h T => h2 h _ T)
theorem valOK : NumV (ACall C) valX := fun w H Q hw _ h => num2OK w H Q hw (fun _ => h _) (fun _ T => h _)
theorem idxOK : IdxS (ACall C) := by
 intro c H Q hQ
 refine indexByte sgn1 c.toNat H Q ?_
 have : ((c.toNat : Int)).toNat.toUInt8 = c := by
  rw [Int.toNat_natCast]
  apply UInt8.toNat_inj.1
  simp
 rw [this]
 exact hQ _ (indexByte_neg sgn1 c).2
end Go.Proofs.YtbkkoplgicffgaaGreatDoor.rb

set_option linter.unusedVariables false
set_option linter.unusedSimpArgs false
namespace Rb
open Go
abbrev Wd := List UInt8
def w1 (st s : List UInt8) : List UInt8 := if 4194304 < st.length then st else (st ++ s) ++ (if s = [59] ∨ s = [123] ∨ s = [125] then [10] else [32])
def runW (ws : List (List UInt8)) (st : List UInt8) : List UInt8 := ws.foldl w1 st
theorem runW_nil (st : List UInt8) : runW [] st = st := rfl
theorem runW_cons (x : List UInt8) (r : List (List UInt8)) (st : List UInt8) : runW (x :: r) st = runW r (w1 st x) := rfl
theorem runW_app (a b : List (List UInt8)) (st : List UInt8) : runW (a ++ b) st = runW b (runW a st) := List.foldl_append ..
theorem runW_full {st : List UInt8} (h : 4194304 < st.length) : ∀ ws, runW ws st = st
 | [] => rfl
 | x :: r => by rw [runW_cons, show w1 st x = st from if_pos h, runW_full h r]
def ofW (n : Int) (l : List (List UInt8)) : List UInt8 := if n < 0 ∨ (l.length : Int) ≤ n then [] else l[n.toNat]?.getD []
def ordWL : List (List UInt8) := [[114, 108, 120], [97, 99, 113], [114, 101, 108], [115, 99]]
def opWL : List (List UInt8) := [[43], [45], [42], [38], [124], [94], [60, 60], [62, 62], [61, 61], [33, 61], [60]]
def accWL : List (List UInt8) := [[108, 111, 97, 100], [97, 100, 100], [115, 119, 97, 112], [99, 97, 115]]
def stmWL : List (List UInt8) := [[108, 101, 116], [115, 101, 116], [119, 114, 105, 116, 101], [115, 116, 111, 114, 101], [108, 111, 97, 100, 50], [115, 116, 111, 114, 101, 50], [102, 101, 110, 99, 101], [105, 102], [119, 104, 105, 108, 101], [112, 114, 105, 110, 116]]
def i64w (n : Int) : Int := IntKind.wrap .i64 n
mutual
def GType.W : GType → List (List UInt8)
 | .mk kind size packed fields count elem =>
  if kind = 1 then [117 :: Go.Lib.itoa (i64w (8 * size))]
  else if kind = 2 then [97 :: Go.Lib.itoa (i64w (8 * size))]
  else if kind = 5 ∧ elem.length = 1 then [91] :: Go.Lib.itoa count :: [93] :: GType.Ws elem
  else if kind = 3 ∨ kind = 4 then ofW (i64w (kind - 3)) [[115, 116, 114, 117, 99, 116], [117, 110, 105, 111, 110]] :: ((if packed = true then [[112, 97, 99, 107, 101, 100]] else []) ++ [123] :: (GField.Ws fields ++ [[125]]))
  else []
def GType.Ws : List GType → List (List UInt8)
 | [] => []
 | x :: r => GType.W x ++ GType.Ws r
def GField.W : GField → List (List UInt8)
 | .mk name type bits width => (if name = [] then [95] else name) :: (GType.W type ++ ((if bits = true then [[58], Go.Lib.itoa width] else []) ++ [[59]]))
def GField.Ws : List GField → List (List UInt8)
 | [] => []
 | x :: r => GField.W x ++ GField.Ws r
end
def orderW (n : Int) : List UInt8 := ofW (i64w (n - 1)) ordWL
def numW (n : Int) : List UInt8 := Go.Lib.decDigits n.toNat
mutual
def GExpr.W : GExpr → List (List UInt8)
 | .mk kind n name op order place kids =>
  if kind = 1 then [numW n]
  else if kind = 2 then [name]
  else if kind = 3 then [40] :: (GExpr.Wk (ofW (i64w (op - 1)) opWL) 0 kids ++ [[41]])
  else if kind = 4 then [114, 101, 97, 100] :: GPlace.W place
  else ofW (i64w (kind - 5)) accWL :: orderW order :: (GPlace.W place ++ GExpr.Ws kids)
def GExpr.Ws : List GExpr → List (List UInt8)
 | [] => []
 | x :: r => GExpr.W x ++ GExpr.Ws r
def GExpr.Wk (o : List UInt8) : Nat → List GExpr → List (List UInt8)
 | _, [] => []
 | i, x :: r => (if i = 1 then [o] else []) ++ (GExpr.W x ++ GExpr.Wk o (i + 1) r)
def GPlace.W : GPlace → List (List UInt8)
 | .mk var parts => var :: GPart.Ws parts
def GPart.W : GPart → List (List UInt8)
 | .mk field index => if index.length = 1 then [91] :: (GExpr.Ws index ++ [[93]]) else [[46], field]
def GPart.Ws : List GPart → List (List UInt8)
 | [] => []
 | x :: r => GPart.W x ++ GPart.Ws r
end
def exprsW : Nat → List GExpr → List (List UInt8)
 | _, [] => []
 | i, x :: r => (if 0 < i then [[44]] else []) ++ (GExpr.W x ++ exprsW (i + 1) r)
def headW (kind order : Int) (name name2 : List UInt8) (place : GPlace) : List (List UInt8) :=
 if kind = 1 ∨ kind = 2 then [name, [61]]
 else if kind = 3 then GPlace.W place ++ [[61]]
 else if kind = 4 ∨ kind = 6 then orderW order :: (GPlace.W place ++ [[61]])
 else if kind = 5 then orderW order :: (GPlace.W place ++ [name, name2])
 else if kind = 7 then [orderW order]
 else []
mutual
def GStmt.W : GStmt → List (List UInt8)
 | .mk kind line name name2 order place exprs thn els =>
  ofW (i64w (kind - 1)) stmWL :: (headW kind order name name2 place ++ (exprsW 0 exprs ++
    (if kind = 8 ∨ kind = 9 then [123] :: (GStmt.Ws thn ++ [125] :: (if els.length = 0 then [] else [101, 108, 115, 101] :: [123] :: (GStmt.Ws els ++ [[125]]))) else [[59]])))
def GStmt.Ws : List GStmt → List (List UInt8)
 | [] => []
 | x :: r => GStmt.W x ++ GStmt.Ws r
end
def GVar.W (v : GVar) : List (List UInt8) := [118, 97, 114] :: v.name :: (v.type.W ++ [[59]])
def blockW (l : List GStmt) : List (List UInt8) := [123] :: (GStmt.Ws l ++ [[125]])
def thrW (l : List GStmt) : List (List UInt8) := [116, 104, 114, 101, 97, 100] :: blockW l
def GProg.W (p : GProg) : List (List UInt8) := p.vars.flatMap GVar.W ++ p.threads.flatMap thrW
def GProg.text (p : GProg) : List UInt8 := runW p.W []
mutual
def GStmt.er : GStmt → GStmt
 | .mk kind line name name2 order place exprs thn els => .mk kind 0 name name2 order place exprs (GStmt.ers thn) (GStmt.ers els)
def GStmt.ers : List GStmt → List GStmt
 | [] => []
 | x :: r => GStmt.er x :: GStmt.ers r
end
theorem GStmt.ers_len : ∀ l : List GStmt, (GStmt.ers l).length = l.length
 | [] => rfl
 | x :: r => by simp [GStmt.ers, GStmt.ers_len r]
mutual
theorem GStmt.W_er : ∀ x : GStmt, (GStmt.er x).W = x.W
 | .mk kind line name name2 order place exprs thn els => by
  simp only [GStmt.er, GStmt.W, GStmt.ers_len, GStmt.Ws_er thn, GStmt.Ws_er els]
theorem GStmt.Ws_er : ∀ l : List GStmt, GStmt.Ws (GStmt.ers l) = GStmt.Ws l
 | [] => rfl
 | x :: r => by simp only [GStmt.ers, GStmt.Ws, GStmt.W_er x, GStmt.Ws_er r]
end
def GProg.er (p : GProg) : GProg := ⟨p.vars, p.threads.map GStmt.ers⟩
theorem thrW_er (l : List GStmt) : thrW (GStmt.ers l) = thrW l := by simp only [thrW, blockW, GStmt.Ws_er]
theorem GProg.W_er (p : GProg) : p.er.W = p.W := by
 simp only [GProg.W, GProg.er, List.flatMap_map]
 congr 1
 induction p.threads with
 | nil => rfl
 | cons x r ih => simp only [List.flatMap_cons, ih, thrW_er]
theorem GProg.text_er (p : GProg) : p.er.text = p.text := by simp only [GProg.text, GProg.W_er]
def lineTo (n : Int) (l : List GStmt) : List GStmt := l.map fun x => { x with line := n }
theorem ers_lineTo (n : Int) : ∀ l : List GStmt, GStmt.ers (lineTo n l) = GStmt.ers l
 | [] => rfl
 | x :: r => by
  have := ers_lineTo n r
  cases x
  simp only [lineTo, List.map_cons, GStmt.ers, GStmt.er] at this ⊢
  rw [this]
def GProg.moved (n : Int) (p : GProg) : GProg := ⟨p.vars, p.threads.map (lineTo n)⟩
theorem GProg.er_moved (n : Int) (p : GProg) : (p.moved n).er = p.er := by
 simp only [GProg.er, GProg.moved, List.map_map]
 congr 1
 apply List.map_congr_left
 intro l _
 exact ers_lineTo n l
section
variable (pa : List UInt8 → GProg × Int × Int)
open Classical in
noncomputable def printM (p : GProg) : List UInt8 × Int := if (pa p.text).2.2 ≠ 0 ∨ p.er ≠ (pa p.text).1.er then ([], 4) else (p.text, 0)
theorem printM_er {p q : GProg} (h : p.er = q.er) : printM pa p = printM pa q := by
 have : p.text = q.text := by rw [← p.text_er, ← q.text_er, h]
 unfold printM
 rw [this, h]
theorem print_lines_law (p q : GProg) : (printM pa p).2 ≠ 0 ∨ (printM pa q).2 ≠ 0 ∨ ((printM pa p).1 = (printM pa q).1 ↔ p.er = q.er) := by
 by_cases h1 : (pa p.text).2.2 ≠ 0 ∨ p.er ≠ (pa p.text).1.er
 · left; unfold printM; rw [if_pos h1]; decide
 · by_cases h2 : (pa q.text).2.2 ≠ 0 ∨ q.er ≠ (pa q.text).1.er
   · right; left; unfold printM; rw [if_pos h2]; decide
   · right; right
     have e1 : printM pa p = (p.text, 0) := by unfold printM; rw [if_neg h1]
     have e2 : printM pa q = (q.text, 0) := by unfold printM; rw [if_neg h2]
     rw [e1, e2]
     simp only [not_or, ne_eq, Classical.not_not] at h1 h2
     constructor
     · intro h
       have h' : p.text = q.text := h
       rw [h1.2, h2.2, h']
     · intro h
       show p.text = q.text
       rw [← p.text_er, ← q.text_er, h]
end
end Rb

set_option linter.unusedVariables false
namespace Rb
open Go
namespace Ac
theorem box {cs : List AV} {n : Nat} (h : cs.length = n) (H : AH) : aboxv H false n (.agg cs) = some (.fptr cs, H) := by unfold aboxv; rw [if_pos ⟨rfl, h⟩]; rfl
theorem addr (cs : List AV) (i : Nat) : afaddr i (.fptr cs) = some (.fptr (cs.drop i)) := rfl
theorem nilck (cs : List AV) : anilck (.fptr cs) = some (.fptr cs) := rfl
theorem nilckp (i o : Nat) : anilck (.ptr i o) = some (.ptr i o) := rfl
theorem addrp (i o k : Nat) : afaddr k (.ptr i o) = some (.ptr i (o + k)) := rfl
section
variable (t : GType) (H : AH)
theorem tbox : aboxv H false 6 (.agg t.cells) = some (.fptr t.cells, H) := box t.len H
theorem t0 : aload H 1 false (.fptr (t.cells.drop 0)) = some (.int .i64 t.kind) := by rw [GType.cells_eq]; rfl
theorem t1 : aload H 1 false (.fptr (t.cells.drop 1)) = some (.int .i64 t.size) := by rw [GType.cells_eq]; rfl
theorem t2 : aload H 1 false (.fptr (t.cells.drop 2)) = some (.bool t.packed) := by rw [GType.cells_eq]; rfl
theorem t3 : aload H 1 false (.fptr (t.cells.drop 3)) = some (lstA GField.cells t.fields) := by rw [GType.cells_eq]; rfl
theorem t4 : aload H 1 false (.fptr (t.cells.drop 4)) = some (.int .i64 t.count) := by rw [GType.cells_eq]; rfl
theorem t5 : aload H 1 false (.fptr (t.cells.drop 5)) = some (lstA GType.cells t.elem) := by rw [GType.cells_eq]; rfl
theorem tall : aload H 6 true (.fptr t.cells) = some (.agg t.cells) := takeCells_whole t.len
end
section
variable (f : GField) (H : AH)
theorem fbox : aboxv H false 9 (.agg f.cells) = some (.fptr f.cells, H) := box f.len H
theorem f0 : aload H 1 false (.fptr (f.cells.drop 0)) = some (.str f.name) := by rw [GField.cells_eq]; rfl
theorem f1 : aload H 6 true (.fptr (f.cells.drop 1)) = some (.agg f.type.cells) := by rw [GField.cells_eq]; exact takeCells_app f.type.len
theorem f7 : aload H 1 false (.fptr (f.cells.drop 7)) = some (.bool f.bits) := by rw [GField.cells_eq, GType.cells_eq]; rfl
theorem f8 : aload H 1 false (.fptr (f.cells.drop 8)) = some (.int .i64 f.width) := by rw [GField.cells_eq, GType.cells_eq]; rfl
theorem fall : aload H 9 true (.fptr f.cells) = some (.agg f.cells) := takeCells_whole f.len
end
section
variable (e : GExpr) (H : AH)
theorem ebox : aboxv H false 8 (.agg e.cells) = some (.fptr e.cells, H) := box e.len H
theorem e0 : aload H 1 false (.fptr (e.cells.drop 0)) = some (.int .i64 e.kind) := by rw [GExpr.cells_eq, GPlace.cells_eq]; rfl
theorem e1 : aload H 1 false (.fptr (e.cells.drop 1)) = some (.int .u64 e.n) := by rw [GExpr.cells_eq, GPlace.cells_eq]; rfl
theorem e2 : aload H 1 false (.fptr (e.cells.drop 2)) = some (.str e.name) := by rw [GExpr.cells_eq, GPlace.cells_eq]; rfl
theorem e3 : aload H 1 false (.fptr (e.cells.drop 3)) = some (.int .i64 e.op) := by rw [GExpr.cells_eq, GPlace.cells_eq]; rfl
theorem e4 : aload H 1 false (.fptr (e.cells.drop 4)) = some (.int .i64 e.order) := by rw [GExpr.cells_eq, GPlace.cells_eq]; rfl
theorem e5 : aload H 2 true (.fptr (e.cells.drop 5)) = some (.agg e.place.cells) := by rw [GExpr.cells_eq, GPlace.cells_eq]; rfl
theorem e7 : aload H 1 false (.fptr (e.cells.drop 7)) = some (lstA GExpr.cells e.kids) := by rw [GExpr.cells_eq, GPlace.cells_eq]; rfl
theorem eall : aload H 8 true (.fptr e.cells) = some (.agg e.cells) := takeCells_whole e.len
end
section
variable (x : GPlace) (H : AH)
theorem lbox : aboxv H false 2 (.agg x.cells) = some (.fptr x.cells, H) := box x.len H
theorem l0 : aload H 1 false (.fptr (x.cells.drop 0)) = some (.str x.var) := by rw [GPlace.cells_eq]; rfl
theorem l1 : aload H 1 false (.fptr (x.cells.drop 1)) = some (lstA GPart.cells x.parts) := by rw [GPlace.cells_eq]; rfl
theorem lall : aload H 2 true (.fptr x.cells) = some (.agg x.cells) := takeCells_whole x.len
end
section
variable (x : GPart) (H : AH)
theorem pbox : aboxv H false 2 (.agg x.cells) = some (.fptr x.cells, H) := box x.len H
theorem p0 : aload H 1 false (.fptr (x.cells.drop 0)) = some (.str x.field) := by rw [GPart.cells_eq]; rfl
theorem p1 : aload H 1 false (.fptr (x.cells.drop 1)) = some (lstA GExpr.cells x.index) := by rw [GPart.cells_eq]; rfl
theorem pall : aload H 2 true (.fptr x.cells) = some (.agg x.cells) := takeCells_whole x.len
end
section
variable (e : GStmt) (H : AH)
theorem sbox : aboxv H false 10 (.agg e.cells) = some (.fptr e.cells, H) := box e.len H
theorem s0 : aload H 1 false (.fptr (e.cells.drop 0)) = some (.int .i64 e.kind) := by rw [GStmt.cells_eq, GPlace.cells_eq]; rfl
theorem s1 : aload H 1 false (.fptr (e.cells.drop 1)) = some (.int .i64 e.line) := by rw [GStmt.cells_eq, GPlace.cells_eq]; rfl
theorem s2 : aload H 1 false (.fptr (e.cells.drop 2)) = some (.str e.name) := by rw [GStmt.cells_eq, GPlace.cells_eq]; rfl
theorem s3 : aload H 1 false (.fptr (e.cells.drop 3)) = some (.str e.name2) := by rw [GStmt.cells_eq, GPlace.cells_eq]; rfl
theorem s4 : aload H 1 false (.fptr (e.cells.drop 4)) = some (.int .i64 e.order) := by rw [GStmt.cells_eq, GPlace.cells_eq]; rfl
theorem s5 : aload H 2 true (.fptr (e.cells.drop 5)) = some (.agg e.place.cells) := by rw [GStmt.cells_eq, GPlace.cells_eq]; rfl
theorem s7 : aload H 1 false (.fptr (e.cells.drop 7)) = some (lstA GExpr.cells e.exprs) := by rw [GStmt.cells_eq, GPlace.cells_eq]; rfl
theorem s8 : aload H 1 false (.fptr (e.cells.drop 8)) = some (lstA GStmt.cells e.thn) := by rw [GStmt.cells_eq, GPlace.cells_eq]; rfl
theorem s9 : aload H 1 false (.fptr (e.cells.drop 9)) = some (lstA GStmt.cells e.els) := by rw [GStmt.cells_eq, GPlace.cells_eq]; rfl
theorem sall : aload H 10 true (.fptr e.cells) = some (.agg e.cells) := takeCells_whole e.len
end
section
variable (v : GVar) (H : AH)
theorem vbox : aboxv H false 7 (.agg v.cells) = some (.fptr v.cells, H) := box v.len H
theorem v0 : aload H 1 false (.fptr (v.cells.drop 0)) = some (.str v.name) := rfl
theorem v1 : aload H 6 true (.fptr (v.cells.drop 1)) = some (.agg v.type.cells) := takeCells_whole v.type.len
theorem vall : aload H 7 true (.fptr v.cells) = some (.agg v.cells) := takeCells_whole v.len
end
section
variable (p : GProg) (H : AH)
theorem gbox : aboxv H false 2 (.agg p.cells) = some (.fptr p.cells, H) := box rfl H
theorem g0 : aload H 1 false (.fptr (p.cells.drop 0)) = some (lstA GVar.cells p.vars) := rfl
theorem g1 : aload H 1 false (.fptr (p.cells.drop 1)) = some (lstA thrCells p.threads) := rfl
theorem gall : aload H 2 true (.fptr p.cells) = some (.agg p.cells) := rfl
end
theorem thr (H : AH) {ts : List (List GStmt)} {i : Nat} {t : List GStmt} (hi : ts[i]? = some t) : aload H 1 false (elA thrCells 1 ts i) = some (lstA GStmt.cells t) := by
 have h := elA_load (cells := thrCells) (sz := 1) (fun _ => rfl) (by decide) H hi
 have e : ∀ cs : List AV, ∀ a, takeCells cs 0 1 true = some (.agg [a]) → takeCells cs 0 1 false = some a := by
  intro cs a h
  unfold takeCells at h ⊢
  split at h
  · rename_i h1
    rw [if_pos h1]
    cases cs with
    | nil => simp at h1
    | cons c r => simp at h ⊢; exact h
  · cases h
 exact e _ _ h
theorem rowl {H : AH} {id : Nat} {cs : List AV} (h : H.o id = .row cs) (n o : Nat) (agg : Bool) : aload H n agg (.ptr id o) = takeCells cs o n agg := by simp only [aload, h]
theorem rowf {H : AH} {id : Nat} {cs : List AV} (h : H.o id = .row cs) {o : Nat} (ho : o ≤ cs.length) (n : Nat) (agg : Bool) : aload H n agg (.ptr id o) = aload H n agg (.fptr (cs.drop o)) := by
 rw [rowl h, takeCells_drop ho]; rfl
end Ac
end Rb

set_option linter.unusedVariables false
set_option linter.unusedSimpArgs false
set_option linter.unusedSectionVars false
namespace Rb
open Go
structure BKit (Φ : Calls') (T U : TypeId) : Prop where
 write : ∀ {H : AH} {id : Nat} {bs : List UInt8} {Q : Post}, BldAt T U H id bs → ∀ s : List UInt8, s.length ≤ 140737488351232 → (bs.length ≤ 8796093022208 ∨ s.length ≤ 8796093022208 ∧ bs.length ≤ 149533581377536) →
  (∀ H', BldAt T U H' id (bs ++ s) → KeepB H id H' → Q (.tup [.int .i64 s.length, .nilif]) H') → Φ K.strings_Builder_WriteString [.ptr id 0, .str s] H Q
 len : ∀ {H : AH} {id : Nat} {bs : List UInt8} {Q : Post}, BldAt T U H id bs → Q (.int .i64 bs.length) H → Φ K.strings_Builder_Len [.ptr id 0] H Q
 text : ∀ {H : AH} {id : Nat} {bs : List UInt8} {Q : Post}, BldAt T U H id bs → (∀ H', BldAt T U H' id bs → KeepB H id H' → Q (.str bs) H') → Φ K.strings_Builder_String [.ptr id 0] H Q
 itoa : ∀ (n : Int) (H : AH) (Q : Post), -9223372036854775808 ≤ n → n ≤ 9223372036854775807 → Q (.str (Go.Lib.itoa n)) H → Φ K.strconv_Itoa [.int .i64 n] H Q
 fmt : ∀ (n : Nat) (H : AH) (Q : Post), n ≤ 18446744073709551615 → Q (.str (Go.Lib.decDigits n)) H → Φ K.internal_strconv_FormatUint [.int .u64 n, .int .i64 10] H Q
theorem BldAt.push {T U : TypeId} {H : AH} {id : Nat} {bs : List UInt8} (h : BldAt T U H id bs) (x : AObj) : BldAt T U (H.push x) id bs := by
 obtain ⟨h1, h2⟩ := h
 have e : ∀ i, i < H.n → (H.push x).o i = H.o i := fun i hi => by show (if i = H.n then x else H.o i) = _; rw [if_neg (by omega)]
 refine ⟨Nat.lt_succ_of_lt h1, ?_⟩
 rcases h2 with ⟨u, h3, h4⟩ | ⟨j, h3, h4, h5, h6⟩
 · exact .inl ⟨u, by rw [e _ h1]; exact h3, h4⟩
 · exact .inr ⟨j, by rw [e _ h1]; exact h3, by rw [e _ h5]; exact h4, Nat.lt_succ_of_lt h5, h6⟩
theorem KeepB.push (H : AH) (id : Nat) (x : AObj) : KeepB H id (H.push x) :=
 ⟨Nat.le_succ _, fun i hi _ _ => by show (if i = H.n then x else H.o i) = _; rw [if_neg (by omega)]⟩
theorem KeepB.row {H H' : AH} {id i : Nat} {cs : List AV} (k : KeepB H id H') (hi : i < H.n) (hne : i ≠ id) (h : H.o i = .row cs) : H'.o i = .row cs := by
 rw [k.2 i hi hne (by rw [h]; intro U bs e; cases e)]; exact h
def Puts (Φ : Calls') (T U : TypeId) (id : Nat) (key : Nat) (args : List AV) (ws : List Wd) : Prop :=
 ∀ {H : AH} {st : List UInt8} {Q : Post}, BldAt T U H id st → (∀ H', BldAt T U H' id (runW ws st) → KeepB H id H' → Q (.tup []) H') → Φ key args H Q
theorem bool_ite8 {b : Bool} {A B : Prop} (h1 : b = true → A) (h2 : b = false → B) : if b = true then A else B := ite_both h1 fun h => h2 (by simpa using h)
theorem bool_itef8 {b : Bool} {A B : Prop} (h1 : b = false → A) (h2 : b = true → B) : if b = false then A else B := ite_both h1 fun h => h2 (by simpa using h)
def w47 : Nat := 140737488351232
def Wds (ws : List Wd) : Prop := ∀ w ∈ ws, w.length ≤ w47
theorem strs_at (H : AH) {tk : Tok} {xs : List Wd} {i : Nat} {y : Wd} (h : xs[i]? = some y) : ∃ a, aiaddr none 1 (.lst tk xs.length (xs.map .str)) (.int .i64 i) = some a ∧ aload H 1 false a = some (.str y) := by
 have hlt := (List.getElem?_eq_some_iff.1 h).1
 refine ⟨.fptr ((xs.map .str).drop (i * 1)), ?_, ?_⟩
 · simp only [aiaddr]
   rw [if_pos ⟨by omega, by omega⟩]; rfl
 · show takeCells _ 0 1 false = _
   unfold takeCells
   rw [if_pos (by simp; omega)]
   simp [h]
section
variable {Φ : Calls'} {T U : TypeId} {H : AH} {id : Nat} {st : List UInt8} {Q : Post}
theorem words_puts (hT : Cl Φ S.tab_Lex) (hB : BKit Φ T U) {tk : Tok} {ws : List Wd} (hw : Wds ws) (hn : ws.length ≤ 1000000) : Puts Φ T U id K.print_writer_words [.ptr id 0, .lst tk ws.length (ws.map .str)] ws := by
 intro H st Q hb hQ
 refine S.cl_print_writer_words hT ?_
 unfold S.print_writer_words
 rw [show alen false (.lst tk ws.length (ws.map .str)) = some (.int .i64 ws.length) from rfl]
 simp only [Do_of]
 have main : ∀ (ys : List Wd) (i : Nat) (H1 : AH) (s1 : List UInt8), ws.drop i = ys → BldAt T U H1 id s1 → KeepB H id H1 → runW ys s1 = runW ws st →
   LoopP (S.print_writer_words_l4 Φ (.ptr id 0) (.lst tk ws.length (ws.map .str)) (.int .i64 ws.length) Q) ([.int .i64 i], H1) := by
  intro ys
  induction ys with
  | nil =>
   intro i H1 s1 hi hb1 hk hr
   have hle := drop_nil_le hi
   refine LoopP.step ?_
   simp only [S.print_writer_words_l4, sl_zero, abin_lss, Do_of, Gd_true]
   rw [if_neg (by simp only [decide_eq_true_eq]; omega)]
   rw [runW_nil] at hr
   exact hQ H1 (hr ▸ hb1) hk
  | cons y ys ih =>
   intro i H1 s1 hi hb1 hk hr
   obtain ⟨hlt, hy, hd⟩ := drop_cons_lt hi
   obtain ⟨a, ha1, ha2⟩ := strs_at (tk := tk) H1 hy
   refine LoopP.step ?_
   simp only [S.print_writer_words_l4, sl_zero, abin_lss, Do_of, Gd_true]
   rw [if_pos (by simp only [decide_eq_true_eq]; omega), ha1]
   simp only [Do_of]
   rw [ha2]
   simp only [Do_of, Ac.nilckp, Ac.addrp]
   refine hB.len hb1 ?_
   simp only [abin_gtr, Do_of, Gd_true]
   refine bool_ite8 (fun hf => ?_) (fun hf => ?_)
   · refine hQ H1 ?_ hk
     rw [← hr, runW_full (by simp only [decide_eq_true_eq] at hf; omega)]
     exact hb1
   · have hle : s1.length ≤ 4194304 := by simp only [decide_eq_false_iff_not] at hf; omega
     have hyl : y.length ≤ 140737488351232 := hw y (List.mem_of_getElem? hy)
     refine hB.write hb1 y hyl (.inl (by omega)) fun H2 hb2 hk2 => ?_
     have hl2 : (s1 ++ y).length ≤ 149533581377536 := by rw [List.length_append]; omega
     have next : ∀ (H3 : AH), BldAt T U H3 id (w1 s1 y) → KeepB H id H3 → JoinP (S.print_writer_words_k1 Φ ([.int .i64 i], H1) (LoopP (S.print_writer_words_l4 Φ (.ptr id 0) (.lst tk ws.length (ws.map .str)) (.int .i64 ws.length) Q)) Q) [] H3 := by
      intro H3 hb3 hk3
      simp only [JoinP_def, S.print_writer_words_k1, sl_zero, abin_add, Do_of]
      rw [wrap_i64 (by omega) (by omega), show ((i : Int) + 1) = ((i + 1 : Nat) : Int) by simp]
      exact ih (i + 1) H3 (w1 s1 y) hd hb3 hk3 (by rw [← hr, runW_cons])
     have fin : ∀ b : Bool, b = (y == [59] || y == [123] || y == [125]) → JoinP (S.print_writer_words_k2 Φ (.ptr id 0) ([.int .i64 i], H1) (LoopP (S.print_writer_words_l4 Φ (.ptr id 0) (.lst tk ws.length (ws.map .str)) (.int .i64 ws.length) Q)) Q) [.bool b] H2 := by
      intro b he
      have hw1 : w1 s1 y = (s1 ++ y) ++ (if b = true then [10] else [32]) := by
       unfold w1
       rw [if_neg (by omega), he]
       congr 1
       by_cases h : y = [59] ∨ y = [123] ∨ y = [125]
       · rw [if_pos h, if_pos (by rcases h with rfl | rfl | rfl <;> decide)]
       · rw [if_neg h, if_neg (by simp only [Bool.or_eq_true, beq_iff_eq]; intro e; exact h (by rcases e with (e | e) | e; exact .inl e; exact .inr (.inl e); exact .inr (.inr e)))]
      simp only [JoinP_def, S.print_writer_words_k2, sl_zero, Gd_true, Ac.nilckp, Ac.addrp, Do_of]
      refine bool_ite8 (fun hb' => ?_) (fun hb' => ?_)
      · refine hB.write hb2 [10] (by decide) (.inr ⟨by decide, hl2⟩) fun H3 hb3 hk3 => ?_
        refine next H3 ?_ (hk.trans (hk2.trans hk3))
        rw [hw1, if_pos hb']; exact hb3
      · refine hB.write hb2 [32] (by decide) (.inr ⟨by decide, hl2⟩) fun H3 hb3 hk3 => ?_
        refine next H3 ?_ (hk.trans (hk2.trans hk3))
        rw [hw1, if_neg (by rw [hb']; decide)]; exact hb3
     have k3 : ∀ b : Bool, b = (y == [59] || y == [123]) → JoinP (S.print_writer_words_k3 Φ (.ptr id 0) (.str y) ([.int .i64 i], H1) (LoopP (S.print_writer_words_l4 Φ (.ptr id 0) (.lst tk ws.length (ws.map .str)) (.int .i64 ws.length) Q)) Q) [.bool b] H2 := by
      intro b he
      simp only [JoinP_def, S.print_writer_words_k3, sl_zero, Gd3_false]
      refine bool_itef8 (fun hb' => ?_) (fun hb' => ?_)
      · rw [show abin .eql (.str y) (.str [125]) = some (.bool (y == [125])) from rfl]
        simp only [Do_of]
        exact fin _ (by rw [← he, hb']; simp)
      · exact fin _ (by rw [← he, hb']; simp)
     rw [show abin .eql (.str y) (.str [59]) = some (.bool (y == [59])) from rfl]
     simp only [Do_of, Gd3_false]
     refine bool_itef8 (fun hb' => ?_) (fun hb' => ?_)
     · rw [show abin .eql (.str y) (.str [123]) = some (.bool (y == [123])) from rfl]
       simp only [Do_of]
       exact k3 _ (by rw [hb']; simp)
     · exact k3 _ (by rw [hb']; simp)
 exact main ws 0 H st rfl hb (KeepB.refl _ _) rfl
theorem full_ok (hT : Cl Φ S.tab_Lex) (hB : BKit Φ T U) (hb : BldAt T U H id st) (hQ : Q (.bool (decide (4194304 < st.length))) H) : Φ K.print_writer_full [.ptr id 0] H Q := by
 refine S.cl_print_writer_full hT ?_
 unfold S.print_writer_full
 simp only [Do_of, Ac.nilckp, Ac.addrp]
 refine hB.len hb ?_
 simp only [abin_gtr, Do_of]
 have : decide ((st.length : Int) > 4194304) = decide (4194304 < st.length) := by rw [Bool.eq_iff_iff]; simp only [decide_eq_true_eq]; omega
 rw [this]; exact hQ
theorem of_ok (hT : Cl Φ S.tab_Lex) {tk : Tok} {ws : List Wd} {n : Int} (hQ : Q (.str (ofW n ws)) H) : Φ K.print_of [.int .i64 n, .lst tk ws.length (ws.map .str)] H Q := by
 refine S.cl_print_of hT ?_
 unfold S.print_of
 unfold ofW at hQ
 rw [show alen false (.lst tk ws.length (ws.map .str)) = some (.int .i64 ws.length) from rfl]
 simp only [abin_lss, abin_geq, Do_of, Gd3_false]
 have fin : ∀ b : Bool, (b = true ↔ n < 0 ∨ (ws.length : Int) ≤ n) → JoinP (S.print_of_k2 Φ (.int .i64 n) (.lst tk ws.length (ws.map .str)) Q) [.bool b] H := by
  intro b hb
  simp only [JoinP_def, S.print_of_k2, S.print_of_k1, sl_zero, Gd_true]
  refine bool_ite8 (fun h => ?_) (fun h => ?_)
  · rw [if_pos (hb.1 h)] at hQ; exact hQ
  · have hn : ¬ (n < 0 ∨ (ws.length : Int) ≤ n) := fun e => by rw [hb.2 e] at h; cases h
    rw [if_neg hn] at hQ
    simp only [not_or, Int.not_lt, Int.not_le] at hn
    obtain ⟨k, rfl⟩ := Int.eq_ofNat_of_zero_le hn.1
    have hk : k < ws.length := by omega
    obtain ⟨a, ha1, ha2⟩ := strs_at (tk := tk) H (List.getElem?_eq_getElem hk)
    rw [ha1]
    simp only [Do_of]
    rw [ha2]
    simp only [Do_of]
    simpa [List.getElem?_eq_getElem hk] using hQ
 refine bool_itef8 (fun h => ?_) (fun h => ?_)
 · simp only [decide_eq_false_iff_not] at h
   exact fin _ (by simp only [decide_eq_true_eq]; omega)
 · simp only [decide_eq_true_eq] at h
   exact fin _ (by simp [h])
theorem number_ok (hT : Cl Φ S.tab_Lex) (hB : BKit Φ T U) {n : Int} (h : i64ok n) (hQ : Q (.str (Go.Lib.itoa n)) H) : Φ K.print_number [.int .i64 n] H Q := by
 refine S.cl_print_number hT ?_
 unfold S.print_number
 exact hB.itoa n H Q h.1 h.2 hQ
theorem lit1 (H : AH) (a : List UInt8) : abslice H false 1 1 [.str []] [(0, 1, .str a)] = some (.lst .full [a].length ([a].map .str), H) := rfl
theorem lit2 (H : AH) (a b : List UInt8) : abslice H false 1 2 [.str []] [(0, 1, .str a), (1, 1, .str b)] = some (.lst .full [a, b].length ([a, b].map .str), H) := rfl
theorem lit3 (H : AH) (a b c : List UInt8) : abslice H false 1 3 [.str []] [(0, 1, .str a), (1, 1, .str b), (2, 1, .str c)] = some (.lst .full [a, b, c].length ([a, b, c].map .str), H) := rfl
def EachL (sz : Nat) (zs : List AV) (Φ : Calls') (a0 : AV) (a1 : AV) (x1 : AV) (Q : Post) : (List AV × AH) → ((List AV × AH) → Prop) → Prop := fun s2 L3 =>
 Do (abin .lss (sl s2.1 0) x1) fun x4 =>
 Gd x4 true (
 Do (aiaddr none sz a0 (sl s2.1 0)) fun x5 =>
 Do (aload s2.2 sz true x5) fun x6 =>
 DoH (some (abox s2.2 true zs)) fun x7 H8 =>
 Do (astore H8 sz x7 x6) fun H9 =>
 Do (aload H9 sz true x7) fun x10 =>
 ∃ k13 c14, a1 = .fn k13 c14 ∧ Φ (fkey k13) (fargs k13 [x10] c14) H9 fun x11 H12 =>
 Do (abin .add (sl s2.1 0) (.int .i64 1)) fun x15 =>
 L3 ([x15], H12)) (
 Q (.tup []) s2.2)
def Each (sz : Nat) (zs : List AV) (Φ : Calls') (a0 : AV) (a1 : AV) (H : AH) (Q : Post) : Prop :=
 Do (alen false a0) fun x1 =>
 LoopP (EachL sz zs Φ a0 a1 x1 Q) ([(.int .i64 0)], H)
theorem Each_ok {α : Type} {cells : α → List AV} {sz : Nat} {zs : List AV} (hc : ∀ x, (cells x).length = sz) (hs : ∀ x, (cells x).all AV.scalar = true) (hz : 0 < sz) (hzl : zs.length = sz) {W : α → List Wd} {key : Nat} {caps : List AV} {xs : List α}
  (hf : ∀ x ∈ xs, Puts Φ T U id (fkey key) (fargs key [.agg (cells x)] caps) (W x)) (hl : xs.length ≤ 9223372036854775807) (hb : BldAt T U H id st) (hQ : ∀ H', BldAt T U H' id (runW (xs.flatMap W) st) → KeepB H id H' → Q (.tup []) H') :
  Each sz zs Φ (lstA cells xs) (.fn key caps) H Q := by
 unfold Each
 rw [lstA_len']
 simp only [Do_of]
 have main : ∀ (ys : List α) (i : Nat) (H1 : AH) (s1 : List UInt8), xs.drop i = ys → BldAt T U H1 id s1 → KeepB H id H1 → runW (ys.flatMap W) s1 = runW (xs.flatMap W) st →
   LoopP (EachL sz zs Φ (lstA cells xs) (.fn key caps) (.int .i64 xs.length) Q) ([.int .i64 i], H1) := by
  intro ys
  induction ys with
  | nil =>
   intro i H1 s1 hi hb1 hk hr
   have hle := drop_nil_le hi
   refine LoopP.step ?_
   simp only [EachL, sl_zero, abin_lss, Do_of, Gd_true]
   rw [if_neg (by simp only [decide_eq_true_eq]; omega)]
   refine hQ H1 ?_ hk
   rw [← hr]; exact hb1
  | cons y ys ih =>
   intro i H1 s1 hi hb1 hk hr
   obtain ⟨hlt, hy, hd⟩ := drop_cons_lt hi
   refine LoopP.step ?_
   simp only [EachL, sl_zero, abin_lss, Do_of, Gd_true]
   rw [if_pos (by simp only [decide_eq_true_eq]; omega), lstA_addr hlt]
   simp only [Do_of]
   rw [elA_load hc hz H1 hy]
   simp only [Do_of, DoH_some, abox, if_true]
   rw [store_new H1 zs (cells y) sz (hc y) (hs y) hzl]
   simp only [Do_of, load_push]
   rw [takeCells_whole (hc y)]
   simp only [Do_of]
   refine ⟨key, caps, rfl, hf y (List.mem_of_getElem? hy) (hb1.push _) fun H2 hb2 hk2 => ?_⟩
   simp only [abin_add, Do_of]
   rw [wrap_i64 (by omega) (by omega), show ((i : Int) + 1) = ((i + 1 : Nat) : Int) by simp]
   refine ih (i + 1) H2 _ hd hb2 (hk.trans ((KeepB.push _ _ _).trans hk2)) ?_
   rw [← hr, List.flatMap_cons, runW_app]
 exact main xs 0 H st rfl hb (KeepB.refl _ _) rfl
end
end Rb

set_option linter.unusedVariables false
set_option linter.unusedSimpArgs false
set_option linter.unusedSectionVars false
namespace Rb
open Go
mutual
def GType.pok : GType → Prop
 | .mk _ _ _ fields count elem => i64ok count ∧ fields.length ≤ maxLen ∧ GField.poks fields ∧ GType.poks elem
def GType.poks : List GType → Prop
 | [] => True
 | x :: r => GType.pok x ∧ GType.poks r
def GField.pok : GField → Prop
 | .mk name type _ width => name.length ≤ 140737488351232 ∧ GType.pok type ∧ i64ok width
def GField.poks : List GField → Prop
 | [] => True
 | x :: r => GField.pok x ∧ GField.poks r
end
theorem GType.poks_iff : ∀ {xs : List GType}, GType.poks xs ↔ ∀ x ∈ xs, x.pok
 | [] => by simp [GType.poks]
 | x :: r => by simp [GType.poks, GType.poks_iff (xs := r)]
theorem GField.poks_iff : ∀ {xs : List GField}, GField.poks xs ↔ ∀ x ∈ xs, x.pok
 | [] => by simp [GField.poks]
 | x :: r => by simp [GField.poks, GField.poks_iff (xs := r)]
mutual
theorem GType.ok_pok : ∀ x : GType, x.ok → x.pok
 | .mk kind size packed fields count elem, h => by
  rw [GType.ok] at h
  rw [GType.pok]
  exact ⟨h.2.2.2.2.1, h.2.2.1, GField.oks_poks _ h.2.2.2.1, GType.oks_poks _ h.2.2.2.2.2.2⟩
theorem GType.oks_poks : ∀ xs : List GType, GType.oks xs → GType.poks xs
 | [], _ => trivial
 | x :: r, h => ⟨GType.ok_pok x h.1, GType.oks_poks r h.2⟩
theorem GField.ok_pok : ∀ x : GField, x.ok → x.pok
 | .mk name type bits width, h => by
  rw [GField.ok] at h
  rw [GField.pok]
  exact ⟨h.1, GType.ok_pok _ h.2.1, h.2.2⟩
theorem GField.oks_poks : ∀ xs : List GField, GField.oks xs → GField.poks xs
 | [], _ => trivial
 | x :: r, h => ⟨GField.ok_pok x h.1, GField.oks_poks r h.2⟩
end
theorem GType.Ws_map : ∀ xs : List GType, GType.Ws xs = xs.flatMap GType.W
 | [] => rfl
 | x :: r => by rw [GType.Ws, GType.Ws_map r]; rfl
theorem GField.Ws_map : ∀ xs : List GField, GField.Ws xs = xs.flatMap GField.W
 | [] => rfl
 | x :: r => by rw [GField.Ws, GField.Ws_map r]; rfl
theorem GType.W_def (t : GType) : t.W = if t.kind = 1 then [117 :: Go.Lib.itoa (i64w (8 * t.size))]
  else if t.kind = 2 then [97 :: Go.Lib.itoa (i64w (8 * t.size))]
  else if t.kind = 5 ∧ t.elem.length = 1 then [91] :: Go.Lib.itoa t.count :: [93] :: t.elem.flatMap GType.W
  else if t.kind = 3 ∨ t.kind = 4 then ofW (i64w (t.kind - 3)) [[115, 116, 114, 117, 99, 116], [117, 110, 105, 111, 110]] :: ((if t.packed = true then [[112, 97, 99, 107, 101, 100]] else []) ++ [123] :: (t.fields.flatMap GField.W ++ [[125]]))
  else [] := by
 cases t
 rw [GType.W, GType.Ws_map, GField.Ws_map]
theorem GField.W_def (f : GField) : f.W = (if f.name = [] then [95] else f.name) :: (f.type.W ++ ((if f.bits = true then [[58], Go.Lib.itoa f.width] else []) ++ [[59]])) := by
 cases f
 rw [GField.W]
theorem i64w_ok (n : Int) : i64ok (i64w n) := by
 unfold i64w i64ok
 constructor <;> (simp [IntKind.wrap, IntKind.signed, IntKind.bits]; omega)
theorem decD_len : ∀ (n u : Nat), u < 10 ^ n → 1 ≤ n → (Go.Lib.decDigits u).length ≤ n
 | 0, u, _, h => absurd h (by omega)
 | n + 1, u, hu, _ => by
  rw [Go.Lib.decDigits]
  by_cases h : u < 10
  · rw [dif_pos h]; simp
  · rw [dif_neg h]
    have hn : 1 ≤ n := by
     rcases n with _ | n
     · simp at hu; omega
     · omega
    have := decD_len n (u / 10) (by rw [Nat.pow_succ] at hu; omega) hn
    simp; omega
theorem itoa_len {n : Int} (h : i64ok n) : (Go.Lib.itoa n).length ≤ 21 := by
 unfold Go.Lib.itoa
 unfold i64ok at h
 split
 · have := decD_len 20 n.natAbs (by omega) (by decide)
   simp only [List.length_cons]
   omega
 · have := decD_len 20 n.toNat (by omega) (by decide)
   omega
theorem decD_u64 {n : Nat} (h : n ≤ 18446744073709551615) : (Go.Lib.decDigits n).length ≤ 20 := decD_len 20 n (by omega) (by decide)
theorem ofW_wd {n : Int} {l : List Wd} (h : ∀ w ∈ l, w.length ≤ 100) : (ofW n l).length ≤ w47 := by
 unfold ofW w47
 split
 · simp
 · cases hx : l[n.toNat]? with
   | none => simp
   | some w => have := h w (List.mem_of_getElem? hx); simp; omega
theorem wds1 {a : Wd} (ha : a.length ≤ w47) : Wds [a] := by intro w h; simp at h; subst h; exact ha
theorem wds2 {a b : Wd} (ha : a.length ≤ w47) (hb : b.length ≤ w47) : Wds [a, b] := by intro w h; simp at h; rcases h with rfl | rfl; exact ha; exact hb
theorem wds3 {a b c : Wd} (ha : a.length ≤ w47) (hb : b.length ≤ w47) (hc : c.length ≤ w47) : Wds [a, b, c] := by intro w h; simp at h; rcases h with rfl | rfl | rfl; exact ha; exact hb; exact hc
section
variable {Φ : Calls'} {T U : TypeId} {id : Nat}
theorem put1 (hT : Cl Φ S.tab_Lex) (hB : BKit Φ T U) {H : AH} {st : List UInt8} {Q : Post} {a : Wd} (hb : BldAt T U H id st) (ha : a.length ≤ w47) (hQ : ∀ H', BldAt T U H' id (runW [a] st) → KeepB H id H' → Q (.tup []) H') :
  DoH (abslice H false 1 1 [.str []] [(0, 1, .str a)]) fun x H' => Φ K.print_writer_words [.ptr id 0, x] H' Q := by
 rw [lit1]
 simp only [DoH_some]
 exact words_puts hT hB (wds1 ha) (by simp) hb hQ
theorem put2 (hT : Cl Φ S.tab_Lex) (hB : BKit Φ T U) {H : AH} {st : List UInt8} {Q : Post} {a b : Wd} (hb : BldAt T U H id st) (ha : a.length ≤ w47) (hb' : b.length ≤ w47) (hQ : ∀ H', BldAt T U H' id (runW [a, b] st) → KeepB H id H' → Q (.tup []) H') :
  DoH (abslice H false 1 2 [.str []] [(0, 1, .str a), (1, 1, .str b)]) fun x H' => Φ K.print_writer_words [.ptr id 0, x] H' Q := by
 rw [lit2]
 simp only [DoH_some]
 exact words_puts hT hB (wds2 ha hb') (by simp) hb hQ
theorem put3 (hT : Cl Φ S.tab_Lex) (hB : BKit Φ T U) {H : AH} {st : List UInt8} {Q : Post} {a b c : Wd} (hb : BldAt T U H id st) (ha : a.length ≤ w47) (hb' : b.length ≤ w47) (hc : c.length ≤ w47) (hQ : ∀ H', BldAt T U H' id (runW [a, b, c] st) → KeepB H id H' → Q (.tup []) H') :
  DoH (abslice H false 1 3 [.str []] [(0, 1, .str a), (1, 1, .str b), (2, 1, .str c)]) fun x H' => Φ K.print_writer_words [.ptr id 0, x] H' Q := by
 rw [lit3]
 simp only [DoH_some]
 exact words_puts hT hB (wds3 ha hb' hc) (by simp) hb hQ
theorem lstA_addr0 {α : Type} {cells : α → List AV} {sz : Nat} {xs : List α} (h : 0 < xs.length) : aiaddr none sz (lstA cells xs) (.int .i64 0) = some (elA cells sz xs 0) := lstA_addr h
theorem each_field (Φ : Calls') (a0 a1 : AV) (H : AH) (Q : Post) : S.print_each_api_Field_ Φ a0 a1 H Q = Each 9 [.str [], .int .i64 0, .int .i64 0, .bool false, .lst .nil 0 [], .int .i64 0, .lst .nil 0 [], .bool false, .int .i64 0] Φ a0 a1 H Q := rfl
theorem addc (c : UInt8) {l : Wd} (h : l.length ≤ 100) : abin .add (.str [c]) (.str l) = some (.str (c :: l)) := by
 show (if [c].length + l.length ≤ 9223372036854775807 then some (AV.str ([c] ++ l)) else none) = _
 rw [if_pos (by simp; omega)]; rfl
theorem typ_puts (hT : Cl Φ S.tab_Lex) (hB : BKit Φ T U) {t : GType} (hp : t.pok) (hf : ∀ f ∈ t.fields, Puts Φ T U id K.print_writer_field [.ptr id 0, .agg f.cells] f.W)
  (he : ∀ e ∈ t.elem, Puts Φ T U id K.print_writer_typ [.ptr id 0, .agg e.cells] e.W) : Puts Φ T U id K.print_writer_typ [.ptr id 0, .agg t.cells] t.W := by
 intro H st Q hb hQ
 have hcount : i64ok t.count := by cases t; rw [GType.pok] at hp; exact hp.1
 have hfl : t.fields.length ≤ maxLen := by cases t; rw [GType.pok] at hp; exact hp.2.1
 have hx8 : ∀ c : UInt8, (c :: Go.Lib.itoa (i64w (8 * t.size))).length ≤ w47 := fun c => by
  have := itoa_len (i64w_ok (8 * t.size))
  unfold w47
  simp only [List.length_cons]
  omega
 have hcl : (Go.Lib.itoa t.count).length ≤ w47 := by have := itoa_len hcount; unfold w47; omega
 refine S.cl_print_writer_typ hT ?_
 unfold S.print_writer_typ
 simp only [Ac.tbox, DoH_some]
 refine full_ok hT hB hb ?_
 simp only [Gd_true]
 refine bool_ite8 (fun h => ?_) (fun h => ?_)
 · have : runW t.W st = st := runW_full (by simpa using h) _
   exact hQ H (by rw [this]; exact hb) (KeepB.refl _ _)
 rw [GType.W_def] at hQ
 simp only [Ac.addr, Ac.t0, Ac.t1, Ac.t4, Ac.t5, Do_of, abin_eql, abin_mul, Gd_true, Gd3_true]
 refine bool_ite8 (fun h1 => ?_) (fun h1 => ?_)
 · have hk : t.kind = 1 := by simpa using h1
   rw [if_pos hk] at hQ
   refine number_ok hT hB (i64w_ok _) ?_
   rw [addc 117 (by have := itoa_len (i64w_ok (8 * t.size)); unfold i64w at this; omega)]
   simp only [Do_of]
   exact put1 hT hB hb (hx8 _) hQ
 have hk1 : t.kind ≠ 1 := by simpa using h1
 rw [if_neg hk1] at hQ
 refine bool_ite8 (fun h2 => ?_) (fun h2 => ?_)
 · have hk : t.kind = 2 := by simpa using h2
   rw [if_pos hk] at hQ
   refine number_ok hT hB (i64w_ok _) ?_
   rw [addc 97 (by have := itoa_len (i64w_ok (8 * t.size)); unfold i64w at this; omega)]
   simp only [Do_of]
   exact put1 hT hB hb (hx8 _) hQ
 have hk2 : t.kind ≠ 2 := by simpa using h2
 rw [if_neg hk2] at hQ
 have k3 : ∀ b : Bool, (b = true ↔ t.kind = 5 ∧ t.elem.length = 1) → JoinP (S.print_writer_typ_k3 Φ (.ptr id 0) (.fptr t.cells) Q) [.bool b] H := by
  intro b hbb
  simp only [JoinP_def, S.print_writer_typ_k3, sl_zero, Gd_true, Ac.addr, Ac.t4, Ac.t5, Ac.t0, Do_of]
  refine bool_ite8 (fun h3 => ?_) (fun h3 => ?_)
  · have hk := hbb.1 h3
    rw [if_pos hk] at hQ
    obtain ⟨e, hel⟩ := List.length_eq_one_iff.1 hk.2
    refine number_ok hT hB hcount ?_
    refine put3 hT hB hb (by decide) hcl (by decide) fun H1 hb1 hk1 => ?_
    rw [lstA_addr0 (by omega : 0 < t.elem.length)]
    simp only [Do_of]
    rw [elA_load GType.len (by decide) H1 (x := e) (by rw [hel]; rfl)]
    simp only [Do_of]
    refine he e (by rw [hel]; simp) hb1 fun H2 hb2 hk2 => ?_
    refine hQ H2 ?_ (hk1.trans hk2)
    rw [hel]
    simpa only [List.flatMap_cons, List.flatMap_nil, List.append_nil, runW_cons, runW_app, runW_nil] using hb2
  · have hk : ¬ (t.kind = 5 ∧ t.elem.length = 1) := fun e => by rw [hbb.2 e] at h3; cases h3
    rw [if_neg hk] at hQ
    have k2 : ∀ b : Bool, (b = true ↔ t.kind = 3 ∨ t.kind = 4) → JoinP (S.print_writer_typ_k2 Φ (.ptr id 0) (.fptr t.cells) Q) [.bool b] H := by
     intro b hbb
     simp only [JoinP_def, S.print_writer_typ_k2, sl_zero, Gd_true, Ac.addr, Ac.t0, Ac.t2, Do_of, abin_sub]
     refine bool_ite8 (fun h4 => ?_) (fun h4 => ?_)
     · rw [if_pos (hbb.1 h4)] at hQ
       rw [lit2]
       simp only [DoH_some]
       refine of_ok hT ?_
       refine put1 hT hB hb (ofW_wd (by decide)) fun H1 hb1 hk1 => ?_
       have k1 : ∀ (H2 : AH), BldAt T U H2 id (runW (if t.packed = true then [[112, 97, 99, 107, 101, 100]] else []) (w1 st (ofW (i64w (t.kind - 3)) [[115, 116, 114, 117, 99, 116], [117, 110, 105, 111, 110]]))) → KeepB H id H2 → JoinP (S.print_writer_typ_k1 Φ (.ptr id 0) (.fptr t.cells) Q) [] H2 := by
        intro H2 hb2 hk2
        simp only [JoinP_def, S.print_writer_typ_k1]
        refine put1 hT hB hb2 (by decide) fun H3 hb3 hk3 => ?_
        simp only [Ac.addr, Ac.t3, Do_of]
        refine S.cl_print_each_api_Field_ hT ?_
        rw [each_field]
        refine Each_ok (key := K.print_writer_field + 1048576) (caps := [.ptr id 0]) (W := GField.W) GField.len GField.scalar (by decide) rfl (fun f hff => hf f hff) (by unfold maxLen at hfl; omega) hb3 fun H4 hb4 hk4 => ?_
        refine put1 hT hB hb4 (by decide) fun H5 hb5 hk5 => ?_
        refine hQ H5 ?_ (hk2.trans (hk3.trans (hk4.trans hk5)))
        simpa only [runW_cons, runW_app, runW_nil] using hb5
       refine bool_ite8 (fun h5 => ?_) (fun h5 => ?_)
       · refine put1 hT hB hb1 (by decide) fun H2 hb2 hk2 => ?_
         refine k1 H2 ?_ (hk1.trans hk2)
         rw [if_pos h5]
         exact hb2
       · refine k1 H1 ?_ hk1
         rw [if_neg (by rw [h5]; decide)]
         exact hb1
     · have hk : ¬ (t.kind = 3 ∨ t.kind = 4) := fun e => by rw [hbb.2 e] at h4; cases h4
       rw [if_neg hk] at hQ
       exact hQ H hb (KeepB.refl _ _)
    simp only [abin_eql, Do_of, Gd3_false]
    refine bool_itef8 (fun h4 => ?_) (fun h4 => ?_)
    · refine k2 _ ?_
      have : t.kind ≠ 3 := by simpa using h4
      simp [this]
    · refine k2 _ ?_
      have : t.kind = 3 := by simpa using h4
      simp [this]
 refine bool_ite8 (fun h5 => ?_) (fun h5 => ?_)
 · rw [lstA_len']
   simp only [Do_of, abin_eql]
   refine k3 _ ?_
   have : t.kind = 5 := by simpa using h5
   simp [this]; omega
 · refine k3 _ ?_
   have : t.kind ≠ 5 := by simpa using h5
   simp [this]
end
end Rb

set_option linter.unusedVariables false
set_option linter.unusedSimpArgs false
set_option linter.unusedSectionVars false
namespace Rb
open Go
mutual
def GExpr.pok : GExpr → Prop
 | .mk _ n name _ _ place kids => u64ok n ∧ name.length ≤ 140737488351232 ∧ GPlace.pok place ∧ kids.length ≤ maxLen ∧ GExpr.poks kids
def GExpr.poks : List GExpr → Prop
 | [] => True
 | x :: r => GExpr.pok x ∧ GExpr.poks r
def GPlace.pok : GPlace → Prop
 | .mk var parts => var.length ≤ 140737488351232 ∧ parts.length ≤ maxLen ∧ GPart.poks parts
def GPart.pok : GPart → Prop
 | .mk field index => field.length ≤ 140737488351232 ∧ GExpr.poks index
def GPart.poks : List GPart → Prop
 | [] => True
 | x :: r => GPart.pok x ∧ GPart.poks r
end
theorem GExpr.poks_iff : ∀ {xs : List GExpr}, GExpr.poks xs ↔ ∀ x ∈ xs, x.pok
 | [] => by simp [GExpr.poks]
 | x :: r => by simp [GExpr.poks, GExpr.poks_iff (xs := r)]
theorem GPart.poks_iff : ∀ {xs : List GPart}, GPart.poks xs ↔ ∀ x ∈ xs, x.pok
 | [] => by simp [GPart.poks]
 | x :: r => by simp [GPart.poks, GPart.poks_iff (xs := r)]
mutual
theorem GExpr.ok_pok : ∀ x : GExpr, x.ok → x.pok
 | .mk kind n name op order place kids, h => by
  rw [GExpr.ok] at h
  rw [GExpr.pok]
  exact ⟨h.2.1, h.2.2.1, GPlace.ok_pok place h.2.2.2.2.2.1, h.2.2.2.2.2.2.1, GExpr.oks_poks kids h.2.2.2.2.2.2.2⟩
theorem GExpr.oks_poks : ∀ xs : List GExpr, GExpr.oks xs → GExpr.poks xs
 | [], _ => trivial
 | x :: r, h => ⟨GExpr.ok_pok x h.1, GExpr.oks_poks r h.2⟩
theorem GPlace.ok_pok : ∀ x : GPlace, x.ok → x.pok
 | .mk var parts, h => by
  rw [GPlace.ok] at h
  rw [GPlace.pok]
  exact ⟨h.1, h.2.1, GPart.oks_poks parts h.2.2⟩
theorem GPart.ok_pok : ∀ x : GPart, x.ok → x.pok
 | .mk field index, h => by
  rw [GPart.ok] at h
  rw [GPart.pok]
  exact ⟨h.1, GExpr.oks_poks index h.2.2⟩
theorem GPart.oks_poks : ∀ xs : List GPart, GPart.oks xs → GPart.poks xs
 | [], _ => trivial
 | x :: r, h => ⟨GPart.ok_pok x h.1, GPart.oks_poks r h.2⟩
end
theorem GExpr.Ws_map : ∀ xs : List GExpr, GExpr.Ws xs = xs.flatMap GExpr.W
 | [] => rfl
 | x :: r => by rw [GExpr.Ws, GExpr.Ws_map r]; rfl
theorem GPart.Ws_map : ∀ xs : List GPart, GPart.Ws xs = xs.flatMap GPart.W
 | [] => rfl
 | x :: r => by rw [GPart.Ws, GPart.Ws_map r]; rfl
theorem GExpr.W_def (e : GExpr) : e.W = if e.kind = 1 then [numW e.n]
  else if e.kind = 2 then [e.name]
  else if e.kind = 3 then [40] :: (GExpr.Wk (ofW (i64w (e.op - 1)) opWL) 0 e.kids ++ [[41]])
  else if e.kind = 4 then [114, 101, 97, 100] :: GPlace.W e.place
  else ofW (i64w (e.kind - 5)) accWL :: orderW e.order :: (GPlace.W e.place ++ e.kids.flatMap GExpr.W) := by
 cases e
 rw [GExpr.W, GExpr.Ws_map]
theorem GPlace.W_def (x : GPlace) : x.W = x.var :: x.parts.flatMap GPart.W := by
 cases x
 rw [GPlace.W, GPart.Ws_map]
theorem GPart.W_def (x : GPart) : x.W = if x.index.length = 1 then [91] :: (x.index.flatMap GExpr.W ++ [[93]]) else [[46], x.field] := by
 cases x
 rw [GPart.W, GExpr.Ws_map]
section
variable {Φ : Calls'} {T U : TypeId} {id : Nat}
theorem field_puts (hT : Cl Φ S.tab_Lex) (hB : BKit Φ T U) {f : GField} (hp : f.pok) (ht : Puts Φ T U id K.print_writer_typ [.ptr id 0, .agg f.type.cells] f.type.W) : Puts Φ T U id K.print_writer_field [.ptr id 0, .agg f.cells] f.W := by
 intro H st Q hb hQ
 have hname : f.name.length ≤ w47 := by cases f; rw [GField.pok] at hp; exact hp.1
 have hwid : i64ok f.width := by cases f; rw [GField.pok] at hp; exact hp.2.2
 have hwl : (Go.Lib.itoa f.width).length ≤ w47 := by have := itoa_len hwid; unfold w47; omega
 refine S.cl_print_writer_field hT ?_
 unfold S.print_writer_field
 rw [GField.W_def] at hQ
 simp only [Ac.fbox, DoH_some, Ac.addr, Ac.f0, Do_of]
 rw [show abin .eql (.str f.name) (.str []) = some (.bool (f.name == [])) from rfl]
 simp only [Do_of, Gd_true]
 have k2 : ∀ H1, BldAt T U H1 id (w1 st (if f.name = [] then [95] else f.name)) → KeepB H id H1 → JoinP (S.print_writer_field_k2 Φ (.ptr id 0) (.fptr f.cells) Q) [] H1 := by
  intro H1 hb1 hk1
  simp only [JoinP_def, S.print_writer_field_k2, Ac.addr, Ac.f1, Ac.f7, Ac.f8, Do_of, Gd_true]
  refine ht hb1 fun H2 hb2 hk2 => ?_
  have k1 : ∀ H3, BldAt T U H3 id (runW (if f.bits = true then [[58], Go.Lib.itoa f.width] else []) (runW f.type.W (w1 st (if f.name = [] then [95] else f.name)))) → KeepB H id H3 → JoinP (S.print_writer_field_k1 Φ (.ptr id 0) Q) [] H3 := by
   intro H3 hb3 hk3
   simp only [JoinP_def, S.print_writer_field_k1]
   refine put1 hT hB hb3 (by decide) fun H4 hb4 hk4 => ?_
   refine hQ H4 ?_ (hk3.trans hk4)
   simpa only [runW_cons, runW_app, runW_nil] using hb4
  refine bool_ite8 (fun h5 => ?_) (fun h5 => ?_)
  · refine number_ok hT hB hwid ?_
    refine put2 hT hB hb2 (by decide) hwl fun H3 hb3 hk3 => ?_
    refine k1 H3 ?_ (hk1.trans (hk2.trans hk3))
    rw [if_pos h5]
    exact hb3
  · refine k1 H2 ?_ (hk1.trans hk2)
    rw [if_neg (by rw [h5]; decide)]
    exact hb2
 refine bool_ite8 (fun h5 => ?_) (fun h5 => ?_)
 · have : f.name = [] := by simpa using h5
   refine put1 hT hB hb (by decide) fun H1 hb1 hk1 => k2 H1 ?_ hk1
   rw [if_pos this]; exact hb1
 · have : f.name ≠ [] := by simpa using h5
   refine put1 hT hB hb hname fun H1 hb1 hk1 => k2 H1 ?_ hk1
   rw [if_neg this]; exact hb1
mutual
theorem typ_all (hT : Cl Φ S.tab_Lex) (hB : BKit Φ T U) : ∀ t : GType, t.pok → Puts Φ T U id K.print_writer_typ [.ptr id 0, .agg t.cells] t.W
 | .mk kind size packed fields count elem, h => by
  have h' := h
  rw [GType.pok] at h'
  exact typ_puts hT hB h (flds_all hT hB fields h'.2.2.1) (typs_all hT hB elem h'.2.2.2)
theorem typs_all (hT : Cl Φ S.tab_Lex) (hB : BKit Φ T U) : ∀ ts : List GType, GType.poks ts → ∀ t ∈ ts, Puts Φ T U id K.print_writer_typ [.ptr id 0, .agg t.cells] t.W
 | [], _ => fun t ht => by cases ht
 | x :: r, h => fun t ht => by
  rcases List.mem_cons.1 ht with e | e
  · rw [e]; exact typ_all hT hB x h.1
  · exact typs_all hT hB r h.2 t e
theorem fld_all (hT : Cl Φ S.tab_Lex) (hB : BKit Φ T U) : ∀ f : GField, f.pok → Puts Φ T U id K.print_writer_field [.ptr id 0, .agg f.cells] f.W
 | .mk name type bits width, h => by
  have h' := h
  rw [GField.pok] at h'
  exact field_puts hT hB h (typ_all hT hB type h'.2.1)
theorem flds_all (hT : Cl Φ S.tab_Lex) (hB : BKit Φ T U) : ∀ fs : List GField, GField.poks fs → ∀ f ∈ fs, Puts Φ T U id K.print_writer_field [.ptr id 0, .agg f.cells] f.W
 | [], _ => fun t ht => by cases ht
 | x :: r, h => fun t ht => by
  rcases List.mem_cons.1 ht with e | e
  · rw [e]; exact fld_all hT hB x h.1
  · exact flds_all hT hB r h.2 t e
end
theorem lit4 (H : AH) (a b c d : List UInt8) : abslice H false 1 4 [.str []] [(0, 1, .str a), (1, 1, .str b), (2, 1, .str c), (3, 1, .str d)] = some (.lst .full [a, b, c, d].length ([a, b, c, d].map .str), H) := rfl
theorem order_puts (hT : Cl Φ S.tab_Lex) (hB : BKit Φ T U) (n : Int) : Puts Φ T U id K.print_writer_order [.ptr id 0, .int .i64 n] [orderW n] := by
 intro H st Q hb hQ
 refine S.cl_print_writer_order hT ?_
 unfold S.print_writer_order
 simp only [abin_sub, Do_of]
 rw [lit4]
 simp only [DoH_some]
 refine of_ok hT ?_
 exact put1 hT hB hb (ofW_wd (by decide)) hQ
theorem place_puts (hT : Cl Φ S.tab_Lex) (hB : BKit Φ T U) {x : GPlace} (hp : x.pok) (he : ∀ p ∈ x.parts, ∀ e ∈ p.index, Puts Φ T U id K.print_writer_expr [.ptr id 0, .agg e.cells] e.W) : Puts Φ T U id K.print_writer_place [.ptr id 0, .agg x.cells] x.W := by
 intro H st Q hb hQ
 have hvar : x.var.length ≤ w47 := by cases x; rw [GPlace.pok] at hp; exact hp.1
 have hpl : x.parts.length ≤ maxLen := by cases x; rw [GPlace.pok] at hp; exact hp.2.1
 have hpo : ∀ p ∈ x.parts, p.pok := by cases x; rw [GPlace.pok] at hp; exact GPart.poks_iff.1 hp.2.2
 refine S.cl_print_writer_place hT ?_
 unfold S.print_writer_place
 rw [GPlace.W_def] at hQ
 simp only [Ac.lbox, DoH_some, Ac.addr, Ac.l0, Do_of]
 refine put1 hT hB hb hvar fun H1 hb1 hk1 => ?_
 simp only [Ac.addr, Ac.l1, Do_of, lstA_len']
 unfold maxLen at hpl
 have main : ∀ (ys : List GPart) (i : Nat) (H2 : AH) (s1 : List UInt8), x.parts.drop i = ys → BldAt T U H2 id s1 → KeepB H id H2 → runW (ys.flatMap GPart.W) s1 = runW (x.var :: x.parts.flatMap GPart.W) st →
   LoopP (S.print_writer_place_l2 Φ (.ptr id 0) (lstA GPart.cells x.parts) (.int .i64 x.parts.length) Q) ([.int .i64 i], H2) := by
  intro ys
  induction ys with
  | nil =>
   intro i H2 s1 hi hb2 hk hr
   have hle := drop_nil_le hi
   refine LoopP.step ?_
   simp only [S.print_writer_place_l2, sl_zero, abin_lss, Do_of, Gd_true]
   rw [if_neg (by simp only [decide_eq_true_eq]; omega)]
   refine hQ H2 ?_ hk
   rw [← hr]; exact hb2
  | cons y ys ih =>
   intro i H2 s1 hi hb2 hk hr
   obtain ⟨hlt, hy, hd⟩ := drop_cons_lt hi
   have hym := List.mem_of_getElem? hy
   have hyf : y.field.length ≤ w47 := by have := hpo y hym; cases y; rw [GPart.pok] at this; exact this.1
   have hidn := hb2.1
   refine LoopP.step ?_
   simp only [S.print_writer_place_l2, sl_zero, abin_lss, Do_of, Gd_true]
   rw [if_pos (by simp only [decide_eq_true_eq]; omega), lstA_addr hlt]
   simp only [Do_of]
   rw [elA_load GPart.len (by decide) H2 hy]
   simp only [Do_of, DoH_some, abox, if_true]
   rw [store_new H2 _ y.cells 2 y.len y.scalar rfl]
   have hrow : (H2.push (.row y.cells)).o H2.n = .row y.cells := AH.push_self _ _
   have l2 : (2 : Nat) = y.cells.length := y.len.symm
   simp only [Do_of, Ac.addrp, Nat.zero_add]
   rw [Ac.rowf hrow (by omega), Ac.p1]
   simp only [Do_of, lstA_len', abin_eql, Gd_true]
   have next : ∀ H3, BldAt T U H3 id (runW y.W s1) → KeepB H id H3 → JoinP (S.print_writer_place_k1 Φ ([.int .i64 i], H2) (LoopP (S.print_writer_place_l2 Φ (.ptr id 0) (lstA GPart.cells x.parts) (.int .i64 x.parts.length) Q)) Q) [] H3 := by
    intro H3 hb3 hk3
    simp only [JoinP_def, S.print_writer_place_k1, sl_zero, abin_add, Do_of]
    rw [wrap_i64 (by omega) (by omega), show ((i : Int) + 1) = ((i + 1 : Nat) : Int) by simp]
    refine ih (i + 1) H3 _ hd hb3 hk3 ?_
    rw [← hr, List.flatMap_cons, runW_app]
   refine bool_ite8 (fun h5 => ?_) (fun h5 => ?_)
   · have h1 : y.index.length = 1 := by have := beq_iff_eq.1 h5; omega
     obtain ⟨e, hel⟩ := List.length_eq_one_iff.1 h1
     refine put1 hT hB (hb2.push _) (by decide) fun H3 hb3 hk3 => ?_
     have hrow3 : H3.o H2.n = .row y.cells := hk3.row (Nat.lt_succ_self _) (by omega) hrow
     rw [Ac.rowf hrow3 (by omega), Ac.p1]
     simp only [Do_of]
     rw [lstA_addr0 (by omega)]
     simp only [Do_of]
     rw [elA_load GExpr.len (by decide) H3 (x := e) (by rw [hel]; rfl)]
     simp only [Do_of]
     refine he y hym e (by rw [hel]; simp) hb3 fun H4 hb4 hk4 => ?_
     refine put1 hT hB hb4 (by decide) fun H5 hb5 hk5 => ?_
     refine next H5 ?_ (hk.trans ((KeepB.push _ _ _).trans (hk3.trans (hk4.trans hk5))))
     rw [GPart.W_def, if_pos h1, hel]
     simpa only [List.flatMap_cons, List.flatMap_nil, List.append_nil, runW_cons, runW_app, runW_nil] using hb5
   · have h1 : ¬ y.index.length = 1 := by intro e; rw [e] at h5; cases h5
     rw [Ac.rowf hrow (by omega), Ac.p0]
     simp only [Do_of]
     refine put2 hT hB (hb2.push _) (by decide) hyf fun H3 hb3 hk3 => ?_
     refine next H3 ?_ (hk.trans ((KeepB.push _ _ _).trans hk3))
     rw [GPart.W_def, if_neg h1]
     exact hb3
 exact main x.parts 0 H1 _ rfl hb1 hk1 rfl
end
end Rb

set_option linter.unusedVariables false
set_option linter.unusedSimpArgs false
set_option linter.unusedSectionVars false
namespace Rb
open Go
section
variable {Φ : Calls'} {T U : TypeId} {id : Nat}
theorem litOp (H : AH) : abslice H false 1 11 [.str []] [(0, 1, (.str [43])), (1, 1, (.str [45])), (2, 1, (.str [42])), (3, 1, (.str [38])), (4, 1, (.str [124])), (5, 1, (.str [94])), (6, 1, (.str [60, 60])), (7, 1, (.str [62, 62])), (8, 1, (.str [61, 61])), (9, 1, (.str [33, 61])), (10, 1, (.str [60]))] = some (.lst .full opWL.length (opWL.map .str), H) := rfl
theorem each_expr (Φ : Calls') (a0 a1 : AV) (H : AH) (Q : Post) : S.print_each_api_Expr_ Φ a0 a1 H Q = Each 8 [.int .i64 0, .int .u64 0, .str [], .int .i64 0, .int .i64 0, .str [], .lst .nil 0 [], .lst .nil 0 []] Φ a0 a1 H Q := rfl
theorem expr_puts (hT : Cl Φ S.tab_Lex) (hB : BKit Φ T U) {e : GExpr} (hp : e.pok) (hpl : Puts Φ T U id K.print_writer_place [.ptr id 0, .agg e.place.cells] e.place.W)
  (hk : ∀ k ∈ e.kids, Puts Φ T U id K.print_writer_expr [.ptr id 0, .agg k.cells] k.W) : Puts Φ T U id K.print_writer_expr [.ptr id 0, .agg e.cells] e.W := by
 intro H st Q hb hQ
 have hn : u64ok e.n := by cases e; rw [GExpr.pok] at hp; exact hp.1
 have hname : e.name.length ≤ w47 := by cases e; rw [GExpr.pok] at hp; exact hp.2.1
 have hkl : e.kids.length ≤ maxLen := by cases e; rw [GExpr.pok] at hp; exact hp.2.2.2.1
 unfold maxLen at hkl
 refine S.cl_print_writer_expr hT ?_
 unfold S.print_writer_expr
 simp only [Ac.ebox, DoH_some]
 refine full_ok hT hB hb ?_
 simp only [Gd_true]
 refine bool_ite8 (fun h => ?_) (fun h => ?_)
 · have : runW e.W st = st := runW_full (by simpa using h) _
   exact hQ H (by rw [this]; exact hb) (KeepB.refl _ _)
 rw [GExpr.W_def] at hQ
 simp only [Ac.addr, Ac.e0, Ac.e1, Ac.e2, Ac.e7, Do_of, abin_eql, abin_sub, Gd_true, lstA_len']
 refine bool_ite8 (fun h1 => ?_) (fun h1 => ?_)
 · have hk1 : e.kind = 1 := by simpa using h1
   rw [if_pos hk1] at hQ
   refine S.cl_strconv_FormatUint hT ?_
   unfold S.strconv_FormatUint
   obtain ⟨u, hu⟩ := Int.eq_ofNat_of_zero_le hn.1
   have hu2 : u ≤ 18446744073709551615 := by have := hn.2; omega
   rw [hu]
   refine hB.fmt u H _ hu2 ?_
   have e1 : numW e.n = Go.Lib.decDigits u := by unfold numW; rw [hu]; rfl
   rw [e1] at hQ
   exact put1 hT hB hb (by have := decD_u64 hu2; unfold w47; omega) hQ
 have hk1 : e.kind ≠ 1 := by simpa using h1
 rw [if_neg hk1] at hQ
 refine bool_ite8 (fun h2 => ?_) (fun h2 => ?_)
 · have hk2 : e.kind = 2 := by simpa using h2
   rw [if_pos hk2] at hQ
   exact put1 hT hB hb hname hQ
 have hk2 : e.kind ≠ 2 := by simpa using h2
 rw [if_neg hk2] at hQ
 refine bool_ite8 (fun h3 => ?_) (fun h3 => ?_)
 · have hk3 : e.kind = 3 := by simpa using h3
   rw [if_pos hk3] at hQ
   refine put1 hT hB hb (by decide) fun H1 hb1 hk1 => ?_
   have main : ∀ (ys : List GExpr) (i : Nat) (H2 : AH) (s1 : List UInt8), e.kids.drop i = ys → BldAt T U H2 id s1 → KeepB H id H2 → runW (GExpr.Wk (ofW (i64w (e.op - 1)) opWL) i ys) s1 = runW (GExpr.Wk (ofW (i64w (e.op - 1)) opWL) 0 e.kids) (w1 st [40]) →
     LoopP (S.print_writer_expr_l4 Φ (.ptr id 0) (.fptr e.cells) (lstA GExpr.cells e.kids) (.int .i64 e.kids.length) Q) ([.int .i64 i], H2) := by
    intro ys
    induction ys with
    | nil =>
     intro i H2 s1 hi hb2 hk' hr
     have hle := drop_nil_le hi
     refine LoopP.step ?_
     simp only [S.print_writer_expr_l4, sl_zero, abin_lss, Do_of, Gd_true]
     rw [if_neg (by simp only [decide_eq_true_eq]; omega)]
     simp only [JoinP_def, S.print_writer_expr_k3]
     refine put1 hT hB hb2 (by decide) fun H3 hb3 hk3 => ?_
     refine hQ H3 ?_ (hk'.trans hk3)
     rw [GExpr.Wk, runW_nil] at hr
     rw [runW_cons, runW_app, ← hr]
     exact hb3
    | cons y ys ih =>
     intro i H2 s1 hi hb2 hk' hr
     obtain ⟨hlt, hy, hd⟩ := drop_cons_lt hi
     have hidn := hb2.1
     refine LoopP.step ?_
     simp only [S.print_writer_expr_l4, sl_zero, abin_lss, Do_of, Gd_true]
     rw [if_pos (by simp only [decide_eq_true_eq]; omega), lstA_addr hlt]
     simp only [Do_of]
     rw [elA_load GExpr.len (by decide) H2 hy]
     simp only [Do_of, DoH_some, abox, if_true]
     rw [store_new H2 _ y.cells 8 y.len y.scalar rfl]
     have hrow : (H2.push (.row y.cells)).o H2.n = .row y.cells := AH.push_self _ _
     simp only [Do_of, abin_eql, Gd_true, Ac.addr, Ac.e3, abin_sub]
     have k2 : ∀ H3, BldAt T U H3 id (runW (if i = 1 then [ofW (i64w (e.op - 1)) opWL] else []) s1) → KeepB (H2.push (.row y.cells)) id H3 →
       JoinP (S.print_writer_expr_k2 Φ (.ptr id 0) (.ptr H2.n 0) ([.int .i64 i], H2) (LoopP (S.print_writer_expr_l4 Φ (.ptr id 0) (.fptr e.cells) (lstA GExpr.cells e.kids) (.int .i64 e.kids.length) Q)) Q) [] H3 := by
      intro H3 hb3 hk3
      have hrow3 : H3.o H2.n = .row y.cells := hk3.row (Nat.lt_succ_self _) (by omega) hrow
      simp only [JoinP_def, S.print_writer_expr_k2]
      rw [Ac.rowl hrow3, takeCells_whole y.len]
      simp only [Do_of]
      refine hk y (List.mem_of_getElem? hy) hb3 fun H4 hb4 hk4 => ?_
      simp only [S.print_writer_expr_k1, sl_zero, abin_add, Do_of]
      rw [wrap_i64 (by omega) (by omega), show ((i : Int) + 1) = ((i + 1 : Nat) : Int) by simp]
      refine ih (i + 1) H4 _ hd hb4 (hk'.trans ((KeepB.push _ _ _).trans (hk3.trans hk4))) ?_
      rw [← hr, GExpr.Wk, runW_app, runW_app]
     refine bool_ite8 (fun h5 => ?_) (fun h5 => ?_)
     · have h1 : i = 1 := by have := beq_iff_eq.1 h5; omega
       rw [litOp]
       simp only [DoH_some]
       refine of_ok hT ?_
       refine put1 hT hB (hb2.push _) (ofW_wd (by decide)) fun H3 hb3 hk3 => ?_
       refine k2 H3 ?_ hk3
       rw [if_pos h1]
       exact hb3
     · have h1 : ¬ i = 1 := by intro e; rw [e] at h5; cases h5
       refine k2 _ ?_ (KeepB.refl _ _)
       rw [if_neg h1]
       exact hb2.push _
   exact main e.kids 0 H1 _ rfl hb1 hk1 rfl
 have hk3 : e.kind ≠ 3 := by simpa using h3
 rw [if_neg hk3] at hQ
 refine bool_ite8 (fun h4 => ?_) (fun h4 => ?_)
 · have hk4 : e.kind = 4 := by simpa using h4
   rw [if_pos hk4] at hQ
   refine put1 hT hB hb (by decide) fun H1 hb1 hk1 => ?_
   simp only [Ac.e5, Do_of]
   refine hpl hb1 fun H2 hb2 hk2 => ?_
   refine hQ H2 ?_ (hk1.trans hk2)
   simpa only [runW_cons, runW_app, runW_nil] using hb2
 have hk4 : e.kind ≠ 4 := by simpa using h4
 rw [if_neg hk4] at hQ
 rw [lit4]
 simp only [DoH_some]
 refine of_ok (ws := accWL) hT ?_
 refine put1 hT hB hb (ofW_wd (by decide)) fun H1 hb1 hk1 => ?_
 simp only [Ac.e4, Do_of]
 refine order_puts hT hB e.order hb1 fun H2 hb2 hk2 => ?_
 simp only [Ac.e5, Do_of]
 refine hpl hb2 fun H3 hb3 hk3 => ?_
 refine S.cl_print_each_api_Expr_ hT ?_
 rw [each_expr]
 refine Each_ok (key := K.print_writer_expr + 1048576) (caps := [.ptr id 0]) (W := GExpr.W) GExpr.len GExpr.scalar (by decide) rfl (fun f hff => hk f hff) (by omega) hb3 fun H4 hb4 hk4 => ?_
 refine hQ H4 ?_ (hk1.trans (hk2.trans (hk3.trans hk4)))
 simpa only [runW_cons, runW_app, runW_nil, i64w] using hb4
mutual
theorem expr_all (hT : Cl Φ S.tab_Lex) (hB : BKit Φ T U) : ∀ e : GExpr, e.pok → Puts Φ T U id K.print_writer_expr [.ptr id 0, .agg e.cells] e.W
 | .mk kind n name op order place kids, h => by
  have h' := h
  rw [GExpr.pok] at h'
  exact expr_puts hT hB h (place_all hT hB place h'.2.2.1) (exprs_all hT hB kids h'.2.2.2.2)
theorem exprs_all (hT : Cl Φ S.tab_Lex) (hB : BKit Φ T U) : ∀ es : List GExpr, GExpr.poks es → ∀ e ∈ es, Puts Φ T U id K.print_writer_expr [.ptr id 0, .agg e.cells] e.W
 | [], _ => fun t ht => by cases ht
 | x :: r, h => fun t ht => by
  rcases List.mem_cons.1 ht with e | e
  · rw [e]; exact expr_all hT hB x h.1
  · exact exprs_all hT hB r h.2 t e
theorem place_all (hT : Cl Φ S.tab_Lex) (hB : BKit Φ T U) : ∀ x : GPlace, x.pok → Puts Φ T U id K.print_writer_place [.ptr id 0, .agg x.cells] x.W
 | .mk var parts, h => by
  have h' := h
  rw [GPlace.pok] at h'
  exact place_puts hT hB h (parts_all hT hB parts h'.2.2)
theorem parts_all (hT : Cl Φ S.tab_Lex) (hB : BKit Φ T U) : ∀ ps : List GPart, GPart.poks ps → ∀ p ∈ ps, ∀ e ∈ p.index, Puts Φ T U id K.print_writer_expr [.ptr id 0, .agg e.cells] e.W
 | [], _ => fun t ht => by cases ht
 | .mk field index :: r, h => fun t ht => by
  rcases List.mem_cons.1 ht with e | e
  · rw [e]
    have h' := h.1
    rw [GPart.pok] at h'
    exact exprs_all hT hB index h'.2
  · exact parts_all hT hB r h.2 t e
end
theorem commas_puts (hT : Cl Φ S.tab_Lex) (hB : BKit Φ T U) {es : List GExpr} (hl : es.length ≤ maxLen) (hk : ∀ k ∈ es, Puts Φ T U id K.print_writer_expr [.ptr id 0, .agg k.cells] k.W) : Puts Φ T U id K.print_writer_exprs [.ptr id 0, lstA GExpr.cells es] (exprsW 0 es) := by
 intro H st Q hb hQ
 unfold maxLen at hl
 refine S.cl_print_writer_exprs hT ?_
 unfold S.print_writer_exprs
 simp only [lstA_len', Do_of]
 have main : ∀ (ys : List GExpr) (i : Nat) (H2 : AH) (s1 : List UInt8), es.drop i = ys → BldAt T U H2 id s1 → KeepB H id H2 → runW (exprsW i ys) s1 = runW (exprsW 0 es) st →
   LoopP (S.print_writer_exprs_l3 Φ (.ptr id 0) (lstA GExpr.cells es) (.int .i64 es.length) Q) ([.int .i64 i], H2) := by
  intro ys
  induction ys with
  | nil =>
   intro i H2 s1 hi hb2 hk' hr
   have hle := drop_nil_le hi
   refine LoopP.step ?_
   simp only [S.print_writer_exprs_l3, sl_zero, abin_lss, Do_of, Gd_true]
   rw [if_neg (by simp only [decide_eq_true_eq]; omega)]
   refine hQ H2 ?_ hk'
   rw [exprsW, runW_nil] at hr
   rw [← hr]; exact hb2
  | cons y ys ih =>
   intro i H2 s1 hi hb2 hk' hr
   obtain ⟨hlt, hy, hd⟩ := drop_cons_lt hi
   have hidn := hb2.1
   refine LoopP.step ?_
   simp only [S.print_writer_exprs_l3, sl_zero, abin_lss, Do_of, Gd_true]
   rw [if_pos (by simp only [decide_eq_true_eq]; omega), lstA_addr hlt]
   simp only [Do_of]
   rw [elA_load GExpr.len (by decide) H2 hy]
   simp only [Do_of, DoH_some, abox, if_true]
   rw [store_new H2 _ y.cells 8 y.len y.scalar rfl]
   have hrow : (H2.push (.row y.cells)).o H2.n = .row y.cells := AH.push_self _ _
   simp only [Do_of, abin_gtr, Gd_true]
   have k2 : ∀ H3, BldAt T U H3 id (runW (if 0 < i then [[44]] else []) s1) → KeepB (H2.push (.row y.cells)) id H3 →
     JoinP (S.print_writer_exprs_k2 Φ (.ptr id 0) (.ptr H2.n 0) ([.int .i64 i], H2) (LoopP (S.print_writer_exprs_l3 Φ (.ptr id 0) (lstA GExpr.cells es) (.int .i64 es.length) Q)) Q) [] H3 := by
    intro H3 hb3 hk3
    have hrow3 : H3.o H2.n = .row y.cells := hk3.row (Nat.lt_succ_self _) (by omega) hrow
    simp only [JoinP_def, S.print_writer_exprs_k2]
    rw [Ac.rowl hrow3, takeCells_whole y.len]
    simp only [Do_of]
    refine hk y (List.mem_of_getElem? hy) hb3 fun H4 hb4 hk4 => ?_
    simp only [S.print_writer_exprs_k1, sl_zero, abin_add, Do_of]
    rw [wrap_i64 (by omega) (by omega), show ((i : Int) + 1) = ((i + 1 : Nat) : Int) by simp]
    refine ih (i + 1) H4 _ hd hb4 (hk'.trans ((KeepB.push _ _ _).trans (hk3.trans hk4))) ?_
    rw [← hr, exprsW, runW_app, runW_app]
   refine bool_ite8 (fun h5 => ?_) (fun h5 => ?_)
   · have h1 : 0 < i := by simp only [decide_eq_true_eq] at h5; omega
     refine put1 hT hB (hb2.push _) (by decide) fun H3 hb3 hk3 => ?_
     refine k2 H3 ?_ hk3
     rw [if_pos h1]
     exact hb3
   · have h1 : ¬ 0 < i := by simp only [decide_eq_false_iff_not] at h5; omega
     refine k2 _ ?_ (KeepB.refl _ _)
     rw [if_neg h1]
     exact hb2.push _
 exact main es 0 H st rfl hb (KeepB.refl _ _) rfl
end
end Rb

set_option linter.unusedVariables false
set_option linter.unusedSimpArgs false
set_option linter.unusedSectionVars false
namespace Rb
open Go
mutual
def GStmt.pok : GStmt → Prop
 | .mk _ _ name name2 _ place exprs thn els => name.length ≤ 140737488351232 ∧ name2.length ≤ 140737488351232 ∧ place.pok ∧ exprs.length ≤ maxLen ∧ GExpr.poks exprs ∧ thn.length ≤ maxLen ∧ GStmt.poks thn ∧ els.length ≤ maxLen ∧ GStmt.poks els
def GStmt.poks : List GStmt → Prop
 | [] => True
 | x :: r => GStmt.pok x ∧ GStmt.poks r
end
theorem GStmt.poks_iff : ∀ {xs : List GStmt}, GStmt.poks xs ↔ ∀ x ∈ xs, x.pok
 | [] => by simp [GStmt.poks]
 | x :: r => by simp [GStmt.poks, GStmt.poks_iff (xs := r)]
mutual
theorem GStmt.ok_pok : ∀ x : GStmt, x.ok → x.pok
 | .mk kind line name name2 order place exprs thn els, h => by
  rw [GStmt.ok] at h
  rw [GStmt.pok]
  obtain ⟨_, _, h1, h2, _, h3, h4, h5, h6, h7, h8, h9⟩ := h
  exact ⟨h1, h2, GPlace.ok_pok _ h3, h4, GExpr.oks_poks _ h5, h6, GStmt.oks_poks thn h7, h8, GStmt.oks_poks els h9⟩
theorem GStmt.oks_poks : ∀ xs : List GStmt, GStmt.oks xs → GStmt.poks xs
 | [], _ => trivial
 | x :: r, h => ⟨GStmt.ok_pok x h.1, GStmt.oks_poks r h.2⟩
end
theorem GStmt.Ws_map : ∀ xs : List GStmt, GStmt.Ws xs = xs.flatMap GStmt.W
 | [] => rfl
 | x :: r => by rw [GStmt.Ws, GStmt.Ws_map r]; rfl
theorem blockW_def (l : List GStmt) : blockW l = [123] :: (l.flatMap GStmt.W ++ [[125]]) := by unfold blockW; rw [GStmt.Ws_map]
theorem GStmt.W_def (x : GStmt) : x.W = ofW (i64w (x.kind - 1)) stmWL :: (headW x.kind x.order x.name x.name2 x.place ++ (exprsW 0 x.exprs ++
      (if x.kind = 8 ∨ x.kind = 9 then blockW x.thn ++ (if x.els.length = 0 then [] else [101, 108, 115, 101] :: blockW x.els) else [[59]]))) := by
  cases x
  rw [GStmt.W]
  simp only [blockW, List.cons_append, List.append_assoc, List.nil_append]
def GVar.pok (v : GVar) : Prop := v.name.length ≤ 140737488351232 ∧ v.type.pok
def GProg.pok (p : GProg) : Prop := (p.vars.length ≤ maxLen ∧ ∀ v ∈ p.vars, v.pok) ∧ p.threads.length ≤ maxLen ∧ ∀ t ∈ p.threads, t.length ≤ maxLen ∧ ∀ s ∈ t, s.pok
theorem GProg.ok_pok {p : GProg} (h : p.ok) : p.pok :=
 ⟨⟨h.1.1, fun v hv => ⟨(h.1.2 v hv).1, GType.ok_pok _ (h.1.2 v hv).2⟩⟩, h.2.1, fun t ht => ⟨(h.2.2 t ht).1, fun s hs => GStmt.ok_pok _ ((h.2.2 t ht).2 s hs)⟩⟩
section
variable {Φ : Calls'} {T U : TypeId} {id : Nat}
theorem litSt (H : AH) : abslice H false 1 10 [.str []] [(0, 1, (.str [108, 101, 116])), (1, 1, (.str [115, 101, 116])), (2, 1, (.str [119, 114, 105, 116, 101])), (3, 1, (.str [115, 116, 111, 114, 101])), (4, 1, (.str [108, 111, 97, 100, 50])), (5, 1, (.str [115, 116, 111, 114, 101, 50])), (6, 1, (.str [102, 101, 110, 99, 101])), (7, 1, (.str [105, 102])), (8, 1, (.str [119, 104, 105, 108, 101])), (9, 1, (.str [112, 114, 105, 110, 116]))] = some (.lst .full stmWL.length (stmWL.map .str), H) := rfl
theorem each_stmt (Φ : Calls') (a0 a1 : AV) (H : AH) (Q : Post) : S.print_each_api_Stmt_ Φ a0 a1 H Q = Each 10 [.int .i64 0, .int .i64 0, .str [], .str [], .int .i64 0, .str [], .lst .nil 0 [], .lst .nil 0 [], .lst .nil 0 [], .lst .nil 0 []] Φ a0 a1 H Q := rfl
theorem block_puts (hT : Cl Φ S.tab_Lex) (hB : BKit Φ T U) {l : List GStmt} (hl : l.length ≤ maxLen) (hs : ∀ x ∈ l, Puts Φ T U id K.print_writer_stmt [.ptr id 0, .agg x.cells] x.W) : Puts Φ T U id K.print_writer_block [.ptr id 0, lstA GStmt.cells l] (blockW l) := by
 intro H st Q hb hQ
 unfold maxLen at hl
 refine S.cl_print_writer_block hT ?_
 unfold S.print_writer_block
 rw [blockW_def] at hQ
 refine put1 hT hB hb (by decide) fun H1 hb1 hk1 => ?_
 refine S.cl_print_each_api_Stmt_ hT ?_
 rw [each_stmt]
 refine Each_ok (key := K.print_writer_stmt + 1048576) (caps := [.ptr id 0]) (W := GStmt.W) GStmt.len GStmt.scalar (by decide) rfl (fun f hff => hs f hff) (by omega) hb1 fun H2 hb2 hk2 => ?_
 refine put1 hT hB hb2 (by decide) fun H3 hb3 hk3 => ?_
 refine hQ H3 ?_ (hk1.trans (hk2.trans hk3))
 simpa only [runW_cons, runW_app, runW_nil] using hb3
theorem stmt_puts (hT : Cl Φ S.tab_Lex) (hB : BKit Φ T U) {x : GStmt} (hp : x.pok)
  (ht : ∀ k ∈ x.thn, Puts Φ T U id K.print_writer_stmt [.ptr id 0, .agg k.cells] k.W) (he : ∀ k ∈ x.els, Puts Φ T U id K.print_writer_stmt [.ptr id 0, .agg k.cells] k.W) : Puts Φ T U id K.print_writer_stmt [.ptr id 0, .agg x.cells] x.W := by
 intro H st Q hb hQ
 obtain ⟨hname, hname2, hpl, hex, hexs, htl, hel⟩ : x.name.length ≤ w47 ∧ x.name2.length ≤ w47 ∧ x.place.pok ∧ x.exprs.length ≤ maxLen ∧ GExpr.poks x.exprs ∧ x.thn.length ≤ maxLen ∧ x.els.length ≤ maxLen := by
  cases x; rw [GStmt.pok] at hp; exact ⟨hp.1, hp.2.1, hp.2.2.1, hp.2.2.2.1, hp.2.2.2.2.1, hp.2.2.2.2.2.1, hp.2.2.2.2.2.2.2.1⟩
 have hP : Puts Φ T U id K.print_writer_place [.ptr id 0, .agg x.place.cells] x.place.W := place_all hT hB _ hpl
 refine S.cl_print_writer_stmt hT ?_
 unfold S.print_writer_stmt
 simp only [Ac.sbox, DoH_some]
 refine full_ok hT hB hb ?_
 simp only [Gd_true]
 refine bool_ite8 (fun h => ?_) (fun h => ?_)
 · have : runW x.W st = st := runW_full (by simpa using h) _
   exact hQ H (by rw [this]; exact hb) (KeepB.refl _ _)
 rw [GStmt.W_def] at hQ
 simp only [Ac.addr, Ac.s0, Do_of, abin_sub]
 rw [litSt]
 simp only [DoH_some]
 refine of_ok (ws := stmWL) hT ?_
 refine put1 hT hB hb (ofW_wd (by decide)) fun H1 hb1 hk1 => ?_
 have k3 : ∀ H2, BldAt T U H2 id (runW (headW x.kind x.order x.name x.name2 x.place) (w1 st (ofW (i64w (x.kind - 1)) stmWL))) → KeepB H id H2 → JoinP (S.print_writer_stmt_k3 Φ (.ptr id 0) (.fptr x.cells) Q) [] H2 := by
  intro H2 hb2 hk2
  simp only [JoinP_def, S.print_writer_stmt_k3, Ac.addr, Ac.s7, Do_of]
  refine commas_puts hT hB hex (exprs_all hT hB _ hexs) hb2 fun H3 hb3 hk3 => ?_
  simp only [Ac.addr, Ac.s0, Do_of, abin_neq, Gd3_true]
  have k2 : ∀ b : Bool, (b = false ↔ x.kind = 8 ∨ x.kind = 9) → JoinP (S.print_writer_stmt_k2 Φ (.ptr id 0) (.fptr x.cells) Q) [.bool b] H3 := by
   intro b hbb
   simp only [JoinP_def, S.print_writer_stmt_k2, sl_zero, Gd_true]
   refine bool_ite8 (fun h5 => ?_) (fun h5 => ?_)
   · have hk : ¬ (x.kind = 8 ∨ x.kind = 9) := fun e => by rw [hbb.2 e] at h5; cases h5
     refine put1 hT hB hb3 (by decide) fun H4 hb4 hk4 => ?_
     refine hQ H4 ?_ (hk2.trans (hk3.trans hk4))
     rw [if_neg hk]
     simpa only [runW_cons, runW_app, runW_nil] using hb4
   · rw [if_pos (hbb.1 h5)] at hQ
     simp only [S.print_writer_stmt_k1, Ac.addr, Ac.s8, Do_of]
     refine block_puts hT hB htl ht hb3 fun H4 hb4 hk4 => ?_
     simp only [Ac.s9, Do_of, lstA_len', abin_gtr, Gd_true]
     refine bool_ite8 (fun h6 => ?_) (fun h6 => ?_)
     · have h0 : ¬ x.els.length = 0 := by simp only [decide_eq_true_eq] at h6; omega
       refine put1 hT hB hb4 (by decide) fun H5 hb5 hk5 => ?_
       refine block_puts hT hB hel he hb5 fun H6 hb6 hk6 => ?_
       refine hQ H6 ?_ (hk2.trans (hk3.trans (hk4.trans (hk5.trans hk6))))
       rw [if_neg h0]
       simpa only [runW_cons, runW_app, runW_nil] using hb6
     · have h0 : x.els.length = 0 := by simp only [decide_eq_false_iff_not] at h6; omega
       refine hQ H4 ?_ (hk2.trans (hk3.trans hk4))
       rw [if_pos h0]
       simpa only [runW_cons, runW_app, runW_nil] using hb4
  refine bool_ite8 (fun h5 => ?_) (fun h5 => ?_)
  · refine k2 _ ?_
    have : x.kind ≠ 8 := by simpa using h5
    simp [this]
  · refine k2 _ ?_
    have : x.kind = 8 := by simpa using h5
    simp [this]
 have fin : ∀ (H2 : AH) (ws : List Wd), BldAt T U H2 id (runW ws (w1 st (ofW (i64w (x.kind - 1)) stmWL))) → KeepB H id H2 → ws = headW x.kind x.order x.name x.name2 x.place → JoinP (S.print_writer_stmt_k3 Φ (.ptr id 0) (.fptr x.cells) Q) [] H2 := by
  intro H2 ws hb2 hk2 hws
  rw [hws] at hb2
  exact k3 H2 hb2 hk2
 have k4 : ∀ b : Bool, (b = true ↔ x.kind = 4 ∨ x.kind = 6) → ¬ (x.kind = 1 ∨ x.kind = 2) → x.kind ≠ 3 → JoinP (S.print_writer_stmt_k4 Φ (.ptr id 0) (.fptr x.cells) (.int .i64 x.kind) Q) [.bool b] H1 := by
  intro b hbb n12 n3
  simp only [JoinP_def, S.print_writer_stmt_k4, sl_zero, Gd_true, Ac.addr, Ac.s4, Do_of, abin_eql]
  refine bool_ite8 (fun h5 => ?_) (fun h5 => ?_)
  · have hk := hbb.1 h5
    refine order_puts hT hB x.order hb1 fun H2 hb2 hk2 => ?_
    simp only [Ac.s5, Do_of]
    refine hP hb2 fun H3 hb3 hk3 => ?_
    refine put1 hT hB hb3 (by decide) fun H4 hb4 hk4 => ?_
    refine fin H4 (orderW x.order :: (x.place.W ++ [[61]])) ?_ (hk1.trans (hk2.trans (hk3.trans hk4))) ?_
    · simpa only [runW_cons, runW_app, runW_nil, i64w] using hb4
    · unfold headW; rw [if_neg n12, if_neg n3, if_pos hk]
  · have hk : ¬ (x.kind = 4 ∨ x.kind = 6) := fun e => by rw [hbb.2 e] at h5; cases h5
    refine bool_ite8 (fun h6 => ?_) (fun h6 => ?_)
    · have h5' : x.kind = 5 := by simpa using h6
      refine order_puts hT hB x.order hb1 fun H2 hb2 hk2 => ?_
      simp only [Ac.s5, Do_of]
      refine hP hb2 fun H3 hb3 hk3 => ?_
      simp only [Ac.s2, Ac.s3, Do_of]
      refine put2 hT hB hb3 hname hname2 fun H4 hb4 hk4 => ?_
      refine fin H4 (orderW x.order :: (x.place.W ++ [x.name, x.name2])) ?_ (hk1.trans (hk2.trans (hk3.trans hk4))) ?_
      · simpa only [runW_cons, runW_app, runW_nil, i64w] using hb4
      · unfold headW; rw [if_neg n12, if_neg n3, if_neg hk, if_pos h5']
    · have h5' : x.kind ≠ 5 := by simpa using h6
      refine bool_ite8 (fun h7 => ?_) (fun h7 => ?_)
      · have h7' : x.kind = 7 := by simpa using h7
        refine order_puts hT hB x.order hb1 fun H2 hb2 hk2 => ?_
        refine fin H2 [orderW x.order] ?_ (hk1.trans hk2) ?_
        · simpa only [runW_cons, runW_app, runW_nil, i64w] using hb2
        · unfold headW; rw [if_neg n12, if_neg n3, if_neg hk, if_neg h5', if_pos h7']
      · have h7' : x.kind ≠ 7 := by simpa using h7
        refine fin H1 [] ?_ hk1 ?_
        · simpa only [runW_cons, runW_app, runW_nil, i64w] using hb1
        · unfold headW; rw [if_neg n12, if_neg n3, if_neg hk, if_neg h5', if_neg h7']
 have k5 : ∀ b : Bool, (b = true ↔ x.kind = 1 ∨ x.kind = 2) → JoinP (S.print_writer_stmt_k5 Φ (.ptr id 0) (.fptr x.cells) (.int .i64 x.kind) Q) [.bool b] H1 := by
  intro b hbb
  simp only [JoinP_def, S.print_writer_stmt_k5, sl_zero, Gd_true, Ac.addr, Ac.s2, Ac.s5, Do_of, abin_eql]
  refine bool_ite8 (fun h5 => ?_) (fun h5 => ?_)
  · have hk := hbb.1 h5
    refine put2 hT hB hb1 hname (by decide) fun H4 hb4 hk4 => ?_
    refine fin H4 [x.name, [61]] ?_ (hk1.trans hk4) ?_
    · simpa only [runW_cons, runW_app, runW_nil, i64w] using hb4
    · unfold headW; rw [if_pos hk]
  · have n12 : ¬ (x.kind = 1 ∨ x.kind = 2) := fun e => by rw [hbb.2 e] at h5; cases h5
    refine bool_ite8 (fun h6 => ?_) (fun h6 => ?_)
    · have h3 : x.kind = 3 := by simpa using h6
      refine hP hb1 fun H3 hb3 hk3 => ?_
      refine put1 hT hB hb3 (by decide) fun H4 hb4 hk4 => ?_
      refine fin H4 (x.place.W ++ [[61]]) ?_ (hk1.trans (hk3.trans hk4)) ?_
      · simpa only [runW_cons, runW_app, runW_nil, i64w] using hb4
      · unfold headW; rw [if_neg n12, if_pos h3]
    · have n3 : x.kind ≠ 3 := by simpa using h6
      refine bool_ite8 (fun h7 => ?_) (fun h7 => ?_)
      · have h4 : x.kind = 4 := by simpa using h7
        rw [h7]
        exact k4 _ (by simp [h4]) n12 n3
      · have h4 : x.kind ≠ 4 := by simpa using h7
        exact k4 _ (by simp [h4]) n12 n3
 simp only [abin_eql, Do_of, Gd_true]
 refine bool_ite8 (fun h5 => ?_) (fun h5 => ?_)
 · have : x.kind = 1 := by simpa using h5
   rw [h5]
   exact k5 _ (by simp [this])
 · have : x.kind ≠ 1 := by simpa using h5
   exact k5 _ (by simp [this])
mutual
theorem stmt_all (hT : Cl Φ S.tab_Lex) (hB : BKit Φ T U) : ∀ x : GStmt, x.pok → Puts Φ T U id K.print_writer_stmt [.ptr id 0, .agg x.cells] x.W
 | .mk kind line name name2 order place exprs thn els, h => by
  have h' := h
  rw [GStmt.pok] at h'
  exact stmt_puts hT hB h (stmts_all hT hB thn h'.2.2.2.2.2.2.1) (stmts_all hT hB els h'.2.2.2.2.2.2.2.2)
theorem stmts_all (hT : Cl Φ S.tab_Lex) (hB : BKit Φ T U) : ∀ xs : List GStmt, GStmt.poks xs → ∀ x ∈ xs, Puts Φ T U id K.print_writer_stmt [.ptr id 0, .agg x.cells] x.W
 | [], _ => fun t ht => by cases ht
 | x :: r, h => fun t ht => by
  rcases List.mem_cons.1 ht with e | e
  · rw [e]; exact stmt_all hT hB x h.1
  · exact stmts_all hT hB r h.2 t e
end
end
end Rb

set_option linter.unusedVariables false
set_option linter.unusedSimpArgs false
set_option linter.unusedSectionVars false
namespace Rb
open Go
def Says (Φ : Calls') (key : Nat) (args : List AV) (P : Prop) : Prop := ∀ (H : AH) (Q : Post), (∀ b H', (b = true ↔ P) → Q (.bool b) H') → Φ key args H Q
theorem and_yes {b b2 : Bool} {P R : Prop} (hb : b = true ↔ P) (ht : b = true) (h2 : b2 = true ↔ R) : b2 = true ↔ P ∧ R := by rw [h2]; exact ⟨fun h => ⟨hb.1 ht, h⟩, fun h => h.2⟩
theorem and_no {b : Bool} {P R : Prop} (hb : b = true ↔ P) (hf : b = false) : false = true ↔ P ∧ R := ⟨fun h => (by cases h), fun h => by rw [hb.2 h.1] at hf; cases hf⟩
def EqFL (sz : Nat) (zs : List AV) (Φ : Calls') (a0 : AV) (a1 : AV) (a2 : AV) (x4 : AV) (Q : Post) : (List AV × AH) → ((List AV × AH) → Prop) → Prop := fun s5 L6 =>
 Do (abin .lss (sl s5.1 0) x4) fun x7 =>
 Gd x7 true (
 Do (aiaddr none sz a0 (sl s5.1 0)) fun x8 =>
 Do (aload s5.2 sz true x8) fun x9 =>
 DoH (some (abox s5.2 true zs)) fun x10 H11 =>
 Do (astore H11 sz x10 x9) fun H12 =>
 Do (aiaddr none sz a1 (sl s5.1 0)) fun x13 =>
 Do (aload H12 sz true x13) fun x14 =>
 DoH (some (abox H12 true zs)) fun x15 H16 =>
 Do (astore H16 sz x15 x14) fun H17 =>
 Do (aload H17 sz true x10) fun x18 =>
 Do (aload H17 sz true x15) fun x19 =>
 ∃ k22 c23, a2 = .fn k22 c23 ∧ Φ (fkey k22) (fargs k22 [x18, x19] c23) H17 fun x20 H21 =>
 Do (aun .not x20) fun x24 =>
 Gd x24 true (
 Q (.bool false) H21) (
 Do (abin .add (sl s5.1 0) (.int .i64 1)) fun x25 =>
 L6 ([x25], H21))) (
 Q (.bool true) s5.2)
def EqF (sz : Nat) (zs : List AV) (Φ : Calls') (a0 : AV) (a1 : AV) (a2 : AV) (H : AH) (Q : Post) : Prop :=
 Do (alen false a0) fun x1 =>
 Do (alen false a1) fun x2 =>
 Do (abin .neq x1 x2) fun x3 =>
 Gd x3 true (
 Q (.bool false) H) (
 Do (alen false a0) fun x4 =>
 LoopP (EqFL sz zs Φ a0 a1 a2 x4 Q) ([(.int .i64 0)], H))
section
variable {Φ : Calls'} {H : AH} {Q : Post}
theorem EqF_ok {α β : Type} {cells : α → List AV} {sz : Nat} {zs : List AV} (hc : ∀ x, (cells x).length = sz) (hs : ∀ x, (cells x).all AV.scalar = true) (hz : 0 < sz) (hzl : zs.length = sz) {g : α → β} {key : Nat} (hkey : bkey key = none) {xs ys : List α}
  (hf : ∀ x ∈ xs, ∀ y ∈ ys, Says Φ key [.agg (cells x), .agg (cells y)] (g x = g y)) (hl : xs.length ≤ 9223372036854775807) (hQ : ∀ b H', (b = true ↔ xs.map g = ys.map g) → Q (.bool b) H') :
  EqF sz zs Φ (lstA cells xs) (lstA cells ys) (.fn key []) H Q := by
 unfold EqF
 simp only [lstA_len', Do_of, abin_neq, Gd_true]
 refine bool_ite8 (fun h => ?_) (fun h => ?_)
 · have : xs.length ≠ ys.length := by intro e; rw [e] at h; simp at h
   exact hQ _ _ ⟨fun h => (by cases h), fun e => absurd (by have := congrArg List.length e; simpa using this) this⟩
 have hlen : xs.length = ys.length := by have : ((xs.length : Int) = ys.length) := by simpa using h
                                         omega
 have main : ∀ (us vs : List α) (i : Nat) (H1 : AH), xs.drop i = us → ys.drop i = vs → (us.map g = vs.map g ↔ xs.map g = ys.map g) →
   LoopP (EqFL sz zs Φ (lstA cells xs) (lstA cells ys) (.fn key []) (.int .i64 xs.length) Q) ([.int .i64 i], H1) := by
  intro us
  induction us with
  | nil =>
   intro vs i H1 hi hj hr
   have hle := drop_nil_le hi
   have hvs : vs = [] := by rw [← hj]; exact List.drop_eq_nil_of_le (by omega)
   refine LoopP.step ?_
   simp only [EqFL, sl_zero, abin_lss, Do_of, Gd_true]
   rw [if_neg (by simp only [decide_eq_true_eq]; omega)]
   exact hQ _ _ ⟨fun _ => hr.1 (by rw [hvs]), fun _ => rfl⟩
  | cons u us ih =>
   intro vs i H1 hi hj hr
   obtain ⟨hlt, hy, hd⟩ := drop_cons_lt hi
   cases vs with
   | nil => have := drop_nil_le hj; omega
   | cons v vs =>
    obtain ⟨hlt2, hy2, hd2⟩ := drop_cons_lt hj
    refine LoopP.step ?_
    simp only [EqFL, sl_zero, abin_lss, Do_of, Gd_true]
    rw [if_pos (by simp only [decide_eq_true_eq]; omega), lstA_addr hlt]
    simp only [Do_of]
    rw [elA_load hc hz H1 hy]
    simp only [Do_of, DoH_some, abox, if_true]
    rw [store_new H1 zs (cells u) sz (hc u) (hs u) hzl]
    simp only [Do_of]
    rw [lstA_addr hlt2]
    simp only [Do_of]
    rw [elA_load hc hz _ hy2]
    simp only [Do_of]
    rw [store_new _ zs (cells v) sz (hc v) (hs v) hzl]
    simp only [Do_of]
    have r1 : ((H1.push (.row (cells u))).push (.row (cells v))).o H1.n = .row (cells u) := by rw [AH.push_ne _ _ (by show H1.n ≠ H1.n + 1; omega)]; exact AH.push_self _ _
    rw [Ac.rowl r1, takeCells_whole (hc u)]
    simp only [Do_of, load_push]
    rw [takeCells_whole (hc v)]
    simp only [Do_of]
    refine ⟨key, [], rfl, ?_⟩
    rw [fkey_none hkey, fargs_none hkey, List.append_nil]
    refine hf u (List.mem_of_getElem? hy) v (List.mem_of_getElem? hy2) _ _ fun b H2 hb => ?_
    simp only [aun_not, Do_of, Gd_true, abin_add]
    refine bool_ite8 (fun h => ?_) (fun h => ?_)
    · have hbf : b = false := by simpa using h
      refine hQ _ _ ⟨fun h => (by cases h), fun e => ?_⟩
      have := hr.2 e
      rw [List.map_cons, List.map_cons] at this
      rw [hb.2 (List.cons.inj this).1] at hbf
      cases hbf
    · have hbt : b = true := by simpa using h
      rw [wrap_i64 (by omega) (by omega), show ((i : Int) + 1) = ((i + 1 : Nat) : Int) by simp]
      refine ih vs (i + 1) H2 hd hd2 ?_
      rw [← hr, List.map_cons, List.map_cons, hb.1 hbt]
      simp
 exact main xs ys 0 H rfl rfl Iff.rfl
theorem eqf_type (Φ : Calls') (a0 a1 a2 : AV) (H : AH) (Q : Post) : S.slices_EqualFunc___api_Type___api_Type_api_Type_api_Type_ Φ a0 a1 a2 H Q = EqF 6 [.int .i64 0, .int .i64 0, .bool false, .lst .nil 0 [], .int .i64 0, .lst .nil 0 []] Φ a0 a1 a2 H Q := rfl
theorem eqf_field (Φ : Calls') (a0 a1 a2 : AV) (H : AH) (Q : Post) : S.slices_EqualFunc___api_Field___api_Field_api_Field_api_Field_ Φ a0 a1 a2 H Q = EqF 9 [.str [], .int .i64 0, .int .i64 0, .bool false, .lst .nil 0 [], .int .i64 0, .lst .nil 0 [], .bool false, .int .i64 0] Φ a0 a1 a2 H Q := rfl
theorem eqf_var (Φ : Calls') (a0 a1 a2 : AV) (H : AH) (Q : Post) : S.slices_EqualFunc___api_Var___api_Var_api_Var_api_Var_ Φ a0 a1 a2 H Q = EqF 7 [.str [], .int .i64 0, .int .i64 0, .bool false, .lst .nil 0 [], .int .i64 0, .lst .nil 0 []] Φ a0 a1 a2 H Q := rfl
theorem eqf_expr (Φ : Calls') (a0 a1 a2 : AV) (H : AH) (Q : Post) : S.slices_EqualFunc___api_Expr___api_Expr_api_Expr_api_Expr_ Φ a0 a1 a2 H Q = EqF 8 [.int .i64 0, .int .u64 0, .str [], .int .i64 0, .int .i64 0, .str [], .lst .nil 0 [], .lst .nil 0 []] Φ a0 a1 a2 H Q := rfl
theorem eqf_part (Φ : Calls') (a0 a1 a2 : AV) (H : AH) (Q : Post) : S.slices_EqualFunc___api_Part___api_Part_api_Part_api_Part_ Φ a0 a1 a2 H Q = EqF 2 [.str [], .lst .nil 0 []] Φ a0 a1 a2 H Q := rfl
theorem eqf_stmt (Φ : Calls') (a0 a1 a2 : AV) (H : AH) (Q : Post) : S.slices_EqualFunc___api_Stmt___api_Stmt_api_Stmt_api_Stmt_ Φ a0 a1 a2 H Q = EqF 10 [.int .i64 0, .int .i64 0, .str [], .str [], .int .i64 0, .str [], .lst .nil 0 [], .lst .nil 0 [], .lst .nil 0 [], .lst .nil 0 []] Φ a0 a1 a2 H Q := rfl
theorem eqI (a b : Int) : (a == b) = true ↔ a = b := beq_iff_eq
theorem eqS (a b : List UInt8) : (a == b) = true ↔ a = b := beq_iff_eq
theorem eqB2 (a b : Bool) : (a == b) = true ↔ a = b := beq_iff_eq
theorem seql (a b : List UInt8) : abin .eql (.str a) (.str b) = some (.bool (a == b)) := rfl
theorem beqF (x y : Bool) : abeq false (.bool x) (.bool y) = some (.bool (x == y)) := rfl
theorem sameType_says (hT : Cl Φ S.tab_Lex) {a b : GType} (hal : a.elem.length ≤ maxLen) (hfl : a.fields.length ≤ maxLen)
  (he : ∀ x ∈ a.elem, ∀ y ∈ b.elem, Says Φ K.print_sameType [.agg x.cells, .agg y.cells] (x = y)) (hf : ∀ x ∈ a.fields, ∀ y ∈ b.fields, Says Φ K.print_sameType_c1 [.agg x.cells, .agg y.cells] (x = y)) :
  Says Φ K.print_sameType [.agg a.cells, .agg b.cells] (a = b) := by
 intro H Q hQ
 refine S.cl_print_sameType hT ?_
 have hall : ∀ c H', (c = true ↔ (((((a.kind = b.kind ∧ a.size = b.size) ∧ a.packed = b.packed) ∧ a.count = b.count) ∧ a.elem = b.elem) ∧ a.fields = b.fields)) → Q (.bool c) H' := fun c H' h => hQ c H' (h.trans (by
   cases a; cases b
   simp only [GType.mk.injEq]
   constructor
   · rintro ⟨⟨⟨⟨⟨h1, h2⟩, h3⟩, h4⟩, h5⟩, h6⟩; exact ⟨h1, h2, h3, h6, h4, h5⟩
   · rintro ⟨h1, h2, h3, h6, h4, h5⟩; exact ⟨⟨⟨⟨⟨h1, h2⟩, h3⟩, h4⟩, h5⟩, h6⟩))
 unfold maxLen at hal hfl
 unfold S.print_sameType
 simp only [Ac.tbox, DoH_some, Ac.addr, Ac.t0, Ac.t1, Do_of, abin_eql, Gd3_true]
 have k1 : ∀ (c : Bool) (H : AH), (c = true ↔ ((((a.kind = b.kind ∧ a.size = b.size) ∧ a.packed = b.packed) ∧ a.count = b.count) ∧ a.elem = b.elem)) → JoinP (S.print_sameType_k1 Φ (.fptr a.cells) (.fptr b.cells) Q) [.bool c] H := by
  intro c H hc
  simp only [JoinP_def, S.print_sameType_k1, sl_zero, Gd3_true, Ac.addr, Ac.t3, Do_of]
  refine bool_ite8 (fun h => ?_) (fun h => ?_)
  · refine S.cl_slices_EqualFunc___api_Field___api_Field_api_Field_api_Field_ hT ?_
    rw [eqf_field]
    refine EqF_ok (g := id) GField.len GField.scalar (by decide) rfl rfl hf (by omega) fun c2 H2 h2 => ?_
    exact hall _ _ (and_yes hc h (by simpa using h2))
  · exact hall _ _ (and_no hc h)
 have k2 : ∀ (c : Bool) (H : AH), (c = true ↔ (((a.kind = b.kind ∧ a.size = b.size) ∧ a.packed = b.packed) ∧ a.count = b.count)) → JoinP (S.print_sameType_k2 Φ (.fptr a.cells) (.fptr b.cells) Q) [.bool c] H := by
  intro c H hc
  simp only [JoinP_def, S.print_sameType_k2, sl_zero, Gd3_true, Ac.addr, Ac.t5, Do_of]
  refine bool_ite8 (fun h => ?_) (fun h => ?_)
  · refine S.cl_slices_EqualFunc___api_Type___api_Type_api_Type_api_Type_ hT ?_
    rw [eqf_type]
    refine EqF_ok (g := id) GType.len GType.scalar (by decide) rfl rfl he (by omega) fun c2 H2 h2 => ?_
    exact k1 _ _ (and_yes hc h (by simpa using h2))
  · exact k1 _ _ (and_no hc h)
 have k3 : ∀ (c : Bool) (H : AH), (c = true ↔ ((a.kind = b.kind ∧ a.size = b.size) ∧ a.packed = b.packed)) → JoinP (S.print_sameType_k3 Φ (.fptr a.cells) (.fptr b.cells) Q) [.bool c] H := by
  intro c H hc
  simp only [JoinP_def, S.print_sameType_k3, sl_zero, Gd3_true, Ac.addr, Ac.t4, Do_of, abin_eql]
  refine bool_ite8 (fun h => ?_) (fun h => ?_)
  · exact k2 _ _ (and_yes hc h (eqI _ _))
  · exact k2 _ _ (and_no hc h)
 have k4 : ∀ (c : Bool) (H : AH), (c = true ↔ (a.kind = b.kind ∧ a.size = b.size)) → JoinP (S.print_sameType_k4 Φ (.fptr a.cells) (.fptr b.cells) Q) [.bool c] H := by
  intro c H hc
  simp only [JoinP_def, S.print_sameType_k4, sl_zero, Gd3_true, Ac.addr, Ac.t2, Do_of, beqF]
  refine bool_ite8 (fun h => ?_) (fun h => ?_)
  · exact k3 _ _ (and_yes hc h (eqB2 _ _))
  · exact k3 _ _ (and_no hc h)
 refine bool_ite8 (fun h => ?_) (fun h => ?_)
 · exact k4 _ _ (and_yes (eqI _ _) h (eqI _ _))
 · exact k4 _ _ (and_no (eqI _ _) h)
theorem sameField_says (hT : Cl Φ S.tab_Lex) {a b : GField} (he : Says Φ K.print_sameType [.agg a.type.cells, .agg b.type.cells] (a.type = b.type)) :
  Says Φ K.print_sameType_c1 [.agg a.cells, .agg b.cells] (a = b) := by
 intro H Q hQ
 refine S.cl_print_sameType_c1 hT ?_
 have hall : ∀ c H', (c = true ↔ (((a.name = b.name ∧ a.bits = b.bits) ∧ a.width = b.width) ∧ a.type = b.type)) → Q (.bool c) H' := fun c H' h => hQ c H' (h.trans (by
   cases a; cases b
   simp only [GField.mk.injEq]
   constructor
   · rintro ⟨⟨⟨h1, h2⟩, h3⟩, h4⟩; exact ⟨h1, h4, h2, h3⟩
   · rintro ⟨h1, h4, h2, h3⟩; exact ⟨⟨⟨h1, h2⟩, h3⟩, h4⟩))
 unfold S.print_sameType_c1
 simp only [Ac.fbox, DoH_some, Ac.addr, Ac.f0, Ac.f7, Do_of, seql, Gd3_true, beqF]
 have k1 : ∀ (c : Bool) (H : AH), (c = true ↔ ((a.name = b.name ∧ a.bits = b.bits) ∧ a.width = b.width)) → JoinP (S.print_sameType_c1_k1 Φ (.fptr a.cells) (.fptr b.cells) Q) [.bool c] H := by
  intro c H hc
  simp only [JoinP_def, S.print_sameType_c1_k1, sl_zero, Gd3_true, Ac.addr, Ac.f1, Do_of]
  refine bool_ite8 (fun h => ?_) (fun h => ?_)
  · exact he _ _ fun c2 H2 h2 => hall _ _ (and_yes hc h h2)
  · exact hall _ _ (and_no hc h)
 have k2 : ∀ (c : Bool) (H : AH), (c = true ↔ (a.name = b.name ∧ a.bits = b.bits)) → JoinP (S.print_sameType_c1_k2 Φ (.fptr a.cells) (.fptr b.cells) Q) [.bool c] H := by
  intro c H hc
  simp only [JoinP_def, S.print_sameType_c1_k2, sl_zero, Gd3_true, Ac.addr, Ac.f8, Do_of, abin_eql]
  refine bool_ite8 (fun h => ?_) (fun h => ?_)
  · exact k1 _ _ (and_yes hc h (eqI _ _))
  · exact k1 _ _ (and_no hc h)
 refine bool_ite8 (fun h => ?_) (fun h => ?_)
 · exact k2 _ _ (and_yes (eqS _ _) h (eqB2 _ _))
 · exact k2 _ _ (and_no (eqS _ _) h)
mutual
def GType.fin : GType → Prop
 | .mk _ _ _ fields _ elem => (elem.length ≤ maxLen ∧ fields.length ≤ maxLen) ∧ GField.fins fields ∧ GType.fins elem
def GType.fins : List GType → Prop
 | [] => True
 | x :: r => GType.fin x ∧ GType.fins r
def GField.fin : GField → Prop
 | .mk _ type _ _ => type.fin
def GField.fins : List GField → Prop
 | [] => True
 | x :: r => GField.fin x ∧ GField.fins r
end
mutual
theorem GType.ok_fin : ∀ x : GType, x.ok → x.fin
 | .mk kind size packed fields count elem, h => by
  rw [GType.ok] at h
  rw [GType.fin]
  exact ⟨⟨h.2.2.2.2.2.1, h.2.2.1⟩, GField.oks_fins _ h.2.2.2.1, GType.oks_fins _ h.2.2.2.2.2.2⟩
theorem GType.oks_fins : ∀ xs : List GType, GType.oks xs → GType.fins xs
 | [], _ => trivial
 | x :: r, h => ⟨GType.ok_fin x h.1, GType.oks_fins r h.2⟩
theorem GField.ok_fin : ∀ x : GField, x.ok → x.fin
 | .mk name type bits width, h => by
  rw [GField.ok] at h
  rw [GField.fin]
  exact GType.ok_fin _ h.2.1
theorem GField.oks_fins : ∀ xs : List GField, GField.oks xs → GField.fins xs
 | [], _ => trivial
 | x :: r, h => ⟨GField.ok_fin x h.1, GField.oks_fins r h.2⟩
end
mutual
theorem sameType_all (hT : Cl Φ S.tab_Lex) : ∀ a : GType, a.fin → ∀ b : GType, Says Φ K.print_sameType [.agg a.cells, .agg b.cells] (a = b)
 | .mk kind size packed fields count elem, h, b => by
  rw [GType.fin] at h
  exact sameType_says hT h.1.1 h.1.2 (fun x hx y _ => sameTypes_all hT elem h.2.2 x hx y) (fun x hx y _ => sameFields_all hT fields h.2.1 x hx y)
theorem sameTypes_all (hT : Cl Φ S.tab_Lex) : ∀ ls : List GType, GType.fins ls → ∀ a ∈ ls, ∀ b : GType, Says Φ K.print_sameType [.agg a.cells, .agg b.cells] (a = b)
 | [], _ => fun a ha => by cases ha
 | x :: r, h => fun a ha => by
  rcases List.mem_cons.1 ha with e | e
  · rw [e]; exact sameType_all hT x h.1
  · exact sameTypes_all hT r h.2 a e
theorem sameField_all (hT : Cl Φ S.tab_Lex) : ∀ a : GField, a.fin → ∀ b : GField, Says Φ K.print_sameType_c1 [.agg a.cells, .agg b.cells] (a = b)
 | .mk name type bits width, h, b => by
  rw [GField.fin] at h
  exact sameField_says hT (sameType_all hT type h b.type)
theorem sameFields_all (hT : Cl Φ S.tab_Lex) : ∀ ls : List GField, GField.fins ls → ∀ a ∈ ls, ∀ b : GField, Says Φ K.print_sameType_c1 [.agg a.cells, .agg b.cells] (a = b)
 | [], _ => fun a ha => by cases ha
 | x :: r, h => fun a ha => by
  rcases List.mem_cons.1 ha with e | e
  · rw [e]; exact sameField_all hT x h.1
  · exact sameFields_all hT r h.2 a e
end
end
end Rb

set_option linter.unusedVariables false
set_option linter.unusedSimpArgs false
set_option linter.unusedSectionVars false
namespace Rb
open Go
mutual
def GExpr.fin : GExpr → Prop
 | .mk _ _ _ _ _ place kids => kids.length ≤ maxLen ∧ GPlace.fin place ∧ GExpr.fins kids
def GExpr.fins : List GExpr → Prop
 | [] => True
 | x :: r => GExpr.fin x ∧ GExpr.fins r
def GPlace.fin : GPlace → Prop
 | .mk _ parts => parts.length ≤ maxLen ∧ GPart.fins parts
def GPart.fin : GPart → Prop
 | .mk _ index => index.length ≤ maxLen ∧ GExpr.fins index
def GPart.fins : List GPart → Prop
 | [] => True
 | x :: r => GPart.fin x ∧ GPart.fins r
end
mutual
theorem GExpr.ok_fin : ∀ x : GExpr, x.ok → x.fin
 | .mk kind n name op order place kids, h => by
  rw [GExpr.ok] at h
  rw [GExpr.fin]
  exact ⟨h.2.2.2.2.2.2.1, GPlace.ok_fin place h.2.2.2.2.2.1, GExpr.oks_fins kids h.2.2.2.2.2.2.2⟩
theorem GExpr.oks_fins : ∀ xs : List GExpr, GExpr.oks xs → GExpr.fins xs
 | [], _ => trivial
 | x :: r, h => ⟨GExpr.ok_fin x h.1, GExpr.oks_fins r h.2⟩
theorem GPlace.ok_fin : ∀ x : GPlace, x.ok → x.fin
 | .mk var parts, h => by
  rw [GPlace.ok] at h
  rw [GPlace.fin]
  exact ⟨h.2.1, GPart.oks_fins parts h.2.2⟩
theorem GPart.ok_fin : ∀ x : GPart, x.ok → x.fin
 | .mk field index, h => by
  rw [GPart.ok] at h
  rw [GPart.fin]
  exact ⟨h.2.1, GExpr.oks_fins index h.2.2⟩
theorem GPart.oks_fins : ∀ xs : List GPart, GPart.oks xs → GPart.fins xs
 | [], _ => trivial
 | x :: r, h => ⟨GPart.ok_fin x h.1, GPart.oks_fins r h.2⟩
end
mutual
def GStmt.fin : GStmt → Prop
 | .mk _ _ _ _ _ place exprs thn els => place.fin ∧ (exprs.length ≤ maxLen ∧ GExpr.fins exprs) ∧ (thn.length ≤ maxLen ∧ GStmt.fins thn) ∧ (els.length ≤ maxLen ∧ GStmt.fins els)
def GStmt.fins : List GStmt → Prop
 | [] => True
 | x :: r => GStmt.fin x ∧ GStmt.fins r
end
theorem GStmt.fins_iff : ∀ {xs : List GStmt}, GStmt.fins xs ↔ ∀ x ∈ xs, x.fin
 | [] => by simp [GStmt.fins]
 | x :: r => by simp [GStmt.fins, GStmt.fins_iff (xs := r)]
mutual
theorem GStmt.ok_fin : ∀ x : GStmt, x.ok → x.fin
 | .mk kind line name name2 order place exprs thn els, h => by
  rw [GStmt.ok] at h
  rw [GStmt.fin]
  obtain ⟨_, _, h1, h2, _, h3, h4, h5, h6, h7, h8, h9⟩ := h
  exact ⟨GPlace.ok_fin _ h3, ⟨h4, GExpr.oks_fins _ h5⟩, ⟨h6, GStmt.oks_fins thn h7⟩, ⟨h8, GStmt.oks_fins els h9⟩⟩
theorem GStmt.oks_fins : ∀ xs : List GStmt, GStmt.oks xs → GStmt.fins xs
 | [], _ => trivial
 | x :: r, h => ⟨GStmt.ok_fin x h.1, GStmt.oks_fins r h.2⟩
end
def GProg.fin (p : GProg) : Prop := (p.vars.length ≤ maxLen ∧ ∀ v ∈ p.vars, v.type.fin) ∧ p.threads.length ≤ maxLen ∧ ∀ t ∈ p.threads, t.length ≤ maxLen ∧ ∀ s ∈ t, s.fin
theorem GProg.ok_fin {p : GProg} (h : p.ok) : p.fin :=
 ⟨⟨h.1.1, fun v hv => GType.ok_fin _ (h.1.2 v hv).2⟩, h.2.1, fun t ht => ⟨(h.2.2 t ht).1, fun s hs => GStmt.ok_fin _ ((h.2.2 t ht).2 s hs)⟩⟩
section
variable {Φ : Calls'} {H : AH} {Q : Post}
theorem samePlace_says (hT : Cl Φ S.tab_Lex) {a b : GPlace} (hl : a.parts.length ≤ maxLen) (he : ∀ x ∈ a.parts, ∀ y ∈ b.parts, Says Φ K.print_samePlace_c1 [.agg x.cells, .agg y.cells] (x = y)) :
  Says Φ K.print_samePlace [.agg a.cells, .agg b.cells] (a = b) := by
 intro H Q hQ
 refine S.cl_print_samePlace hT ?_
 have hall : ∀ c H', (c = true ↔ (a.var = b.var ∧ a.parts = b.parts)) → Q (.bool c) H' := fun c H' h => hQ c H' (h.trans (by
   cases a; cases b
   simp only [GPlace.mk.injEq]))
 unfold maxLen at hl
 unfold S.print_samePlace
 simp only [Ac.lbox, DoH_some, Ac.addr, Ac.l0, Ac.l1, Do_of, seql, Gd3_true]
 refine bool_ite8 (fun h => ?_) (fun h => ?_)
 · refine S.cl_slices_EqualFunc___api_Part___api_Part_api_Part_api_Part_ hT ?_
   rw [eqf_part]
   refine EqF_ok (g := id) GPart.len GPart.scalar (by decide) rfl rfl he (by omega) fun c2 H2 h2 => ?_
   exact hall _ _ (and_yes (eqS _ _) h (by simpa using h2))
 · exact hall _ _ (and_no (eqS _ _) h)
theorem samePart_says (hT : Cl Φ S.tab_Lex) {a b : GPart} (hl : a.index.length ≤ maxLen) (he : ∀ x ∈ a.index, ∀ y ∈ b.index, Says Φ K.print_sameExpr [.agg x.cells, .agg y.cells] (x = y)) :
  Says Φ K.print_samePlace_c1 [.agg a.cells, .agg b.cells] (a = b) := by
 intro H Q hQ
 refine S.cl_print_samePlace_c1 hT ?_
 have hall : ∀ c H', (c = true ↔ (a.field = b.field ∧ a.index = b.index)) → Q (.bool c) H' := fun c H' h => hQ c H' (h.trans (by
   cases a; cases b
   simp only [GPart.mk.injEq]))
 unfold maxLen at hl
 unfold S.print_samePlace_c1
 simp only [Ac.pbox, DoH_some, Ac.addr, Ac.p0, Ac.p1, Do_of, seql, Gd3_true]
 refine bool_ite8 (fun h => ?_) (fun h => ?_)
 · refine S.cl_slices_EqualFunc___api_Expr___api_Expr_api_Expr_api_Expr_ hT ?_
   rw [eqf_expr]
   refine EqF_ok (g := id) GExpr.len GExpr.scalar (by decide) rfl rfl he (by omega) fun c2 H2 h2 => ?_
   exact hall _ _ (and_yes (eqS _ _) h (by simpa using h2))
 · exact hall _ _ (and_no (eqS _ _) h)
theorem sameExpr_says (hT : Cl Φ S.tab_Lex) {a b : GExpr} (hl : a.kids.length ≤ maxLen) (hp : Says Φ K.print_samePlace [.agg a.place.cells, .agg b.place.cells] (a.place = b.place))
  (he : ∀ x ∈ a.kids, ∀ y ∈ b.kids, Says Φ K.print_sameExpr [.agg x.cells, .agg y.cells] (x = y)) : Says Φ K.print_sameExpr [.agg a.cells, .agg b.cells] (a = b) := by
 intro H Q hQ
 refine S.cl_print_sameExpr hT ?_
 have hall : ∀ c H', (c = true ↔ ((((((a.kind = b.kind ∧ a.n = b.n) ∧ a.name = b.name) ∧ a.op = b.op) ∧ a.order = b.order) ∧ a.place = b.place) ∧ a.kids = b.kids)) → Q (.bool c) H' := fun c H' h => hQ c H' (h.trans (by
   cases a; cases b
   simp only [GExpr.mk.injEq, and_assoc]))
 unfold maxLen at hl
 unfold S.print_sameExpr
 simp only [Ac.ebox, DoH_some, Ac.addr, Ac.e0, Ac.e1, Do_of, abin_eql, Gd3_true]
 have k1 : ∀ (c : Bool) (H : AH), (c = true ↔ (((((a.kind = b.kind ∧ a.n = b.n) ∧ a.name = b.name) ∧ a.op = b.op) ∧ a.order = b.order) ∧ a.place = b.place)) → JoinP (S.print_sameExpr_k1 Φ (.fptr a.cells) (.fptr b.cells) Q) [.bool c] H := by
  intro c H hc
  simp only [JoinP_def, S.print_sameExpr_k1, sl_zero, Gd3_true, Ac.addr, Ac.e7, Do_of]
  refine bool_ite8 (fun h => ?_) (fun h => ?_)
  · refine S.cl_slices_EqualFunc___api_Expr___api_Expr_api_Expr_api_Expr_ hT ?_
    rw [eqf_expr]
    refine EqF_ok (g := id) GExpr.len GExpr.scalar (by decide) rfl rfl he (by omega) fun c2 H2 h2 => ?_
    exact hall _ _ (and_yes hc h (by simpa using h2))
  · exact hall _ _ (and_no hc h)
 have k2 : ∀ (c : Bool) (H : AH), (c = true ↔ ((((a.kind = b.kind ∧ a.n = b.n) ∧ a.name = b.name) ∧ a.op = b.op) ∧ a.order = b.order)) → JoinP (S.print_sameExpr_k2 Φ (.fptr a.cells) (.fptr b.cells) Q) [.bool c] H := by
  intro c H hc
  simp only [JoinP_def, S.print_sameExpr_k2, sl_zero, Gd3_true, Ac.addr, Ac.e5, Do_of]
  refine bool_ite8 (fun h => ?_) (fun h => ?_)
  · exact hp _ _ fun c2 H2 h2 => k1 _ _ (and_yes hc h h2)
  · exact k1 _ _ (and_no hc h)
 have k3 : ∀ (c : Bool) (H : AH), (c = true ↔ (((a.kind = b.kind ∧ a.n = b.n) ∧ a.name = b.name) ∧ a.op = b.op)) → JoinP (S.print_sameExpr_k3 Φ (.fptr a.cells) (.fptr b.cells) Q) [.bool c] H := by
  intro c H hc
  simp only [JoinP_def, S.print_sameExpr_k3, sl_zero, Gd3_true, Ac.addr, Ac.e4, Do_of, abin_eql]
  refine bool_ite8 (fun h => ?_) (fun h => ?_)
  · exact k2 _ _ (and_yes hc h (eqI _ _))
  · exact k2 _ _ (and_no hc h)
 have k4 : ∀ (c : Bool) (H : AH), (c = true ↔ ((a.kind = b.kind ∧ a.n = b.n) ∧ a.name = b.name)) → JoinP (S.print_sameExpr_k4 Φ (.fptr a.cells) (.fptr b.cells) Q) [.bool c] H := by
  intro c H hc
  simp only [JoinP_def, S.print_sameExpr_k4, sl_zero, Gd3_true, Ac.addr, Ac.e3, Do_of, abin_eql]
  refine bool_ite8 (fun h => ?_) (fun h => ?_)
  · exact k3 _ _ (and_yes hc h (eqI _ _))
  · exact k3 _ _ (and_no hc h)
 have k5 : ∀ (c : Bool) (H : AH), (c = true ↔ (a.kind = b.kind ∧ a.n = b.n)) → JoinP (S.print_sameExpr_k5 Φ (.fptr a.cells) (.fptr b.cells) Q) [.bool c] H := by
  intro c H hc
  simp only [JoinP_def, S.print_sameExpr_k5, sl_zero, Gd3_true, Ac.addr, Ac.e2, Do_of, seql]
  refine bool_ite8 (fun h => ?_) (fun h => ?_)
  · exact k4 _ _ (and_yes hc h (eqS _ _))
  · exact k4 _ _ (and_no hc h)
 refine bool_ite8 (fun h => ?_) (fun h => ?_)
 · exact k5 _ _ (and_yes (eqI _ _) h (eqI _ _))
 · exact k5 _ _ (and_no (eqI _ _) h)
mutual
theorem sameExpr_all (hT : Cl Φ S.tab_Lex) : ∀ a : GExpr, a.fin → ∀ b : GExpr, Says Φ K.print_sameExpr [.agg a.cells, .agg b.cells] (a = b)
 | .mk kind n name op order place kids, h, b => by
  rw [GExpr.fin] at h
  exact sameExpr_says hT h.1 (samePlace_all hT place h.2.1 b.place) (fun x hx y _ => sameExprs_all hT kids h.2.2 x hx y)
theorem sameExprs_all (hT : Cl Φ S.tab_Lex) : ∀ ls : List GExpr, GExpr.fins ls → ∀ a ∈ ls, ∀ b : GExpr, Says Φ K.print_sameExpr [.agg a.cells, .agg b.cells] (a = b)
 | [], _ => fun a ha => by cases ha
 | x :: r, h => fun a ha => by
  rcases List.mem_cons.1 ha with e | e
  · rw [e]; exact sameExpr_all hT x h.1
  · exact sameExprs_all hT r h.2 a e
theorem samePlace_all (hT : Cl Φ S.tab_Lex) : ∀ a : GPlace, a.fin → ∀ b : GPlace, Says Φ K.print_samePlace [.agg a.cells, .agg b.cells] (a = b)
 | .mk var parts, h, b => by
  rw [GPlace.fin] at h
  exact samePlace_says hT h.1 (fun x hx y _ => sameParts_all hT parts h.2 x hx y)
theorem samePart_all (hT : Cl Φ S.tab_Lex) : ∀ a : GPart, a.fin → ∀ b : GPart, Says Φ K.print_samePlace_c1 [.agg a.cells, .agg b.cells] (a = b)
 | .mk field index, h, b => by
  rw [GPart.fin] at h
  exact samePart_says hT h.1 (fun x hx y _ => sameExprs_all hT index h.2 x hx y)
theorem sameParts_all (hT : Cl Φ S.tab_Lex) : ∀ ls : List GPart, GPart.fins ls → ∀ a ∈ ls, ∀ b : GPart, Says Φ K.print_samePlace_c1 [.agg a.cells, .agg b.cells] (a = b)
 | [], _ => fun a ha => by cases ha
 | x :: r, h => fun a ha => by
  rcases List.mem_cons.1 ha with e | e
  · rw [e]; exact samePart_all hT x h.1
  · exact sameParts_all hT r h.2 a e
end
theorem ers_map : ∀ l : List GStmt, GStmt.ers l = l.map GStmt.er
 | [] => rfl
 | x :: r => by rw [GStmt.ers, ers_map r]; rfl
theorem er_iff (a b : GStmt) : a.er = b.er ↔ (((((((a.kind = b.kind ∧ a.name = b.name) ∧ a.name2 = b.name2) ∧ a.order = b.order) ∧ a.place = b.place) ∧ a.exprs = b.exprs) ∧ a.thn.map GStmt.er = b.thn.map GStmt.er) ∧ a.els.map GStmt.er = b.els.map GStmt.er) := by
 cases a; cases b
 simp only [GStmt.er, GStmt.mk.injEq, ers_map, and_assoc, true_and]
theorem sameStmt_says (hT : Cl Φ S.tab_Lex) {a b : GStmt} (hl : a.exprs.length ≤ maxLen) (htl : a.thn.length ≤ maxLen) (hel : a.els.length ≤ maxLen)
  (hp : Says Φ K.print_samePlace [.agg a.place.cells, .agg b.place.cells] (a.place = b.place)) (he : ∀ x ∈ a.exprs, ∀ y ∈ b.exprs, Says Φ K.print_sameExpr [.agg x.cells, .agg y.cells] (x = y))
  (ht : ∀ x ∈ a.thn, ∀ y ∈ b.thn, Says Φ K.print_sameStmt [.agg x.cells, .agg y.cells] (x.er = y.er)) (hs : ∀ x ∈ a.els, ∀ y ∈ b.els, Says Φ K.print_sameStmt [.agg x.cells, .agg y.cells] (x.er = y.er)) :
  Says Φ K.print_sameStmt [.agg a.cells, .agg b.cells] (a.er = b.er) := by
 intro H Q hQ
 refine S.cl_print_sameStmt hT ?_
 have hall : ∀ c H', (c = true ↔ (((((((a.kind = b.kind ∧ a.name = b.name) ∧ a.name2 = b.name2) ∧ a.order = b.order) ∧ a.place = b.place) ∧ a.exprs = b.exprs) ∧ a.thn.map GStmt.er = b.thn.map GStmt.er) ∧ a.els.map GStmt.er = b.els.map GStmt.er)) → Q (.bool c) H' := fun c H' h => hQ c H' (h.trans (er_iff a b).symm)
 unfold maxLen at hl htl hel
 unfold S.print_sameStmt
 simp only [Ac.sbox, DoH_some, Ac.addr, Ac.s0, Ac.s2, Do_of, abin_eql, Gd3_true, seql]
 have k1 : ∀ (c : Bool) (H : AH), (c = true ↔ ((((((a.kind = b.kind ∧ a.name = b.name) ∧ a.name2 = b.name2) ∧ a.order = b.order) ∧ a.place = b.place) ∧ a.exprs = b.exprs) ∧ a.thn.map GStmt.er = b.thn.map GStmt.er)) → JoinP (S.print_sameStmt_k1 Φ (.fptr a.cells) (.fptr b.cells) Q) [.bool c] H := by
  intro c H hc
  simp only [JoinP_def, S.print_sameStmt_k1, sl_zero, Gd3_true, Ac.addr, Ac.s9, Do_of]
  refine bool_ite8 (fun h => ?_) (fun h => ?_)
  · refine S.cl_slices_EqualFunc___api_Stmt___api_Stmt_api_Stmt_api_Stmt_ hT ?_
    rw [eqf_stmt]
    refine EqF_ok (g := GStmt.er) GStmt.len GStmt.scalar (by decide) rfl rfl hs (by omega) fun c2 H2 h2 => ?_
    exact hall _ _ (and_yes hc h h2)
  · exact hall _ _ (and_no hc h)
 have k2 : ∀ (c : Bool) (H : AH), (c = true ↔ (((((a.kind = b.kind ∧ a.name = b.name) ∧ a.name2 = b.name2) ∧ a.order = b.order) ∧ a.place = b.place) ∧ a.exprs = b.exprs)) → JoinP (S.print_sameStmt_k2 Φ (.fptr a.cells) (.fptr b.cells) Q) [.bool c] H := by
  intro c H hc
  simp only [JoinP_def, S.print_sameStmt_k2, sl_zero, Gd3_true, Ac.addr, Ac.s8, Do_of]
  refine bool_ite8 (fun h => ?_) (fun h => ?_)
  · refine S.cl_slices_EqualFunc___api_Stmt___api_Stmt_api_Stmt_api_Stmt_ hT ?_
    rw [eqf_stmt]
    refine EqF_ok (g := GStmt.er) GStmt.len GStmt.scalar (by decide) rfl rfl ht (by omega) fun c2 H2 h2 => ?_
    exact k1 _ _ (and_yes hc h h2)
  · exact k1 _ _ (and_no hc h)
 have k3 : ∀ (c : Bool) (H : AH), (c = true ↔ ((((a.kind = b.kind ∧ a.name = b.name) ∧ a.name2 = b.name2) ∧ a.order = b.order) ∧ a.place = b.place)) → JoinP (S.print_sameStmt_k3 Φ (.fptr a.cells) (.fptr b.cells) Q) [.bool c] H := by
  intro c H hc
  simp only [JoinP_def, S.print_sameStmt_k3, sl_zero, Gd3_true, Ac.addr, Ac.s7, Do_of]
  refine bool_ite8 (fun h => ?_) (fun h => ?_)
  · refine S.cl_slices_EqualFunc___api_Expr___api_Expr_api_Expr_api_Expr_ hT ?_
    rw [eqf_expr]
    refine EqF_ok (g := id) GExpr.len GExpr.scalar (by decide) rfl rfl he (by omega) fun c2 H2 h2 => ?_
    exact k2 _ _ (and_yes hc h (by simpa using h2))
  · exact k2 _ _ (and_no hc h)
 have k4 : ∀ (c : Bool) (H : AH), (c = true ↔ (((a.kind = b.kind ∧ a.name = b.name) ∧ a.name2 = b.name2) ∧ a.order = b.order)) → JoinP (S.print_sameStmt_k4 Φ (.fptr a.cells) (.fptr b.cells) Q) [.bool c] H := by
  intro c H hc
  simp only [JoinP_def, S.print_sameStmt_k4, sl_zero, Gd3_true, Ac.addr, Ac.s5, Do_of]
  refine bool_ite8 (fun h => ?_) (fun h => ?_)
  · exact hp _ _ fun c2 H2 h2 => k3 _ _ (and_yes hc h h2)
  · exact k3 _ _ (and_no hc h)
 have k5 : ∀ (c : Bool) (H : AH), (c = true ↔ ((a.kind = b.kind ∧ a.name = b.name) ∧ a.name2 = b.name2)) → JoinP (S.print_sameStmt_k5 Φ (.fptr a.cells) (.fptr b.cells) Q) [.bool c] H := by
  intro c H hc
  simp only [JoinP_def, S.print_sameStmt_k5, sl_zero, Gd3_true, Ac.addr, Ac.s4, Do_of, abin_eql]
  refine bool_ite8 (fun h => ?_) (fun h => ?_)
  · exact k4 _ _ (and_yes hc h (eqI _ _))
  · exact k4 _ _ (and_no hc h)
 have k6 : ∀ (c : Bool) (H : AH), (c = true ↔ (a.kind = b.kind ∧ a.name = b.name)) → JoinP (S.print_sameStmt_k6 Φ (.fptr a.cells) (.fptr b.cells) Q) [.bool c] H := by
  intro c H hc
  simp only [JoinP_def, S.print_sameStmt_k6, sl_zero, Gd3_true, Ac.addr, Ac.s3, Do_of, seql]
  refine bool_ite8 (fun h => ?_) (fun h => ?_)
  · exact k5 _ _ (and_yes hc h (eqS _ _))
  · exact k5 _ _ (and_no hc h)
 refine bool_ite8 (fun h => ?_) (fun h => ?_)
 · exact k6 _ _ (and_yes (eqI _ _) h (eqS _ _))
 · exact k6 _ _ (and_no (eqI _ _) h)
mutual
theorem sameStmt_all (hT : Cl Φ S.tab_Lex) : ∀ a : GStmt, a.fin → ∀ b : GStmt, Says Φ K.print_sameStmt [.agg a.cells, .agg b.cells] (a.er = b.er)
 | .mk kind line name name2 order place exprs thn els, h, b => by
  rw [GStmt.fin] at h
  obtain ⟨h1, ⟨h2, h3⟩, ⟨h4, h5⟩, h6, h7⟩ := h
  exact sameStmt_says hT h2 h4 h6 (samePlace_all hT place h1 b.place) (fun x hx y _ => sameExprs_all hT exprs h3 x hx y) (fun x hx y _ => sameStmts_all hT thn h5 x hx y) (fun x hx y _ => sameStmts_all hT els h7 x hx y)
theorem sameStmts_all (hT : Cl Φ S.tab_Lex) : ∀ ls : List GStmt, GStmt.fins ls → ∀ a ∈ ls, ∀ b : GStmt, Says Φ K.print_sameStmt [.agg a.cells, .agg b.cells] (a.er = b.er)
 | [], _ => fun a ha => by cases ha
 | x :: r, h => fun a ha => by
  rcases List.mem_cons.1 ha with e | e
  · rw [e]; exact sameStmt_all hT x h.1
  · exact sameStmts_all hT r h.2 a e
end
theorem sameVar_says (hT : Cl Φ S.tab_Lex) {a : GVar} (h : a.type.fin) (b : GVar) : Says Φ K.print_Same_c1 [.agg a.cells, .agg b.cells] (a = b) := by
 intro H Q hQ
 refine S.cl_print_Same_c1 hT ?_
 have hall : ∀ c H', (c = true ↔ (a.name = b.name ∧ a.type = b.type)) → Q (.bool c) H' := fun c H' h => hQ c H' (h.trans (by
   cases a; cases b
   simp only [GVar.mk.injEq]))
 unfold S.print_Same_c1
 simp only [Ac.vbox, DoH_some, Ac.addr, Ac.v0, Ac.v1, Do_of, seql, Gd3_true]
 refine bool_ite8 (fun h' => ?_) (fun h' => ?_)
 · exact sameType_all hT a.type h b.type _ _ fun c2 H2 h2 => hall _ _ (and_yes (eqS _ _) h' h2)
 · exact hall _ _ (and_no (eqS _ _) h')
theorem sameThr_says (hT : Cl Φ S.tab_Lex) {a : List GStmt} (hl : a.length ≤ maxLen) (h : ∀ s ∈ a, s.fin) (b : List GStmt) : Says Φ K.print_Same_c2 [lstA GStmt.cells a, lstA GStmt.cells b] (a.map GStmt.er = b.map GStmt.er) := by
 intro H Q hQ
 refine S.cl_print_Same_c2 hT ?_
 unfold maxLen at hl
 unfold S.print_Same_c2
 refine S.cl_slices_EqualFunc___api_Stmt___api_Stmt_api_Stmt_api_Stmt_ hT ?_
 rw [eqf_stmt]
 exact EqF_ok (g := GStmt.er) GStmt.len GStmt.scalar (by decide) rfl rfl (fun x hx y _ => sameStmts_all hT a (GStmt.fins_iff.2 h) x hx y) (by omega) hQ
theorem EqT_ok (hT : Cl Φ S.tab_Lex) {xs ys : List (List GStmt)} (hl : xs.length ≤ 9223372036854775807) (hf : ∀ t ∈ xs, t.length ≤ maxLen ∧ ∀ s ∈ t, s.fin) (hQ : ∀ b H', (b = true ↔ xs.map (List.map GStmt.er) = ys.map (List.map GStmt.er)) → Q (.bool b) H') :
  S.slices_EqualFunc_____api_Stmt_____api_Stmt___api_Stmt___api_Stmt_ Φ (lstA thrCells xs) (lstA thrCells ys) (.fn K.print_Same_c2 []) H Q := by
 unfold S.slices_EqualFunc_____api_Stmt_____api_Stmt___api_Stmt___api_Stmt_
 simp only [lstA_len', Do_of, abin_neq, Gd_true]
 refine bool_ite8 (fun h => ?_) (fun h => ?_)
 · have : xs.length ≠ ys.length := by intro e; rw [e] at h; simp at h
   exact hQ _ _ ⟨fun h => (by cases h), fun e => absurd (by have := congrArg List.length e; simpa using this) this⟩
 have hlen : xs.length = ys.length := by have : ((xs.length : Int) = ys.length) := by simpa using h
                                         omega
 have main : ∀ (us vs : List (List GStmt)) (i : Nat) (H1 : AH), xs.drop i = us → ys.drop i = vs → (us.map (List.map GStmt.er) = vs.map (List.map GStmt.er) ↔ xs.map (List.map GStmt.er) = ys.map (List.map GStmt.er)) →
   LoopP (S.slices_EqualFunc_____api_Stmt_____api_Stmt___api_Stmt___api_Stmt__l1 Φ (lstA thrCells xs) (lstA thrCells ys) (.fn K.print_Same_c2 []) (.int .i64 xs.length) Q) ([.int .i64 i], H1) := by
  intro us
  induction us with
  | nil =>
   intro vs i H1 hi hj hr
   have hle := drop_nil_le hi
   have hvs : vs = [] := by rw [← hj]; exact List.drop_eq_nil_of_le (by omega)
   refine LoopP.step ?_
   simp only [S.slices_EqualFunc_____api_Stmt_____api_Stmt___api_Stmt___api_Stmt__l1, sl_zero, abin_lss, Do_of, Gd_true]
   rw [if_neg (by simp only [decide_eq_true_eq]; omega)]
   exact hQ _ _ ⟨fun _ => hr.1 (by rw [hvs]), fun _ => rfl⟩
  | cons u us ih =>
   intro vs i H1 hi hj hr
   obtain ⟨hlt, hy, hd⟩ := drop_cons_lt hi
   cases vs with
   | nil => have := drop_nil_le hj; omega
   | cons v vs =>
    obtain ⟨hlt2, hy2, hd2⟩ := drop_cons_lt hj
    refine LoopP.step ?_
    simp only [S.slices_EqualFunc_____api_Stmt_____api_Stmt___api_Stmt___api_Stmt__l1, sl_zero, abin_lss, Do_of, Gd_true]
    rw [if_pos (by simp only [decide_eq_true_eq]; omega), lstA_addr hlt]
    simp only [Do_of]
    rw [Ac.thr H1 hy]
    simp only [Do_of]
    rw [lstA_addr hlt2]
    simp only [Do_of]
    rw [Ac.thr H1 hy2]
    simp only [Do_of]
    refine ⟨K.print_Same_c2, [], rfl, ?_⟩
    rw [fkey_none rfl, fargs_none rfl, List.append_nil]
    have hu := hf u (List.mem_of_getElem? hy)
    refine sameThr_says hT hu.1 hu.2 v _ _ fun b H2 hb => ?_
    simp only [aun_not, Do_of, Gd_true, abin_add]
    refine bool_ite8 (fun h => ?_) (fun h => ?_)
    · have hbf : b = false := by simpa using h
      refine hQ _ _ ⟨fun h => (by cases h), fun e => ?_⟩
      have := hr.2 e
      rw [List.map_cons, List.map_cons] at this
      rw [hb.2 (List.cons.inj this).1] at hbf
      cases hbf
    · have hbt : b = true := by simpa using h
      rw [wrap_i64 (by omega) (by omega), show ((i : Int) + 1) = ((i + 1 : Nat) : Int) by simp]
      refine ih vs (i + 1) H2 hd hd2 ?_
      rw [← hr, List.map_cons, List.map_cons, hb.1 hbt]
      simp
 exact main xs ys 0 H rfl rfl Iff.rfl
theorem Same_says (hT : Cl Φ S.tab_Lex) {p : GProg} (h : p.fin) (q : GProg) : Says Φ K.print_Same [.agg p.cells, .agg q.cells] (p.er = q.er) := by
 intro H Q hQ
 refine S.cl_print_Same hT ?_
 have hall : ∀ c H', (c = true ↔ (p.vars = q.vars ∧ p.threads.map (List.map GStmt.er) = q.threads.map (List.map GStmt.er))) → Q (.bool c) H' := fun c H' h => hQ c H' (h.trans (by
   have e : GStmt.ers = List.map GStmt.er := funext ers_map
   unfold GProg.er
   rw [GProg.mk.injEq, e]))
 obtain ⟨⟨h1, h2⟩, h3, h4⟩ := h
 unfold maxLen at h1 h3
 unfold S.print_Same
 simp only [Ac.gbox, DoH_some, Ac.addr, Ac.g0, Ac.g1, Do_of]
 refine S.cl_slices_EqualFunc___api_Var___api_Var_api_Var_api_Var_ hT ?_
 rw [eqf_var]
 refine EqF_ok (g := id) GVar.len GVar.scalar (by decide) rfl rfl (fun x hx y _ => sameVar_says hT (h2 x hx) y) (by omega) fun c H2 hc => ?_
 simp only [Gd3_true]
 have hc' : c = true ↔ p.vars = q.vars := by simpa using hc
 refine bool_ite8 (fun h => ?_) (fun h => ?_)
 · refine S.cl_slices_EqualFunc_____api_Stmt_____api_Stmt___api_Stmt___api_Stmt_ hT ?_
   exact EqT_ok hT (by omega) h4 fun c2 H3 hc2 => hall _ _ (and_yes hc' h hc2)
 · exact hall _ _ (and_no hc' h)
end
end Rb

set_option linter.unusedVariables false
set_option linter.unusedSimpArgs false
set_option linter.unusedSectionVars false
namespace Rb
open Go
section
variable {Φ : Calls'} {H : AH} {Q : Post} {id : Nat} {s : PSt}
theorem aidx_strs {l : List (List UInt8)} {i : Nat} {w : List UInt8} (h : l[i]? = some w) : aidx l.length 1 false (.agg (l.map .str)) (.int .i64 i) = some (.str w) := by
 have hlt := (List.getElem?_eq_some_iff.1 h).1
 simp only [aidx]
 rw [if_pos (by omega)]
 unfold takeCells
 rw [if_pos (by rw [List.length_map]; omega)]
 simp [List.getElem?_map, h]
theorem p_operator (hT : Cl Φ S.tab_Lex) {w : List UInt8} (hQ : Q (.int .i64 (operM w)) H) : Φ K.parse_operator [.str w] H Q := by
 refine S.cl_parse_operator hT ?_
 unfold S.parse_operator
 rw [show abuild _ _ = some (.agg (operL.map .str)) from rfl]
 simp only [Do_of]
 have main : ∀ (ys : List (List UInt8)) (i : Nat), operL.drop i = ys → Q (.int .i64 (match ys.findIdx? (· == w) with | some j => (j : Int) + i + 1 | none => 0)) H → LoopP (S.parse_operator_l1 Φ (.str w) (.agg (operL.map .str)) Q) ([.int .i64 i], H) := by
  intro ys
  induction ys with
  | nil =>
   intro i hi hq
   have hle : operL.length ≤ i := drop_nil_le hi
   refine LoopP.step ?_
   simp only [S.parse_operator_l1, sl_zero, abin_lss, Do_of, Gd_true]
   rw [if_neg (by simp only [decide_eq_true_eq]; have : operL.length = 11 := rfl; omega)]
   simpa using hq
  | cons y ys ih =>
   intro i hi hq
   obtain ⟨hlt, hy, hd⟩ := drop_cons_lt hi
   have h11 : operL.length = 11 := rfl
   refine LoopP.step ?_
   simp only [S.parse_operator_l1, sl_zero, abin_lss, Do_of, Gd_true]
   rw [if_pos (by simp only [decide_eq_true_eq]; omega)]
   have hx : aidx 11 1 false (.agg (operL.map .str)) (.int .i64 i) = some (.str y) := aidx_strs hy
   rw [hx]
   simp only [Do_of, str_eql, abin_add]
   rw [wrap_i64 (by omega) (by omega)]
   rw [List.findIdx?_cons] at hq
   refine ite_both (fun h => ?_) (fun h => ?_)
   · rw [if_pos h] at hq
     simpa using hq
   · rw [if_neg h] at hq
     rw [show ((i : Int) + 1) = ((i + 1 : Nat) : Int) by simp]
     refine ih (i + 1) hd ?_
     cases hf : List.findIdx? (· == w) ys with
     | none => rw [hf] at hq; exact hq
     | some j =>
      rw [hf] at hq
      simp only [Option.map_some] at hq ⊢
      rw [show ((j : Int) + ((i + 1 : Nat) : Int) + 1) = (((j + 1 : Nat) : Int) + i + 1) by omega]
      exact hq
 refine main operL 0 rfl ?_
 unfold operM at hQ
 cases hf : List.findIdx? (· == w) operL with
 | none => rw [hf] at hQ; exact hQ
 | some j => rw [hf] at hQ; simpa using hQ
def ordL : List (List UInt8) := [[114, 108, 120], [97, 99, 113], [114, 101, 108], [115, 99]]
theorem ord_step (hT : Cl Φ S.tab_Lex) {i : Nat} {w : List UInt8} (hi : ordL[i]? = some w) (h : PS H id s) (yes : s.isW w = true → ∀ H', KeepP id H H' → PS H' id s.adv → Q (.int .i64 ((i : Int) + 1)) H')
  (no : s.isW w = false → ∀ H', KeepP id H H' → PS H' id s → LoopP (S.parse_parser_order_l2 Φ (.ptr id 0) (.agg (ordL.map .str)) Q) ([.int .i64 ((i + 1 : Nat) : Int)], H')) :
  LoopP (S.parse_parser_order_l2 Φ (.ptr id 0) (.agg (ordL.map .str)) Q) ([.int .i64 i], H) := by
 have hlt : i < 4 := (List.getElem?_eq_some_iff.1 hi).1
 refine LoopP.step ?_
 simp only [S.parse_parser_order_l2, sl_zero, abin_lss, Do_of, Gd_true]
 rw [if_pos (by simp only [decide_eq_true_eq]; omega)]
 have hx : aidx 4 1 false (.agg (ordL.map .str)) (.int .i64 i) = some (.str w) := aidx_strs hi
 rw [hx]
 simp only [Do_of]
 refine p_is hT h fun H1 k p => ?_
 simp only [Gd_true, abin_add, Do_of]
 rw [wrap_i64 (by omega) (by omega)]
 refine ite_both (fun hy => ?_) (fun hy => ?_)
 · have e : s.isA w = s.adv := by unfold PSt.isA; rw [if_pos hy]
   rw [e] at p
   exact yes hy H1 k p
 · have e : s.isA w = s := by unfold PSt.isA; rw [if_neg hy]
   rw [e] at p
   have := no (by simpa using hy) H1 k p
   rw [show ((i : Int) + 1) = ((i + 1 : Nat) : Int) by simp]
   exact this
theorem p_order (hT : Cl Φ S.tab_Lex) (h : PS H id s) (hQ : ∀ H', KeepP id H H' → PS H' id (orderM s).2 → Q (.int .i64 (orderM s).1) H') : Φ K.parse_parser_order [.ptr id 0] H Q := by
 refine S.cl_parse_parser_order hT ?_
 unfold S.parse_parser_order
 rw [show abuild _ _ = some (.agg (ordL.map .str)) from rfl]
 simp only [Do_of]
 refine ord_step hT (i := 0) rfl h (fun hy H1 k1 p1 => ?_) fun n1 H1 k1 p1 => ?_
 · have e : orderM s = (1, s.adv) := by unfold orderM; rw [if_pos hy]
   rw [e] at hQ; exact hQ H1 k1 p1
 refine ord_step hT (i := 1) rfl p1 (fun hy H2 k2 p2 => ?_) fun n2 H2 k2 p2 => ?_
 · have e : orderM s = (2, s.adv) := by unfold orderM; rw [n1, if_neg (by decide), if_pos hy]
   rw [e] at hQ; exact hQ H2 (k1.trans k2) p2
 refine ord_step hT (i := 2) rfl p2 (fun hy H3 k3 p3 => ?_) fun n3 H3 k3 p3 => ?_
 · have e : orderM s = (3, s.adv) := by unfold orderM; rw [n1, n2, if_neg (by decide), if_neg (by decide), if_pos hy]
   rw [e] at hQ; exact hQ H3 ((k1.trans k2).trans k3) p3
 refine ord_step hT (i := 3) rfl p3 (fun hy H4 k4 p4 => ?_) fun n4 H4 k4 p4 => ?_
 · have e : orderM s = (4, s.adv) := by unfold orderM; rw [n1, n2, n3, if_neg (by decide), if_neg (by decide), if_neg (by decide), if_pos hy]
   rw [e] at hQ; exact hQ H4 (((k1.trans k2).trans k3).trans k4) p4
 have e : orderM s = (0, s.fail 4) := by unfold orderM; rw [n1, n2, n3, n4, if_neg (by decide), if_neg (by decide), if_neg (by decide), if_neg (by decide)]
 rw [e] at hQ
 refine LoopP.step ?_
 simp only [S.parse_parser_order_l2, sl_zero, abin_lss, Do_of, Gd_true]
 rw [if_neg (by decide)]
 simp only [JoinP_def, S.parse_parser_order_k1]
 exact p_fail hT p4 fun H5 k5 p5 => hQ H5 ((((k1.trans k2).trans k3).trans k4).trans k5) p5
end
end Rb

set_option linter.unusedVariables false
set_option linter.unusedSimpArgs false
set_option linter.unusedSectionVars false
namespace Rb
open Go
def Grow (H H' : AH) : Prop := H.n ≤ H'.n ∧ ∀ i o, At H i o → At H' i o
theorem Grow.push (H : AH) (x : AObj) : Grow H (H.push x) := ⟨Nat.le_succ _, fun i o h => h.push x⟩
theorem Grow.keep {H H' : AH} (h : Grow H H') (id : Nat) : KeepP id H H' := ⟨h.1, fun i o _ ho => h.2 i o ho⟩
theorem Grow.ps {H H' : AH} (h : Grow H H') {id : Nat} {s : PSt} (p : PS H id s) : PS H' id s := ⟨p.1, p.2.1, p.2.2.imp fun _ a => h.2 _ _ a⟩
def scalarT (w : List UInt8) : GType := match scalarM w with
 | some p => ⟨p.1, p.2, false, [], 0, []⟩
 | none => tyZ
section
variable {Φ : Calls'} {H : AH} {Q : Post} {id : Nat} {s : PSt}
theorem strs_addr {l : List (List UInt8)} {tk : Tok} {i : Nat} (hi : i < l.length) : aiaddr none 1 (.lst tk l.length (l.map .str)) (.int .i64 i) = some (.fptr ((l.map AV.str).drop i)) := by
 simp only [aiaddr]
 rw [if_pos ⟨by omega, by omega⟩]
 simp
theorem strs_load {l : List (List UInt8)} {i : Nat} {w : List UInt8} (h : l[i]? = some w) (H : AH) : aload H 1 false (.fptr ((l.map AV.str).drop i)) = some (.str w) := by
 have hlt := (List.getElem?_eq_some_iff.1 h).1
 show takeCells ((l.map AV.str).drop i) 0 1 false = _
 unfold takeCells
 rw [if_pos (by rw [List.length_drop, List.length_map]; omega)]
 simp [List.getElem?_drop, List.getElem?_map, h]
theorem p_scalar (hT : Cl Φ S.tab_Lex) (hW : Wk Φ) {w : List UInt8} (hQ : ∀ H', Grow H H' → Q (.tup [.agg (scalarT w).cells, .bool (scalarM w).isSome]) H') : Φ K.parse_scalar [.str w] H Q := by
 refine hW _ _ _ _ (S.cl_parse_scalar hT ?_)
 unfold S.parse_scalar
 simp only [abox, if_true, DoH_some]
 rw [show abslice (H.push (.row [.int .i64 0, .int .i64 0, .bool false, .lst .nil 0 [], .int .i64 0, .lst .nil 0 []])) false 1 4 [.str []] _ = some (.lst .full scL0.length (scL0.map .str), _) from rfl]
 simp only [DoH_some]
 rw [show abslice (H.push (.row [.int .i64 0, .int .i64 0, .bool false, .lst .nil 0 [], .int .i64 0, .lst .nil 0 []])) false 1 5 [.str []] _ = some (.lst .full scL1.length (scL1.map .str), _) from rfl]
 simp only [DoH_some]
 rw [show abuild [.lst .nil 0 [], .lst .nil 0 []] _ = some (.agg [.lst .full scL0.length (scL0.map .str), .lst .full scL1.length (scL1.map .str)]) from rfl]
 simp only [Do_of]
 have yes : ∀ (k m : Nat), m < 5 → k < 2 → scalarM w = some ((k : Int) + 1, 2 ^ m) → Q (.tup [.agg (AV.weaks [.int .i64 ((k : Int) + 1), .int .i64 (2 ^ m), .bool false, .lst .nil 0 [], .int .i64 0, .lst .nil 0 []]), .bool true]) (H.push (.row [.int .i64 ((k : Int) + 1), .int .i64 (2 ^ m), .bool false, .lst .nil 0 [], .int .i64 0, .lst .nil 0 []])) := by
  intro k m hm hk he
  have := hQ _ (Grow.push H (.row [.int .i64 ((k : Int) + 1), .int .i64 (2 ^ m), .bool false, .lst .nil 0 [], .int .i64 0, .lst .nil 0 []]))
  unfold scalarT at this
  rw [he] at this
  exact this
 have no : scalarM w = none → JoinP (S.parse_scalar_k3 Φ (.ptr H.n 0) fun v H' => Q v.weak H') [] (H.push (.row [.int .i64 0, .int .i64 0, .bool false, .lst .nil 0 [], .int .i64 0, .lst .nil 0 []])) := by
  intro he
  simp only [JoinP_def, S.parse_scalar_k3]
  rw [show abuild _ [] = some (.agg [.int .i64 0, .int .i64 0, .bool false, .lst .nil 0 [], .int .i64 0, .lst .nil 0 []]) from rfl]
  simp only [Do_of]
  rw [store_new H _ _ 6 rfl rfl rfl]
  simp only [Do_of, load_push]
  rw [takeCells_whole (n := 6) rfl]
  simp only [Do_of]
  have := hQ _ (Grow.push H (.row [.int .i64 0, .int .i64 0, .bool false, .lst .nil 0 [], .int .i64 0, .lst .nil 0 []]))
  unfold scalarT at this
  rw [he] at this
  exact this
 have inner : ∀ (L : List (List UInt8)) (k : Nat) (s10 : List AV × AH) (L11 : List AV × AH → Prop), L.length ≤ 5 → k < 2 → sl s10.1 0 = .int .i64 k →
   (∀ m, m < 5 → L.findIdx? (· == w) = some m → scalarM w = some ((k : Int) + 1, 2 ^ m)) →
   (L.findIdx? (· == w) = none → L11 ([.int .i64 ((k + 1 : Nat) : Int)], H.push (.row [.int .i64 0, .int .i64 0, .bool false, .lst .nil 0 [], .int .i64 0, .lst .nil 0 []]))) →
   LoopP (S.parse_scalar_l2 Φ (.str w) (.ptr H.n 0) (.lst .full L.length (L.map .str)) (.int .i64 L.length) s10 L11 fun v H' => Q v.weak H') ([.int .i64 0], H.push (.row [.int .i64 0, .int .i64 0, .bool false, .lst .nil 0 [], .int .i64 0, .lst .nil 0 []])) := by
  intro L k s10 L11 hL hk hs hyes hno
  have main : ∀ (ys : List (List UInt8)) (j : Nat), L.drop j = ys → (∀ m, ys.findIdx? (· == w) = some m → L.findIdx? (· == w) = some (m + j)) → (ys.findIdx? (· == w) = none → L.findIdx? (· == w) = none) →
    LoopP (S.parse_scalar_l2 Φ (.str w) (.ptr H.n 0) (.lst .full L.length (L.map .str)) (.int .i64 L.length) s10 L11 fun v H' => Q v.weak H') ([.int .i64 j], H.push (.row [.int .i64 0, .int .i64 0, .bool false, .lst .nil 0 [], .int .i64 0, .lst .nil 0 []])) := by
   intro ys
   induction ys with
   | nil =>
    intro j hj h1 h2
    have hle := drop_nil_le hj
    refine LoopP.step ?_
    simp only [S.parse_scalar_l2, sl_zero, abin_lss, Do_of, Gd_true]
    rw [if_neg (by simp only [decide_eq_true_eq]; omega)]
    simp only [JoinP_def, S.parse_scalar_k1, hs, abin_add, Do_of]
    rw [wrap_i64 (by omega) (by omega), show ((k : Int) + 1) = ((k + 1 : Nat) : Int) by simp]
    exact hno (h2 rfl)
   | cons y ys ih =>
    intro j hj h1 h2
    obtain ⟨hlt, hy, hd⟩ := drop_cons_lt hj
    refine LoopP.step ?_
    simp only [S.parse_scalar_l2, sl_zero, abin_lss, Do_of, Gd_true]
    rw [if_pos (by simp only [decide_eq_true_eq]; omega), strs_addr hlt]
    simp only [Do_of]
    rw [strs_load hy]
    simp only [Do_of, str_eql, hs, abin_add]
    rw [wrap_i64 (by omega) (by omega), wrap_i64 (by omega) (by omega)]
    rw [List.findIdx?_cons] at h1 h2
    refine ite_both (fun h => ?_) (fun h => ?_)
    · have hm := h1 0 (by rw [if_pos h])
      rw [Nat.zero_add] at hm
      rw [abin_shl _ _ _ _ (by omega)]
      have e2 : IntKind.wrap .i64 (1 * 2 ^ min ((j : Int)).toNat (IntKind.bits .i64)) = 2 ^ j := by
       have h5 : j = 0 ∨ j = 1 ∨ j = 2 ∨ j = 3 ∨ j = 4 := by omega
       rcases h5 with rfl | rfl | rfl | rfl | rfl <;> rfl
      rw [e2]
      simp only [Do_of]
      rw [show abuild _ _ = some (.agg [.int .i64 ((k : Int) + 1), .int .i64 (2 ^ j), .bool false, .lst .nil 0 [], .int .i64 0, .lst .nil 0 []]) from rfl]
      simp only [Do_of]
      rw [store_new H _ _ 6 rfl rfl rfl]
      simp only [Do_of, load_push]
      rw [takeCells_whole (n := 6) rfl]
      simp only [Do_of]
      exact yes k j (by omega) hk (hyes j (by omega) hm)
    · rw [if_neg h] at h1 h2
      rw [show ((j : Int) + 1) = ((j + 1 : Nat) : Int) by simp]
      refine ih (j + 1) hd (fun m hm => ?_) fun hn => h2 (by rw [hn]; rfl)
      have := h1 (m + 1) (by rw [hm]; rfl)
      rw [this]; congr 1; omega
  exact main L 0 rfl (fun m h => h) fun h => h
 refine LoopP.step ?_
 simp only [S.parse_scalar_l4, sl_zero, abin_lss, Do_of, Gd_true]
 rw [if_pos (by decide)]
 rw [show aidx 2 1 false (.agg [.lst .full scL0.length (scL0.map .str), .lst .full scL1.length (scL1.map .str)]) (.int .i64 0) = some (.lst .full scL0.length (scL0.map .str)) from rfl]
 simp only [Do_of, alen_lst]
 refine inner scL0 0 _ _ (by decide) (by decide) rfl (fun m hm h => ?_) fun h0 => ?_
 · unfold scalarM; rw [h]; rfl
 refine LoopP.step ?_
 simp only [S.parse_scalar_l4, sl_zero, abin_lss, Do_of, Gd_true]
 rw [if_pos (by decide)]
 rw [show aidx 2 1 false (.agg [.lst .full scL0.length (scL0.map .str), .lst .full scL1.length (scL1.map .str)]) (.int .i64 ((0 + 1 : Nat) : Int)) = some (.lst .full scL1.length (scL1.map .str)) from rfl]
 simp only [Do_of, alen_lst]
 refine inner scL1 1 _ _ (by decide) (by decide) rfl (fun m hm h => ?_) fun h1 => ?_
 · unfold scalarM; rw [h0, h]; rfl
 refine LoopP.step ?_
 simp only [S.parse_scalar_l4, sl_zero, abin_lss, Do_of, Gd_true]
 rw [if_neg (by decide)]
 exact no (by unfold scalarM; rw [h0, h1])
end
end Rb

set_option linter.unusedVariables false
set_option linter.unusedSimpArgs false
set_option linter.unusedSectionVars false
namespace Rb
open Go
def Sub (s s' : PSt) : Prop := (Wf s → Wf s') ∧ s'.toks.length ≤ s.toks.length ∧ (s.fk ≠ 0 → s'.fk ≠ 0)
theorem Sub.rfl (s : PSt) : Sub s s := ⟨id, Nat.le_refl _, id⟩
theorem Sub.trans {a b c : PSt} (h : Sub a b) (k : Sub b c) : Sub a c := ⟨fun w => k.1 (h.1 w), Nat.le_trans k.2.1 h.2.1, fun x => k.2.2 (h.2.2 x)⟩
theorem Sub.few {a b : PSt} (h : Sub a b) {n : Nat} (f : Few n a) : Few n b := f.imp h.2.2 fun l => Nat.le_trans h.2.1 l
theorem Sub.adv (s : PSt) : Sub s s.adv := ⟨Wf.adv, PSt.adv_len s, fun h => by rw [PSt.adv_fk]; exact h⟩
theorem Sub.fail (s : PSt) (e : Int) : Sub s (s.fail e) := ⟨fun h => h.fail e, by rw [PSt.fail_toks]; exact Nat.le_refl _, fun h => by unfold PSt.fail; rw [if_neg h]; exact h⟩
theorem Sub.isA (s : PSt) (w : List UInt8) : Sub s (s.isA w) := by
 unfold PSt.isA; split
 · exact Sub.adv s
 · exact Sub.rfl s
theorem Sub.want (s : PSt) (w : List UInt8) : Sub s (s.want w) := by
 unfold PSt.want; split
 · exact Sub.rfl s
 · split
   · exact Sub.adv s
   · exact Sub.fail s 4
theorem Sub.deep (s : PSt) (d : Int) : Sub s (s.deep d) := by
 unfold PSt.deep; split
 · exact Sub.fail s 5
 · exact Sub.rfl s
theorem Sub.order (s : PSt) : Sub s (orderM s).2 := by
 unfold orderM
 repeat' split
 all_goals first | exact Sub.adv s | exact Sub.fail s 4
section
variable (kw : List UInt8 → Bool) (val : List UInt8 → Int)
theorem Sub.nameS (s : PSt) : Sub s (s.nameS kw) := by
 unfold PSt.nameS; split
 · exact Sub.adv s
 · exact Sub.fail s 4
theorem Sub.num (s : PSt) (most : Int) : Sub s (s.num val most).2 := by
 unfold PSt.num; split
 · exact Sub.fail s 4
 · split
   · exact Sub.fail s 9
   · exact Sub.adv s
theorem Sub.field {ty : Int → PSt → GType × PSt} (h : ∀ d s, Sub s (ty d s).2) (d : Int) (s : PSt) : Sub s (fieldM kw val ty d s).2 := by
 have h1 : Sub s (if s.isW [95] = true then s.isA [95] else (s.isA [95]).nameS kw) := by
  split
  · exact Sub.isA _ _
  · exact (Sub.isA _ _).trans (Sub.nameS kw _)
 unfold fieldM
 dsimp only
 revert h1
 generalize (if s.isW [95] = true then s.isA [95] else (s.isA [95]).nameS kw) = s1
 generalize (if s.isW [95] = true then ([] : List UInt8) else (s.isA [95]).nameT kw) = nm
 intro h1
 split
 · exact (((h1.trans (h _ _)).trans (Sub.want _ _)).trans (Sub.num val _ _)).trans (Sub.want _ _)
 · exact (h1.trans (h _ _)).trans (Sub.want _ _)
theorem Sub.typs : ∀ n : Nat, (∀ d s, Sub s (typM kw val n d s).2) ∧ ∀ d s, Sub s (fldsM kw val n d s).2 := by
 intro n
 induction n with
 | zero => exact ⟨fun d s => by unfold typM; exact Sub.rfl s, fun d s => by unfold fldsM; exact Sub.rfl s⟩
 | succ n ih =>
  refine ⟨fun d s => ?_, fun d s => ?_⟩
  · unfold typM
    dsimp only
    split
    · exact Sub.deep _ _
    · split
      · exact (Sub.deep _ _).trans (Sub.adv _)
      · split
        · exact (Sub.deep _ _).trans (Sub.fail _ _)
        · split
          · exact ((((Sub.deep _ _).trans (Sub.adv _)).trans (Sub.num val _ _)).trans (Sub.want _ _)).trans (ih.1 _ _)
          · exact ((((Sub.deep _ _).trans (Sub.adv _)).trans (Sub.isA _ _)).trans (Sub.want _ _)).trans (ih.2 _ _)
  · unfold fldsM
    split
    · exact Sub.rfl s
    · split
      · exact Sub.adv s
      · exact (Sub.field kw val ih.1 d s).trans (ih.2 _ _)
theorem Sub.typ (n : Nat) (d : Int) (s : PSt) : Sub s (typM kw val n d s).2 := (Sub.typs kw val n).1 d s
theorem Sub.flds (n : Nat) (d : Int) (s : PSt) : Sub s (fldsM kw val n d s).2 := (Sub.typs kw val n).2 d s
theorem Sub.bin {ex : Int → PSt → GExpr × PSt} (h : ∀ d s, Sub s (ex d s).2) (d : Int) (s : PSt) : Sub s (binM ex d s).2 := by
 unfold binM
 dsimp only
 have h3 : Sub s (if (ex (x64 (d + 1)) s).2.fk = 0 ∧ operM (ex (x64 (d + 1)) s).2.hd.1 = 0 then (ex (x64 (d + 1)) s).2.fail 4 else (ex (x64 (d + 1)) s).2) := by
  split
  · exact (h _ _).trans (Sub.fail _ _)
  · exact h _ _
 refine (Sub.trans ?_ (h _ _)).trans (Sub.want _ _)
 revert h3
 generalize (if (ex (x64 (d + 1)) s).2.fk = 0 ∧ operM (ex (x64 (d + 1)) s).2.hd.1 = 0 then (ex (x64 (d + 1)) s).2.fail 4 else (ex (x64 (d + 1)) s).2) = s3
 intro h3
 split
 · exact h3.trans (Sub.adv _)
 · exact h3
theorem Sub.kids {ex : Int → PSt → GExpr × PSt} (h : ∀ d s, Sub s (ex d s).2) (d : Int) : ∀ (k : Nat) (s : PSt), Sub s (kidsM ex d k s).2
 | 0, s => Sub.rfl s
 | k + 1, s => (h _ _).trans (Sub.kids h d k _)
theorem Sub.place {pa : Int → PSt → List GPart × PSt} (h : ∀ d s, Sub s (pa d s).2) (d : Int) (s : PSt) : Sub s (placeM' kw pa d s).2 := (Sub.nameS kw s).trans (h _ _)
theorem Sub.acc {ex : Int → PSt → GExpr × PSt} {pa : Int → PSt → List GPart × PSt} (h : ∀ d s, Sub s (ex d s).2) (k : ∀ d s, Sub s (pa d s).2) (kind : Int) (m : Nat) (d : Int) (s : PSt) : Sub s (accM kw ex pa kind m d s).2 := by
 unfold accM
 dsimp only
 refine (Sub.trans ?_ (Sub.place kw k _ _)).trans (Sub.kids h _ _ _)
 split
 · exact Sub.rfl s
 · exact Sub.order s
theorem Sub.exprs : ∀ n : Nat, (∀ d s, Sub s (exprM kw val n d s).2) ∧ ∀ d s, Sub s (partsM kw val n d s).2 := by
 intro n
 induction n with
 | zero => exact ⟨fun d s => by unfold exprM; exact Sub.rfl s, fun d s => by unfold partsM; exact Sub.rfl s⟩
 | succ n ih =>
  refine ⟨fun d s => ?_, fun d s => ?_⟩
  · unfold exprM
    dsimp only
    refine (Sub.deep s d).trans ?_
    repeat' split
    all_goals first | exact Sub.rfl _ | exact Sub.num val _ _ | exact Sub.adv _ | exact Sub.fail _ _ | exact (Sub.adv _).trans (Sub.bin ih.1 _ _) | exact (Sub.adv _).trans (Sub.acc kw ih.1 ih.2 _ _ _ _)
  · unfold partsM
    dsimp only
    repeat' split
    all_goals first | exact Sub.rfl _ | exact ((Sub.adv _).trans (Sub.nameS kw _)).trans (ih.2 _ _) | exact (((Sub.adv _).trans (ih.1 _ _)).trans (Sub.want _ _)).trans (ih.2 _ _)
theorem Sub.expr (n : Nat) (d : Int) (s : PSt) : Sub s (exprM kw val n d s).2 := (Sub.exprs kw val n).1 d s
theorem Sub.parts (n : Nat) (d : Int) (s : PSt) : Sub s (partsM kw val n d s).2 := (Sub.exprs kw val n).2 d s
end
end Rb

set_option linter.unusedVariables false
set_option linter.unusedSimpArgs false
set_option linter.unusedSectionVars false
namespace Rb
open Go
theorem At.st {H : AH} {i : Nat} {cs : List AV} (h : At H i (.row cs)) {n o : Nat} {v : AV} (hk : v.known = true) (hl : v.cells.length = n) (hs : v.cells.all AV.scalar = true) (ho : o + n ≤ cs.length) : astore H n (.ptr i o) v = some (H.set i (.row (setCells cs o v.cells))) := by
 rw [h.store, if_pos ⟨hk, hl, hs, ho⟩]
def TypOK (Φ : Calls') (kw : List UInt8 → Bool) (val : List UInt8 → Int) (n : Nat) : Prop :=
 ∀ (H : AH) (Q : Post) (id : Nat) (s : PSt) (d : Int), PS H id s → Wf s → Few n s → (∀ H', KeepP id H H' → PS H' id (typM kw val n d s).2 → Q (.agg (typM kw val n d s).1.cells) H') → Φ K.parse_parser_typ [.ptr id 0, .int .i64 d] H Q
section
variable {Φ : Calls'} {H : AH} {Q : Post} {id : Nat} {s : PSt} {kw : List UInt8 → Bool} {val : List UInt8 → Int}
theorem lt_of_ps (h : PS H id s) : id < H.n := by obtain ⟨_, _, _, h⟩ := h; exact h.1
theorem p_field (hT : Cl Φ S.tab_Lex) (hW : Wk Φ) (hkw : ∀ x, Val Φ K.lex_Keyword [.str x] (.bool (kw x))) (hv : NumV Φ val) {n : Nat} (hty : TypOK Φ kw val n) {d : Int} (h : PS H id s) (hw : Wf s) (hf : Few (n + 1) s)
  (hQ : ∀ H', KeepP id H H' → PS H' id (fieldM kw val (fun d s => typM kw val n d s) d s).2 → Q (.agg (fieldM kw val (fun d s => typM kw val n d s) d s).1.cells) H') : Φ K.parse_parser_field [.ptr id 0, .int .i64 d] H Q := by
 refine hW _ _ _ _ (S.cl_parse_parser_field hT ?_)
 unfold S.parse_parser_field
 have hid := lt_of_ps h
 simp only [abox, if_true, DoH_some, AH.push_n]
 have zs : ∃ z : List AV, z = [.str [], .int .i64 0, .int .i64 0, .bool false, .lst .nil 0 [], .int .i64 0, .lst .nil 0 [], .bool false, .int .i64 0] := ⟨_, rfl⟩
 obtain ⟨z, hz⟩ := zs
 rw [← hz]
 have p2 : PS ((H.push (.row z)).push (.row z)) id s := (h.pushL _).pushL _
 have kk : KeepP id H ((H.push (.row z)).push (.row z)) := (KeepP.push id H _).pushL _
 have a3 : At ((H.push (.row z)).push (.row z)) (H.n + 1) (.row z) := At.new (H.push (.row z)) _
 have a1 : At ((H.push (.row z)).push (.row z)) H.n (.row z) := (At.new H _).push _
 refine p_is hT p2 fun H6 k6 p6 => ?_
 simp only [aun_not, Do_of, Gd_true]
 have k3 : ∀ (nm : List UInt8) (s1 : PSt) (H8 : AH), nm = (if s.isW [95] = true then [] else (s.isA [95]).nameT kw) → s1 = (if s.isW [95] = true then s.isA [95] else (s.isA [95]).nameS kw) → KeepP id H H8 → PS H8 id s1 →
   At H8 H.n (.row z) → At H8 (H.n + 1) (.row (.str nm :: [.int .i64 0, .int .i64 0, .bool false, .lst .nil 0 [], .int .i64 0, .lst .nil 0 [], .bool false, .int .i64 0])) → Wf s1 → Few n s1 →
   JoinP (S.parse_parser_field_k3 Φ (.ptr id 0) (.int .i64 d) (.ptr H.n 0) (.ptr (H.n + 1) 0) (.bool (s.isW [95])) fun v H' => Q v.weak H') [] H8 := by
  intro nm s1 H8 en es k8 p8 b1 b3 w1 f1
  simp only [JoinP_def, S.parse_parser_field_k3, abin_add, Do_of]
  refine hty _ _ _ _ _ p8 w1 f1 fun H16 k16 p16 => ?_
  have c1 := k16.2 _ _ (by omega) b1
  have c3 := k16.2 _ _ (by omega) b3
  have w2 := (Sub.typ kw val n (x64 (d + 1)) s1).1 w1
  generalize et : typM kw val n (x64 (d + 1)) s1 = t at p16 w2
  have ef : fieldM kw val (fun d s => typM kw val n d s) d s = (if s.isW [95] = true ∨ t.2.hd.1 = [58] then (⟨nm, t.1, true, x64 ((t.2.want [58]).num val 1073741824).1⟩, ((t.2.want [58]).num val 1073741824).2.want [59]) else (⟨nm, t.1, false, 0⟩, t.2.want [59])) := by
   unfold fieldM
   dsimp only
   rw [← es, ← en, et]
  rw [ef] at hQ
  have k0 := k8.trans k16
  simp only [afaddr, Do_of, Nat.zero_add]
  rw [c3.store, if_pos ⟨rfl, GType.len _, GType.scalar _, (by simp)⟩]
  simp only [Do_of, AV.cells]
  have er : setCells (.str nm :: [.int .i64 0, .int .i64 0, .bool false, .lst .nil 0 [], .int .i64 0, .lst .nil 0 [], .bool false, .int .i64 0]) 1 t.1.cells = .str nm :: (t.1.cells ++ [.bool false, .int .i64 0]) := by
   rw [GType.cells_eq]; rfl
  rw [er]
  have p18 := p16.setL (by omega) (i := H.n + 1) (.row (.str nm :: (t.1.cells ++ [.bool false, .int .i64 0])))
  have d3 := c3.set (.row (.str nm :: (t.1.cells ++ [.bool false, .int .i64 0])))
  have d1 := c1.set_ne (i := H.n + 1) (by omega) (.row (.str nm :: (t.1.cells ++ [.bool false, .int .i64 0])))
  have k18 := k0.setL (i := H.n + 1) (by omega) (.row (.str nm :: (t.1.cells ++ [.bool false, .int .i64 0])))
  generalize H16.set (H.n + 1) (.row (.str nm :: (t.1.cells ++ [.bool false, .int .i64 0]))) = H18 at p18 d3 d1 k18
  have k1 : ∀ (f : GField) (s3 : PSt) (H20 : AH), KeepP id H H20 → PS H20 id s3 → At H20 H.n (.row z) → At H20 (H.n + 1) (.row f.cells) → (∀ H', KeepP id H H' → PS H' id (s3.want [59]) → Q (.agg f.cells) H') →
    JoinP (S.parse_parser_field_k1 Φ (.ptr id 0) (.ptr H.n 0) (.ptr (H.n + 1) 0) fun v H' => Q v.weak H') [] H20 := by
   intro f s3 H20 k20 p20 e1 e3 hq
   simp only [JoinP_def, S.parse_parser_field_k1]
   refine p_want hT p20 fun H36 k36 p36 => ?_
   have g1 := k36.2 _ _ (by omega) e1
   have g3 := k36.2 _ _ (by omega) e3
   rw [g3.load, takeCells_whole (GField.len f)]
   simp only [Do_of]
   rw [g1.store, if_pos ⟨rfl, GField.len f, GField.scalar f, (by rw [hz]; simp)⟩]
   simp only [Do_of, AV.cells]
   rw [setCells_all (by rw [GField.len, hz]; rfl)]
   rw [(g1.set _).load]
   simp only [List.take_zero, List.nil_append]
   rw [takeCells_whole (GField.len f)]
   simp only [Do_of, AV.weak]
   rw [GField.weaks]
   exact hq _ ((k20.trans k36).setL (Nat.le_refl _) _) (p36.setL (by omega) _)
  have k2 : ∀ b : Bool, (b = true ↔ (s.isW [95] = true ∨ t.2.hd.1 = [58])) → JoinP (S.parse_parser_field_k2 Φ (.ptr id 0) (.ptr H.n 0) (.ptr (H.n + 1) 0) fun v H' => Q v.weak H') [.bool b] H18 := by
   intro b hb
   simp only [JoinP_def, S.parse_parser_field_k2, sl_zero, Gd_true]
   refine ite_both (fun hx => ?_) (fun hx => ?_)
   · rw [if_pos (hb.1 hx)] at hQ
     refine p_want hT p18 fun H27 k27 p27 => ?_
     have g1 := k27.2 _ _ (by omega) d1
     have g3 := k27.2 _ _ (by omega) d3
     simp only [afaddr, Do_of, Nat.zero_add]
     rw [g3.store, if_pos ⟨rfl, rfl, rfl, (by simp [GType.len])⟩]
     simp only [Do_of, AV.cells]
     have er2 : setCells (.str nm :: (t.1.cells ++ [.bool false, .int .i64 0])) 7 [.bool true] = .str nm :: (t.1.cells ++ [.bool true, .int .i64 0]) := by
      rw [GType.cells_eq]; rfl
     rw [er2]
     refine p_num hT hv (p27.setL (by omega) _) ((Sub.want _ _).1 w2) fun H31 k31 p31 => ?_
     have g3' := k31.2 _ _ (by omega) (g3.set (.row (.str nm :: (t.1.cells ++ [.bool true, .int .i64 0]))))
     have g1' := k31.2 _ _ (by omega) (g1.set_ne (i := H.n + 1) (by omega) (.row (.str nm :: (t.1.cells ++ [.bool true, .int .i64 0]))))
     simp only [aconv_int, Do_of]
     rw [g3'.store, if_pos ⟨rfl, rfl, rfl, (by simp [GType.len])⟩]
     simp only [Do_of, AV.cells]
     have er3 : setCells (.str nm :: (t.1.cells ++ [.bool true, .int .i64 0])) 8 [.int .i64 (x64 ((t.2.want [58]).num val 1073741824).1)] = (GField.cells ⟨nm, t.1, true, x64 ((t.2.want [58]).num val 1073741824).1⟩) := by
      rw [GField.cells_eq, GType.cells_eq]; rfl
     rw [er3]
     refine k1 _ _ _ ((((k18.trans k27).setL (by omega) _).trans k31).setL (by omega) _) (p31.setL (by omega) _) (g1'.set_ne (by omega) _) (g3'.set _) hQ
   · rw [if_neg (fun hc => hx (hb.2 hc))] at hQ
     refine k1 ⟨nm, t.1, false, 0⟩ _ _ k18 p18 d1 d3 hQ
  simp only [Gd3_false]
  refine ite_both (fun hx => ?_) (fun hx => ?_)
  · refine p_peek hT p18 ?_
    simp only [str_eql, Do_of]
    exact k2 _ (by rw [hx]; simp)
  · exact k2 _ (by simp only [Bool.not_eq_false] at hx; rw [hx]; simp)
 refine ite_both (fun hx => ?_) (fun hx => ?_)
 · have hn : s.isW [95] = false := by simpa using hx
   refine p_name hT hkw p6 fun H11 k11 p11 => ?_
   have g1 := k11.2 _ _ (by omega) (k6.2 _ _ (by omega) a1)
   have g3 := k11.2 _ _ (by omega) (k6.2 _ _ (by omega) a3)
   simp only [afaddr, Do_of, Nat.zero_add]
   rw [g3.store, if_pos ⟨rfl, rfl, rfl, (by rw [hz]; simp)⟩]
   simp only [Do_of, AV.cells]
   have e1 : s.isA [95] = s := by unfold PSt.isA; rw [hn, if_neg (by decide)]
   have hfew : Few n ((s.isA [95]).nameS kw) := by
    rw [e1]
    unfold PSt.nameS
    split
    · rename_i hy
      refine hf.read hw fun e => ?_
      unfold PSt.nameW at hy
      rw [e] at hy
      simp [lettersM] at hy
    · exact .inl (PSt.fail_fk s (by decide))
   refine k3 ((s.isA [95]).nameT kw) _ _ (by rw [hn, if_neg (by decide)]) (by rw [hn, if_neg (by decide)]) ((((kk.trans k6).trans k11).setL (by omega) _)) (p11.setL (by omega) _) (g1.set_ne (by omega) _) ?_ (((Sub.isA s _).trans (Sub.nameS kw _)).1 hw) hfew
   have := g3.set (.row (setCells z 0 [.str ((s.isA [95]).nameT kw)]))
   rw [hz] at this ⊢
   exact this
 · have hn : s.isW [95] = true := by simpa using hx
   have g1 := k6.2 _ _ (by omega) a1
   have g3 := k6.2 _ _ (by omega) a3
   refine k3 [] _ _ (by rw [hn, if_pos rfl]) (by rw [hn, if_pos rfl]) (kk.trans k6) p6 g1 (by rw [hz] at g3; exact g3) ((Sub.isA s _).1 hw) ?_
   have e1 : s.isA [95] = s.adv := by unfold PSt.isA; rw [hn, if_pos rfl]
   rw [e1]
   exact hf.isW hw hn (by decide)
end
end Rb

set_option linter.unusedVariables false
set_option linter.unusedSimpArgs false
set_option linter.unusedSectionVars false
namespace Rb
open Go
theorem Few.field {kw : List UInt8 → Bool} {val : List UInt8 → Int} {ty : Int → PSt → GType × PSt} (h : ∀ d s, Sub s (ty d s).2) {n : Nat} {d : Int} {s : PSt} (hf : Few (n + 1) s) (hw : Wf s) : Few n (fieldM kw val ty d s).2 := by
 have h1 : Few n (if s.isW [95] = true then s.isA [95] else (s.isA [95]).nameS kw) := by
  cases ho : s.isW [95] with
  | true =>
   rw [if_pos rfl]
   have e1 : s.isA [95] = s.adv := by unfold PSt.isA; rw [ho, if_pos rfl]
   rw [e1]; exact hf.isW hw ho (by decide)
  | false =>
   rw [if_neg (by decide)]
   have e1 : s.isA [95] = s := by unfold PSt.isA; rw [ho, if_neg (by decide)]
   rw [e1]
   unfold PSt.nameS
   split
   · rename_i hy
     refine hf.read hw fun e => ?_
     unfold PSt.nameW at hy
     rw [e] at hy
     simp [lettersM] at hy
   · exact .inl (PSt.fail_fk s (by decide))
 unfold fieldM
 dsimp only
 revert h1
 generalize (if s.isW [95] = true then s.isA [95] else (s.isA [95]).nameS kw) = s1
 generalize (if s.isW [95] = true then ([] : List UInt8) else (s.isA [95]).nameT kw) = nm
 intro h1
 split
 · exact (((h _ _).trans (Sub.want _ _)).trans ((Sub.num val _ _).trans (Sub.want _ _))).few h1
 · exact ((h _ _).trans (Sub.want _ _)).few h1
def z6 : List AV := [.int .i64 0, .int .i64 0, .bool false, .lst .nil 0 [], .int .i64 0, .lst .nil 0 []]
section
variable {Φ : Calls'} {kw : List UInt8 → Bool} {val : List UInt8 → Int}
theorem flds_loop (hT : Cl Φ S.tab_Lex) (hW : Wk Φ) (hkw : ∀ x, Val Φ K.lex_Keyword [.str x] (.bool (kw x))) (hv : NumV Φ val) {H0 : AH} {Q : Post} {id i1 i28 : Nat} {d k : Int} {pk : Bool} (hid : id < H0.n) (h1 : H0.n ≤ i1) (h28 : H0.n ≤ i28) (hne : i1 ≠ i28) :
  ∀ (n : Nat), (∀ m, m < n → TypOK Φ kw val m) → ∀ (H : AH) (s : PSt) (L : AV) (done : List GField), KeepP id H0 H → PS H id s → Wf s → Few n s → (s.fk ≠ 0 ∨ done.length + s.toks.length ≤ 2000001) →
  At H i1 (.row z6) → At H i28 (.row [.int .i64 k, .int .i64 0, .bool pk, L, .int .i64 0, .lst .nil 0 []]) → OwnT H0.n H 9 L done.length (done.flatMap GField.cells) →
  (∀ H', KeepP id H0 H' → PS H' id (fldsM kw val n d s).2 → Q (.agg (GType.cells ⟨k, 0, pk, done ++ (fldsM kw val n d s).1, 0, []⟩)) H') →
  LoopP (S.parse_parser_typ_l4 Φ (.ptr id 0) (.int .i64 d) (.ptr i1 0) (.ptr i28 0) fun v H' => Q v.weak H') ([], H) := by
 have fin : ∀ (H : AH) (s : PSt) (L : AV) (done : List GField), KeepP id H0 H → PS H id s → At H i1 (.row z6) → At H i28 (.row [.int .i64 k, .int .i64 0, .bool pk, L, .int .i64 0, .lst .nil 0 []]) → OwnT H0.n H 9 L done.length (done.flatMap GField.cells) →
   (∀ H', KeepP id H0 H' → PS H' id s → Q (.agg (GType.cells ⟨k, 0, pk, done, 0, []⟩)) H') → JoinP (S.parse_parser_typ_k2 Φ (.ptr i1 0) (.ptr i28 0) fun v H' => Q v.weak H') [] H := by
  intro H s L done kk p a1 a28 ow hq
  simp only [JoinP_def, S.parse_parser_typ_k2]
  rw [a28.load, takeCells_whole (n := 6) rfl]
  simp only [Do_of]
  have hsc : L.scalar = true := by obtain ⟨tk, rfl, _, _⟩ := ow; rfl
  rw [a1.store, if_pos ⟨rfl, rfl, by simp only [AV.cells, List.all_cons, hsc]; rfl, by decide⟩]
  simp only [Do_of, AV.cells]
  rw [setCells_all rfl, (a1.set _).load]
  simp only [List.take_zero, List.nil_append]
  rw [takeCells_whole (n := 6) rfl]
  simp only [Do_of]
  have hwk : L.weak = lstA GField.cells done := by
   have hs : AV.weaks (done.flatMap GField.cells) = done.flatMap GField.cells := by rw [← GField.all_eq]; exact GField.weaksA done
   rw [ow.weak hs]; rfl
  have := hq (H.set i1 (.row [.int .i64 k, .int .i64 0, .bool pk, L, .int .i64 0, .lst .nil 0 []])) (kk.setL h1 _) (p.setL (by omega) _)
  rw [GType.cells_eq] at this
  simp only [AV.weak, AV.weaks, hwk]
  exact this
 intro n
 induction n with
 | zero =>
  intro _ H s L done kk p w f _ a1 a28 ow hQ
  have hb := f.zero w
  refine LoopP.step ?_
  simp only [S.parse_parser_typ_l4]
  refine p_bad hT p ?_
  simp only [aun_not, Do_of, Gd3_true]
  rw [if_neg (by simpa using hb)]
  simp only [JoinP_def, S.parse_parser_typ_k3, sl_zero, Gd_true]
  rw [if_neg (by decide)]
  refine fin H s L done kk p a1 a28 ow fun H' k' p' => ?_
  have := hQ H' k' (by unfold fldsM; exact p')
  unfold fldsM at this
  rwa [List.append_nil] at this
 | succ n ih =>
  intro hty H s L done kk p w f hl a1 a28 ow hQ
  refine LoopP.step ?_
  simp only [S.parse_parser_typ_l4]
  refine p_bad hT p ?_
  simp only [aun_not, Do_of, Gd3_true]
  refine ite_both (fun hx => ?_) (fun hx => ?_)
  · have h0 : s.fk = 0 := by simpa using hx
    refine p_is hT p fun H1 k1 p1 => ?_
    have b1 := k1.2 _ _ (by omega) a1
    have b28 := k1.2 _ _ (by omega) a28
    have ow1 := ow.keep hid k1
    simp only [aun_not, Do_of, JoinP_def, S.parse_parser_typ_k3, sl_zero, Gd_true]
    refine ite_both (fun hy => ?_) (fun hy => ?_)
    · have hf : s.isW [125] = false := by simpa using hy
      have e1 : s.isA [125] = s := by unfold PSt.isA; rw [hf, if_neg (by decide)]
      rw [e1] at p1
      have em : fldsM kw val (n + 1) d s = ((fieldM kw val (fun d s => typM kw val n d s) d s).1 :: (fldsM kw val n d (fieldM kw val (fun d s => typM kw val n d s) d s).2).1, (fldsM kw val n d (fieldM kw val (fun d s => typM kw val n d s) d s).2).2) := by
       conv => lhs; unfold fldsM
       rw [if_neg (by simpa using h0), hf, if_neg (by decide)]
      rw [em] at hQ
      simp only [S.parse_parser_typ_k1, afaddr, Do_of, Nat.zero_add]
      have hld : ∀ {H : AH} {L : AV}, At H i28 (.row [.int .i64 k, .int .i64 0, .bool pk, L, .int .i64 0, .lst .nil 0 []]) → aload H 1 false (.ptr i28 3) = some L := fun h => by rw [h.load]; rfl
      rw [hld b28]
      simp only [Do_of]
      refine p_field hT hW hkw hv (hty n (Nat.lt_succ_self n)) p1 w f fun H2 k2 p2 => ?_
      have c1 := k2.2 _ _ (by omega) b1
      have c28 := k2.2 _ _ (by omega) b28
      have ow2 := ow1.keep hid k2
      have hsub := Sub.field kw val (Sub.typ kw val n) d s
      have hfew : ∀ m, Few (m + 1) s → Few m (fieldM kw val (fun d s => typM kw val n d s) d s).2 := fun m hm => Few.field (Sub.typ kw val n) hm w
      generalize fieldM kw val (fun d s => typM kw val n d s) d s = fd at hQ p2 hsub hfew
      refine ⟨hld c28, ?_⟩
      have hlen : done.length + s.toks.length ≤ 2000001 := by
       rcases hl with hl | hl
       · exact absurd h0 hl
       · exact hl
      have epos : 0 < s.toks.length := List.length_pos_iff.2 w.ne
      have hbs : abslice H2 false 9 1 [.str [], .int .i64 0, .int .i64 0, .bool false, .lst .nil 0 [], .int .i64 0, .lst .nil 0 [], .bool false, .int .i64 0] [(0, 9, .agg fd.1.cells)] = some (.lst .full 1 fd.1.cells, H2) := by
       have hfl := GField.len fd.1
       simp only [abslice, fillA, AV.known, AV.cells, hfl]
       rw [if_pos (by simp)]
       rw [setCells_all (by rw [hfl]; rfl)]
       rfl
      rw [hbs]
      simp only [DoH_some]
      refine ow2.app (Nat.le_trans kk.1 (Nat.le_trans k1.1 k2.1)) (m := 1) (news := fd.1.cells) (by simp [acells, GField.len]) (by rw [GField.len]) (GField.scalar _) (by decide) (by omega) (by omega) fun x' H3 ow3 l3 => ?_
      have d1 := l3.row c1
      have d28 := l3.row c28
      have hsx : x'.scalar = true := by obtain ⟨tk, rfl, _, _⟩ := ow3; rfl
      have hcx : x'.cells = [x'] := by obtain ⟨tk, rfl, _, _⟩ := ow3; rfl
      have hkx : x'.known = true := by obtain ⟨tk, rfl, _, _⟩ := ow3; rfl
      rw [d28.store, if_pos ⟨hkx, by rw [hcx]; rfl, by rw [hcx]; simp [hsx], by simp⟩, hcx]
      simp only [Do_of]
      have er : setCells [.int .i64 k, .int .i64 0, .bool pk, L, .int .i64 0, .lst .nil 0 []] 3 [x'] = [.int .i64 k, .int .i64 0, .bool pk, x', .int .i64 0, .lst .nil 0 []] := rfl
      rw [er]
      refine ih (fun m hm => hty m (Nat.lt_succ_of_lt hm)) _ fd.2 x' (done ++ [fd.1]) ((((kk.trans k1).trans k2).left l3).setL h28 _) ((p2.left l3).setL (by omega) _) (hsub.1 w) (hfew n f) ?_ (d1.set_ne hne _) (d28.set _) ?_ fun H' k' p' => ?_
      · have := hfew (s.toks.length - 1) (.inr (by omega))
        rcases this with h | h
        · exact .inl h
        · exact .inr (by rw [List.length_append, List.length_singleton]; omega)
      · have : OwnT H0.n H3 9 x' (done ++ [fd.1]).length ((done ++ [fd.1]).flatMap GField.cells) := by
          rw [List.length_append, List.length_singleton, List.flatMap_append]
          simpa using ow3
        exact this.frame fun t a b ht => ht.set_ne (fun e => by subst e; have := ht.2.symm.trans d28.2; cases this) _
      · have := hQ H' k' p'
        rw [List.append_assoc]
        exact this
    · have hf : s.isW [125] = true := by simpa using hy
      have e1 : s.isA [125] = s.adv := by unfold PSt.isA; rw [hf, if_pos rfl]
      rw [e1] at p1
      have em : fldsM kw val (n + 1) d s = ([], s.adv) := by
       unfold fldsM
       rw [if_neg (by simpa using h0), hf, if_pos rfl]
      rw [em] at hQ
      refine fin H1 s.adv L done (kk.trans k1) p1 b1 b28 ow1 fun H' k' p' => ?_
      have := hQ H' k' p'
      rwa [List.append_nil] at this
  · have h0 : s.fk ≠ 0 := by simpa using hx
    have em : fldsM kw val (n + 1) d s = ([], s) := by
     unfold fldsM
     rw [if_pos h0]
    rw [em] at hQ
    simp only [JoinP_def, S.parse_parser_typ_k3, sl_zero, Gd_true]
    rw [if_neg (by decide)]
    refine fin H s L done kk p a1 a28 ow fun H' k' p' => ?_
    have := hQ H' k' p'
    rwa [List.append_nil] at this
end
end Rb

set_option linter.unusedVariables false
set_option linter.unusedSimpArgs false
set_option linter.unusedSectionVars false
namespace Rb
open Go
theorem kind_hd {w : List UInt8} (h : kindM w ≠ 0) : w ≠ [] := fun e => h (by rw [e]; decide)
section
variable {Φ : Calls'} {kw : List UInt8 → Bool} {val : List UInt8 → Int}
theorem p_typ (hT : Cl Φ S.tab_Lex) (hW : Wk Φ) (hkw : ∀ x, Val Φ K.lex_Keyword [.str x] (.bool (kw x))) (hv : NumV Φ val) : ∀ n, TypOK Φ kw val n := by
 intro n
 induction n using Nat.strongRecOn with
 | ind n ih =>
 intro H Q id s d p w f hQ
 refine hW _ _ _ _ (S.cl_parse_parser_typ hT ?_)
 unfold S.parse_parser_typ
 have hid := lt_of_ps p
 have ez : ([.int .i64 0, .int .i64 0, .bool false, .lst .nil 0 [], .int .i64 0, .lst .nil 0 []] : List AV) = z6 := rfl
 rw [ez]
 simp only [abox, if_true, DoH_some]
 have p2 : PS (H.push (.row z6)) id s := p.pushL _
 have a1 : At (H.push (.row z6)) H.n (.row z6) := At.new H _
 have kk : KeepP id H (H.push (.row z6)) := KeepP.push id H _
 have ret : ∀ (ds : List AV) (t : GType) (s' : PSt) (H' : AH), KeepP id H H' → PS H' id s' → At H' H.n (.row z6) → AV.weaks ds = t.cells → ds.all AV.scalar = true → (∀ H', KeepP id H H' → PS H' id s' → Q (.agg t.cells) H') →
   Do (astore H' 6 (.ptr H.n 0) (.agg ds)) fun H'' => Do (aload H'' 6 true (.ptr H.n 0)) fun v => Q v.weak H'' := by
  intro ds t s' H' k' p' a' hds hsc hq
  have hl : ds.length = 6 := by rw [← weaks_len, hds, GType.len]
  rw [a'.store, if_pos ⟨rfl, hl, hsc, by decide⟩]
  simp only [Do_of, AV.cells]
  rw [setCells_all (by rw [hl]; rfl), (a'.set _).load]
  simp only [List.take_zero, List.nil_append]
  rw [takeCells_whole hl]
  simp only [Do_of, AV.weak, hds]
  exact hq _ (k'.setL (Nat.le_refl _) _) (p'.setL (by omega) _)
 have bz : abuild z6 [] = some (.agg z6) := rfl
 refine p_deep hT p2 fun H4 k4 p4 => ?_
 have b1 := k4.2 _ _ (by omega) a1
 have kb := kk.trans k4
 have sd := Sub.deep s d
 simp only [aun_not, Do_of, Gd_true, bz]
 have bad : ∀ s' : PSt, (typM kw val n d s) = (tyZ, s') → PS H4 id s' → Do (astore H4 6 (.ptr H.n 0) (.agg z6)) fun H7 => Do (aload H7 6 true (.ptr H.n 0)) fun x8 => Q x8.weak H7 := by
  intro s' e ps
  rw [e] at hQ
  exact ret z6 tyZ s' H4 kb ps b1 rfl rfl hQ
 cases n with
 | zero =>
  have hb := f.zero w
  have e : s.deep d = s := by
   unfold PSt.deep
   split
   · unfold PSt.fail; rw [if_neg hb]
   · rfl
  rw [e] at p4 ⊢
  rw [if_pos (by simpa using hb)]
  exact bad s (by unfold typM; rfl) p4
 | succ n =>
 have f1 := sd.few f
 have w1 := sd.1 w
 generalize es : s.deep d = s1 at p4 sd f1 w1
 refine ite_both (fun hx => ?_) (fun hx => ?_)
 · have hb : s1.fk ≠ 0 := by simpa using hx
   refine bad s1 ?_ p4
   unfold typM
   simp only [es]
   rw [if_pos hb]
 · have h0 : s1.fk = 0 := by simpa using hx
   refine p_peek hT p4 ?_
   refine p_scalar hT hW fun H12 g12 => ?_
   have k12 := g12.keep id
   have p12 := g12.ps p4
   have c1 := g12.2 _ _ b1
   have kc := kb.trans k12
   have hn12 : H.n < H12.n := Nat.lt_of_lt_of_le b1.1 g12.1
   simp only [aextract, List.getElem?_cons_zero, List.getElem?_cons_succ, Do_of, DoH_some]
   rw [store_new H12 z6 _ 6 (GType.len _) (GType.scalar _) rfl]
   simp only [Do_of]
   have p17 := p12.pushL (.row (scalarT s1.hd.1).cells)
   have d15 : At (H12.push (.row (scalarT s1.hd.1).cells)) H12.n (.row (scalarT s1.hd.1).cells) := At.new _ _
   have d1 := c1.push (.row (scalarT s1.hd.1).cells)
   have kd := kc.pushL (.row (scalarT s1.hd.1).cells)
   refine ite_both (fun hs => ?_) (fun hs => ?_)
   · obtain ⟨pr, hpr⟩ := Option.isSome_iff_exists.1 hs
     refine p_next hT p17 fun H19 k19 p19 => ?_
     have e15 := k19.2 _ _ (by omega) d15
     have e1 := k19.2 _ _ (by omega) d1
     rw [e15.load, takeCells_whole (GType.len _)]
     simp only [Do_of]
     have em : typM kw val (n + 1) d s = (scalarT s1.hd.1, s1.adv) := by
      unfold typM scalarT
      simp only [es, hpr]
      rw [if_neg (by simpa using h0)]
     rw [em] at hQ
     exact ret _ (scalarT s1.hd.1) s1.adv H19 (kd.trans k19) p19 e1 (GType.weaks _) (GType.scalar _) hQ
   · have hnone : scalarM s1.hd.1 = none := by simpa using hs
     refine p_peek hT p17 ?_
     refine p_kind hT ?_
     rw [show abuild z6 [(0, 1, .int .i64 (kindM s1.hd.1))] = some (.agg [.int .i64 (kindM s1.hd.1), .int .i64 0, .bool false, .lst .nil 0 [], .int .i64 0, .lst .nil 0 []]) from rfl]
     simp only [Do_of]
     have hn17 : (H12.push (.row (scalarT s1.hd.1).cells)).n = H12.n + 1 := rfl
     generalize H12.push (.row (scalarT s1.hd.1).cells) = H17 at p17 d15 d1 kd hn17
     rw [store_new H17 z6 _ 6 rfl rfl rfl]
     simp only [Do_of]
     have kz : ∀ k : Int, ∃ r : List AV, r = [.int .i64 k, .int .i64 0, .bool false, .lst .nil 0 [], .int .i64 0, .lst .nil 0 []] := fun k => ⟨_, rfl⟩
     obtain ⟨r, hr⟩ := kz (kindM s1.hd.1)
     rw [← hr]
     have p30 := p17.pushL (.row r)
     have g28 : At (H17.push (.row r)) H17.n (.row r) := At.new _ _
     have g1 := d1.push (.row r)
     have ke := kd.pushL (.row r)
     simp only [afaddr, Do_of, Nat.zero_add]
     have hld0 : aload (H17.push (.row r)) 1 false (.ptr H17.n 0) = some (.int .i64 (kindM s1.hd.1)) := by rw [g28.load, hr]; rfl
     rw [hld0]
     simp only [Do_of, abin_eql]
     generalize H17.push (.row r) = H30 at p30 g28 g1 ke
     refine ite_both (fun hk0 => ?_) (fun hk0 => ?_)
     · have hk : kindM s1.hd.1 = 0 := by simpa using hk0
       refine p_fail hT p30 fun H35 k35 p35 => ?_
       have em : typM kw val (n + 1) d s = (tyZ, s1.fail 4) := by
        unfold typM
        simp only [es, hnone]
        rw [if_neg (by simpa using h0), if_pos hk]
       rw [em] at hQ
       exact ret z6 tyZ (s1.fail 4) H35 (ke.trans k35) p35 (k35.2 _ _ (by omega) g1) rfl rfl hQ
     · have hk : kindM s1.hd.1 ≠ 0 := by simpa using hk0
       have f2 : Few n s1.adv := f1.read w1 (kind_hd hk)
       have w2 := w1.adv
       refine ite_both (fun hk5 => ?_) (fun hk5 => ?_)
       · have hk5' : kindM s1.hd.1 = 5 := by simpa using hk5
         refine p_next hT p30 fun H41 k41 p41 => ?_
         refine p_num hT hv p41 w2 fun H43 k43 p43 => ?_
         have i28 := k43.2 _ _ (by omega) (k41.2 _ _ (by omega) g28)
         have i1 := k43.2 _ _ (by omega) (k41.2 _ _ (by omega) g1)
         have kf := (ke.trans k41).trans k43
         have sn := Sub.num val s1.adv 1073741824
         have em : typM kw val (n + 1) d s = (⟨5, 0, false, [], x64 (s1.adv.num val 1073741824).1, [(typM kw val n (x64 (d + 1)) ((s1.adv.num val 1073741824).2.want [93])).1]⟩, (typM kw val n (x64 (d + 1)) ((s1.adv.num val 1073741824).2.want [93])).2) := by
          conv => lhs; unfold typM
          simp only [es, hnone]
          rw [if_neg (by simpa using h0), if_neg hk, if_pos hk5']
         rw [em] at hQ
         generalize s1.adv.num val 1073741824 = q at p43 hQ sn
         simp only [aconv_int, Do_of]
         rw [i28.store, if_pos ⟨rfl, rfl, rfl, by rw [hr]; simp⟩]
         simp only [Do_of, AV.cells]
         have er : setCells r 4 [.int .i64 (x64 q.1)] = [.int .i64 5, .int .i64 0, .bool false, .lst .nil 0 [], .int .i64 (x64 q.1), .lst .nil 0 []] := by rw [hr, hk5']; rfl
         rw [er]
         refine p_want hT (p43.setL (by omega) _) fun H48 k48 p48 => ?_
         have j28 := k48.2 _ _ (by omega) (i28.set (.row [.int .i64 5, .int .i64 0, .bool false, .lst .nil 0 [], .int .i64 (x64 q.1), .lst .nil 0 []]))
         have j1 := k48.2 _ _ (by omega) (i1.set_ne (i := H17.n) (by omega) (.row [.int .i64 5, .int .i64 0, .bool false, .lst .nil 0 [], .int .i64 (x64 q.1), .lst .nil 0 []]))
         have kg := (kf.setL (i := H17.n) (by omega) (.row [.int .i64 5, .int .i64 0, .bool false, .lst .nil 0 [], .int .i64 (x64 q.1), .lst .nil 0 []])).trans k48
         simp only [abin_add, Do_of]
         have sw := Sub.want q.2 [93]
         refine ih n (Nat.lt_succ_self n) _ _ _ _ _ p48 (sw.1 (sn.1 w2)) (sw.few (sn.few f2)) fun H51 k51 p51 => ?_
         generalize typM kw val n (x64 (d + 1)) (q.2.want [93]) = t at hQ p51
         have l28 := k51.2 _ _ (by omega) j28
         have l1 := k51.2 _ _ (by omega) j1
         have hbs : abslice H51 false 6 1 z6 [(0, 6, .agg t.1.cells)] = some (.lst .full 1 t.1.cells, H51) := by
          have hfl := GType.len t.1
          simp only [abslice, fillA, AV.known, AV.cells, hfl]
          rw [if_pos (by simp [z6])]
          rw [setCells_all (by rw [hfl]; rfl)]
          rfl
         rw [hbs]
         simp only [DoH_some]
         rw [l28.store, if_pos ⟨rfl, rfl, rfl, by simp⟩]
         simp only [Do_of, AV.cells]
         have er2 : setCells [.int .i64 5, .int .i64 0, .bool false, .lst .nil 0 [], .int .i64 (x64 q.1), .lst .nil 0 []] 5 [.lst .full 1 t.1.cells] = [.int .i64 5, .int .i64 0, .bool false, .lst .nil 0 [], .int .i64 (x64 q.1), .lst .full 1 t.1.cells] := rfl
         rw [er2, (l28.set _).load, takeCells_whole (n := 6) rfl]
         simp only [Do_of]
         refine ret _ ⟨5, 0, false, [], x64 q.1, [t.1]⟩ t.2 _ ((kg.trans k51).setL (by omega) _) (p51.setL (by omega) _) (l1.set_ne (by omega) _) ?_ rfl hQ
         rw [GType.cells_eq ⟨5, 0, false, [], x64 q.1, [t.1]⟩]
         simp only [AV.weaks, AV.weak, GType.weaks, lstA, List.flatMap_cons, List.flatMap_nil, List.append_nil, List.length_cons, List.length_nil]
       · have hk5' : kindM s1.hd.1 ≠ 5 := by simpa using hk5
         refine p_next hT p30 fun H60 k60 p60 => ?_
         refine p_is hT p60 fun H62 k62 p62 => ?_
         have i28 := k62.2 _ _ (by omega) (k60.2 _ _ (by omega) g28)
         have i1 := k62.2 _ _ (by omega) (k60.2 _ _ (by omega) g1)
         have kf := (ke.trans k60).trans k62
         have em : typM kw val (n + 1) d s = (⟨kindM s1.hd.1, 0, s1.adv.isW [112, 97, 99, 107, 101, 100], (fldsM kw val n d ((s1.adv.isA [112, 97, 99, 107, 101, 100]).want [123])).1, 0, []⟩, (fldsM kw val n d ((s1.adv.isA [112, 97, 99, 107, 101, 100]).want [123])).2) := by
          conv => lhs; unfold typM
          simp only [es, hnone]
          rw [if_neg (by simpa using h0), if_neg hk, if_neg hk5']
         rw [em] at hQ
         have sa := Sub.isA s1.adv [112, 97, 99, 107, 101, 100]
         rw [i28.store, if_pos ⟨rfl, rfl, rfl, by rw [hr]; simp⟩]
         simp only [Do_of, AV.cells]
         generalize s1.adv.isW [112, 97, 99, 107, 101, 100] = pk at hQ ⊢
         have er : setCells r 2 [.bool pk] = [.int .i64 (kindM s1.hd.1), .int .i64 0, .bool pk, .lst .nil 0 [], .int .i64 0, .lst .nil 0 []] := by rw [hr]; rfl
         rw [er]
         refine p_want hT (p62.setL (by omega) _) fun H68 k68 p68 => ?_
         have j28 := k68.2 _ _ (by omega) (i28.set (.row [.int .i64 (kindM s1.hd.1), .int .i64 0, .bool pk, .lst .nil 0 [], .int .i64 0, .lst .nil 0 []]))
         have j1 := k68.2 _ _ (by omega) (i1.set_ne (i := H17.n) (by omega) (.row [.int .i64 (kindM s1.hd.1), .int .i64 0, .bool pk, .lst .nil 0 [], .int .i64 0, .lst .nil 0 []]))
         have kg := (kf.setL (i := H17.n) (by omega) (.row [.int .i64 (kindM s1.hd.1), .int .i64 0, .bool pk, .lst .nil 0 [], .int .i64 0, .lst .nil 0 []])).trans k68
         have sw := Sub.want (s1.adv.isA [112, 97, 99, 107, 101, 100]) [123]
         exact flds_loop hT hW hkw hv hid (Nat.le_refl _) (by omega) (by omega) n (fun m hm => ih m (by omega)) H68 _ _ [] kg p68 (sw.1 (sa.1 w2)) (sw.few (sa.few f2)) (.inr (by have := p68.2.1; simp only [List.length_nil]; omega)) j1 j28 (OwnT.nil _ _ _) hQ
end
end Rb

set_option linter.unusedVariables false
set_option linter.unusedSimpArgs false
set_option linter.unusedSectionVars false
namespace Rb
open Go
def ExpOK (Φ : Calls') (kw : List UInt8 → Bool) (val : List UInt8 → Int) (n : Nat) : Prop :=
 ∀ (H : AH) (Q : Post) (id : Nat) (s : PSt) (d : Int), PS H id s → Wf s → Few n s → (∀ H', KeepP id H H' → PS H' id (exprM kw val n d s).2 → Q (.agg (exprM kw val n d s).1.cells) H') → Φ K.parse_parser_expr [.ptr id 0, .int .i64 d] H Q
def PlaceOK (Φ : Calls') (kw : List UInt8 → Bool) (val : List UInt8 → Int) (n : Nat) : Prop :=
 ∀ (H : AH) (Q : Post) (id : Nat) (s : PSt) (d : Int), PS H id s → Wf s → Few n s → (∀ H', KeepP id H H' → PS H' id (placeM' kw (partsM kw val n) d s).2 → Q (.agg (placeM' kw (partsM kw val n) d s).1.cells) H') → Φ K.parse_parser_place [.ptr id 0, .int .i64 d] H Q
theorem GPart.scalar2 (x : GPart) : x.cells.all AV.scalar = true := GPart.scalar x
theorem GPlace.scalar2 (x : GPlace) : x.cells.all AV.scalar = true := GPlace.scalar x
theorem agg8_slice (H : AH) (e : GExpr) : abslice H false 8 1 [.int .i64 0, .int .u64 0, .str [], .int .i64 0, .int .i64 0, .str [], .lst .nil 0 [], .lst .nil 0 []] [(0, 8, .agg e.cells)] = some (.lst .full 1 e.cells, H) := by
 have hfl := GExpr.len e
 simp only [abslice, fillA, AV.known, AV.cells, hfl]
 rw [if_pos (by simp)]
 rw [setCells_all (by rw [hfl]; rfl)]
 rfl
section
variable {Φ : Calls'} {kw : List UInt8 → Bool} {val : List UInt8 → Int}
theorem parts_loop (hT : Cl Φ S.tab_Lex) (hkw : ∀ x, Val Φ K.lex_Keyword [.str x] (.bool (kw x))) {H0 : AH} {Q : Post} {id i1 i6 : Nat} {d : Int} {nm : List UInt8} (hid : id < H0.n) (h1 : H0.n ≤ i1) (h6 : H0.n ≤ i6) (hne : i1 ≠ i6) :
  ∀ (n : Nat), (∀ m, m < n → ExpOK Φ kw val m) → ∀ (H : AH) (s : PSt) (L : AV) (done : List GPart) (cs : List AV), KeepP id H0 H → PS H id s → Wf s → Few n s → (s.fk ≠ 0 ∨ done.length + s.toks.length ≤ 2000001) →
  At H i1 (.row [.str [], .lst .nil 0 []]) → At H i6 (.row [.str nm, L]) → OwnT H0.n H 2 L done.length cs → AV.weaks cs = done.flatMap GPart.cells →
  (∀ H', KeepP id H0 H' → PS H' id (partsM kw val n d s).2 → Q (.agg (GPlace.cells ⟨nm, done ++ (partsM kw val n d s).1⟩)) H') →
  LoopP (S.parse_parser_place_l2 Φ (.ptr id 0) (.int .i64 d) (.ptr i1 0) (.ptr i6 0) fun v H' => Q v.weak H') ([], H) := by
 have fin : ∀ (H : AH) (s : PSt) (L : AV) (done : List GPart) (cs : List AV), KeepP id H0 H → PS H id s → At H i1 (.row [.str [], .lst .nil 0 []]) → At H i6 (.row [.str nm, L]) → OwnT H0.n H 2 L done.length cs → AV.weaks cs = done.flatMap GPart.cells →
   (∀ H', KeepP id H0 H' → PS H' id s → Q (.agg (GPlace.cells ⟨nm, done⟩)) H') →
   Do (aload H 2 true (.ptr i6 0)) fun x50 => Do (astore H 2 (.ptr i1 0) x50) fun H51 => Do (aload H51 2 true (.ptr i1 0)) fun x52 => Q x52.weak H51 := by
  intro H s L done cs kk p a1 a6 ow hcs hq
  rw [a6.load, takeCells_whole (n := 2) rfl]
  simp only [Do_of]
  have hsc : L.scalar = true := by obtain ⟨tk, rfl, _, _⟩ := ow; rfl
  rw [a1.store, if_pos ⟨rfl, rfl, by simp only [AV.cells, List.all_cons, hsc]; rfl, by decide⟩]
  simp only [Do_of, AV.cells]
  rw [setCells_all rfl, (a1.set _).load]
  simp only [List.take_zero, List.nil_append]
  rw [takeCells_whole (n := 2) rfl]
  simp only [Do_of]
  have hwk : L.weak = lstA GPart.cells done := by
   obtain ⟨tk, rfl, _, _⟩ := ow
   simp only [AV.weak, hcs]; rfl
  have := hq (H.set i1 (.row [.str nm, L])) (kk.setL h1 _) (p.setL (by omega) _)
  rw [GPlace.cells_eq] at this
  simp only [AV.weak, AV.weaks, hwk]
  exact this
 intro n
 induction n with
 | zero =>
  intro _ H s L done cs kk p w f _ a1 a6 ow hcs hQ
  have hb := f.zero w
  refine LoopP.step ?_
  simp only [S.parse_parser_place_l2]
  refine p_bad hT p ?_
  simp only [aun_not, Do_of, Gd_true]
  rw [if_neg (by simpa using hb)]
  simp only [JoinP_def, S.parse_parser_place_k1]
  refine fin H s L done cs kk p a1 a6 ow hcs fun H' k' p' => ?_
  have := hQ H' k' (by unfold partsM; exact p')
  unfold partsM at this
  rwa [List.append_nil] at this
 | succ n ih =>
  intro hex H s L done cs kk p w f hl a1 a6 ow hcs hQ
  refine LoopP.step ?_
  simp only [S.parse_parser_place_l2]
  refine p_bad hT p ?_
  simp only [aun_not, Do_of, Gd_true]
  have hld : ∀ {H : AH} {L : AV}, At H i6 (.row [.str nm, L]) → aload H 1 false (.ptr i6 1) = some L := fun h => by rw [h.load]; rfl
  refine ite_both (fun hx => ?_) (fun hx => ?_)
  · have h0 : s.fk = 0 := by simpa using hx
    have hlen : done.length + s.toks.length ≤ 2000001 := by
     rcases hl with hl | hl
     · exact absurd h0 hl
     · exact hl
    refine p_is hT p fun H1 k1 p1 => ?_
    have b1 := k1.2 _ _ (by omega) a1
    have b6 := k1.2 _ _ (by omega) a6
    have ow1 := ow.keep hid k1
    refine ite_both (fun hy => ?_) (fun hy => ?_)
    ·
      have e1 : s.isA [46] = s.adv := by unfold PSt.isA; rw [if_pos hy]
      rw [e1] at p1
      have w1 := w.adv
      have f1 := f.isW w hy (by decide)
      have hsh := w.short (s := s) (by rw [(isW_hd hy).2]; decide)
      have em : partsM kw val (n + 1) d s = (⟨s.adv.nameT kw, []⟩ :: (partsM kw val n d (s.adv.nameS kw)).1, (partsM kw val n d (s.adv.nameS kw)).2) := by
       conv => lhs; unfold partsM
       rw [if_neg (by simpa using h0), if_pos hy]
      rw [em] at hQ
      simp only [afaddr, Do_of, Nat.zero_add]
      rw [hld b6]
      simp only [Do_of]
      refine p_name hT hkw p1 fun H2 k2 p2 => ?_
      have c1 := k2.2 _ _ (by omega) b1
      have c6 := k2.2 _ _ (by omega) b6
      have ow2 := ow1.keep hid k2
      have sn := Sub.nameS kw s.adv
      refine ⟨hld c6, ?_⟩
      rw [show abuild [.str [], .lst .nil 0 []] [(0, 1, .str (s.adv.nameT kw))] = some (.agg [.str (s.adv.nameT kw), .lst .nil 0 []]) from rfl]
      simp only [Do_of]
      rw [show abslice H2 false 2 1 [.str [], .lst .nil 0 []] [(0, 2, .agg [.str (s.adv.nameT kw), .lst .nil 0 []])] = some (.lst .full 1 [.str (s.adv.nameT kw), .lst .nil 0 []], H2) from rfl]
      simp only [DoH_some]
      refine ow2.app (Nat.le_trans kk.1 (Nat.le_trans k1.1 k2.1)) (m := 1) (news := [.str (s.adv.nameT kw), .lst .nil 0 []]) rfl rfl rfl (by decide) (by omega) (by omega) fun x' H3 ow3 l3 => ?_
      have d1 := l3.row c1
      have d6 := l3.row c6
      have hsx : x'.scalar = true := by obtain ⟨tk, rfl, _, _⟩ := ow3; rfl
      have hcx : x'.cells = [x'] := by obtain ⟨tk, rfl, _, _⟩ := ow3; rfl
      have hkx : x'.known = true := by obtain ⟨tk, rfl, _, _⟩ := ow3; rfl
      rw [d6.store, if_pos ⟨hkx, by rw [hcx]; rfl, by rw [hcx]; simp [hsx], by simp⟩, hcx]
      simp only [Do_of]
      have er : setCells [.str nm, L] 1 [x'] = [.str nm, x'] := rfl
      rw [er]
      refine ih (fun m hm => hex m (Nat.lt_succ_of_lt hm)) _ (s.adv.nameS kw) x' (done ++ [⟨s.adv.nameT kw, []⟩]) (cs ++ [.str (s.adv.nameT kw), .lst .nil 0 []]) ((((kk.trans k1).trans k2).left l3).setL h6 _) ((p2.left l3).setL (by omega) _) (sn.1 w1) (sn.few f1) (.inr ?_) (d1.set_ne hne _) (d6.set _) ?_ ?_ fun H' k' p' => ?_
      · have := sn.2.1
        rw [List.length_append, List.length_singleton]; omega
      · rw [List.length_append, List.length_singleton]
        exact ow3.frame fun t a b ht => ht.set_ne (fun e => by subst e; have := ht.2.symm.trans d6.2; cases this) _
      · rw [weaks_app, hcs, List.flatMap_append]; rfl
      · have := hQ H' k' p'
        rw [List.append_assoc]
        exact this
    · have e1 : s.isA [46] = s := by unfold PSt.isA; rw [if_neg hy]
      rw [e1] at p1
      refine p_is hT p1 fun H2 k2 p2 => ?_
      have c1 := k2.2 _ _ (by omega) b1
      have c6 := k2.2 _ _ (by omega) b6
      have ow2 := ow1.keep hid k2
      refine ite_both (fun hz => ?_) (fun hz => ?_)
      ·
        have e2 : s.isA [91] = s.adv := by unfold PSt.isA; rw [if_pos hz]
        rw [e2] at p2
        have w1 := w.adv
        have f1 := f.isW w hz (by decide)
        have hsh := w.short (s := s) (by rw [(isW_hd hz).2]; decide)
        have em : partsM kw val (n + 1) d s = (⟨[], [(exprM kw val n (x64 (d + 1)) s.adv).1]⟩ :: (partsM kw val n d ((exprM kw val n (x64 (d + 1)) s.adv).2.want [93])).1, (partsM kw val n d ((exprM kw val n (x64 (d + 1)) s.adv).2.want [93])).2) := by
         conv => lhs; unfold partsM
         rw [if_neg (by simpa using h0), if_neg hy, if_pos hz]
        rw [em] at hQ
        simp only [afaddr, Do_of, Nat.zero_add]
        rw [hld c6]
        simp only [Do_of, abin_add]
        have se := Sub.expr kw val n (x64 (d + 1)) s.adv
        refine hex n (Nat.lt_succ_self n) _ _ _ _ _ p2 w1 f1 fun H4 k4 p4 => ?_
        generalize exprM kw val n (x64 (d + 1)) s.adv = e at p4 hQ se
        have g1 := k4.2 _ _ (by omega) c1
        have g6 := k4.2 _ _ (by omega) c6
        have ow4 := ow2.keep hid k4
        refine ⟨hld g6, ?_⟩
        rw [agg8_slice]
        simp only [DoH_some]
        rw [show abuild [.str [], .lst .nil 0 []] [(1, 1, .lst .full 1 e.1.cells)] = some (.agg [.str [], .lst .full 1 e.1.cells]) from rfl]
        simp only [Do_of]
        rw [show abslice H4 false 2 1 [.str [], .lst .nil 0 []] [(0, 2, .agg [.str [], .lst .full 1 e.1.cells])] = some (.lst .full 1 [.str [], .lst .full 1 e.1.cells], H4) from rfl]
        simp only [DoH_some]
        refine ow4.app (Nat.le_trans kk.1 (Nat.le_trans k1.1 (Nat.le_trans k2.1 k4.1))) (m := 1) (news := [.str [], .lst .full 1 e.1.cells]) rfl rfl rfl (by decide) (by omega) (by omega) fun x' H3 ow3 l3 => ?_
        have d1 := l3.row g1
        have d6 := l3.row g6
        have hsx : x'.scalar = true := by obtain ⟨tk, rfl, _, _⟩ := ow3; rfl
        have hcx : x'.cells = [x'] := by obtain ⟨tk, rfl, _, _⟩ := ow3; rfl
        have hkx : x'.known = true := by obtain ⟨tk, rfl, _, _⟩ := ow3; rfl
        rw [d6.store, if_pos ⟨hkx, by rw [hcx]; rfl, by rw [hcx]; simp [hsx], by simp⟩, hcx]
        simp only [Do_of]
        have er : setCells [.str nm, L] 1 [x'] = [.str nm, x'] := rfl
        rw [er]
        have ow5 : OwnT H0.n (H3.set i6 (.row [.str nm, x'])) 2 x' (done.length + 1) (cs ++ [.str [], .lst .full 1 e.1.cells]) := ow3.frame fun t a b ht => ht.set_ne (fun e => by subst e; have := ht.2.symm.trans d6.2; cases this) _
        have kz := (((((kk.trans k1).trans k2).trans k4).left l3).setL h6 (.row [.str nm, x']))
        refine p_want hT ((p4.left l3).setL (by omega) _) fun H5 k5 p5 => ?_
        have sw := Sub.want e.2 [93]
        refine ih (fun m hm => hex m (Nat.lt_succ_of_lt hm)) _ (e.2.want [93]) x' (done ++ [⟨[], [e.1]⟩]) (cs ++ [.str [], .lst .full 1 e.1.cells]) (kz.trans k5) p5 (sw.1 (se.1 w1)) (sw.few (se.few f1)) (.inr ?_) (k5.2 _ _ (by omega) (d1.set_ne hne _)) (k5.2 _ _ (by omega) (d6.set _)) ?_ ?_ fun H' k' p' => ?_
        · have := sw.2.1
          have := se.2.1
          rw [List.length_append, List.length_singleton]; omega
        · rw [List.length_append, List.length_singleton]
          exact ow5.keep hid k5
        · rw [weaks_app, hcs, List.flatMap_append, List.flatMap_cons, List.flatMap_nil, GPart.cells_eq]
          simp only [AV.weaks, AV.weak, GExpr.weaks, lstA, List.flatMap_cons, List.flatMap_nil, List.append_nil, List.length_cons, List.length_nil]
        · have := hQ H' k' p'
          rw [List.append_assoc]
          exact this
      · have e2 : s.isA [91] = s := by unfold PSt.isA; rw [if_neg hz]
        rw [e2] at p2
        have em : partsM kw val (n + 1) d s = ([], s) := by
         conv => lhs; unfold partsM
         rw [if_neg (by simpa using h0), if_neg hy, if_neg hz]
        rw [em] at hQ
        refine fin H2 s L done cs ((kk.trans k1).trans k2) p2 c1 c6 ow2 hcs fun H' k' p' => ?_
        have := hQ H' k' p'
        rwa [List.append_nil] at this
  · have h0 : s.fk ≠ 0 := by simpa using hx
    have em : partsM kw val (n + 1) d s = ([], s) := by
     unfold partsM
     rw [if_pos h0]
    rw [em] at hQ
    simp only [JoinP_def, S.parse_parser_place_k1]
    refine fin H s L done cs kk p a1 a6 ow hcs fun H' k' p' => ?_
    have := hQ H' k' p'
    rwa [List.append_nil] at this
theorem p_place (hT : Cl Φ S.tab_Lex) (hW : Wk Φ) (hkw : ∀ x, Val Φ K.lex_Keyword [.str x] (.bool (kw x))) {n : Nat} (hex : ∀ m, m < n → ExpOK Φ kw val m) : PlaceOK Φ kw val n := by
 intro H Q id s d p w f hQ
 refine hW _ _ _ _ (S.cl_parse_parser_place hT ?_)
 unfold S.parse_parser_place
 have hid := lt_of_ps p
 simp only [abox, if_true, DoH_some]
 have p2 : PS (H.push (.row [.str [], .lst .nil 0 []])) id s := p.pushL _
 have a1 : At (H.push (.row [.str [], .lst .nil 0 []])) H.n (.row [.str [], .lst .nil 0 []]) := At.new H _
 have kk : KeepP id H (H.push (.row [.str [], .lst .nil 0 []])) := KeepP.push id H _
 refine p_name hT hkw p2 fun H4 k4 p4 => ?_
 have b1 := k4.2 _ _ (by omega) a1
 have hn4 : H.n < H4.n := b1.1
 rw [show abuild [.str [], .lst .nil 0 []] [(0, 1, .str (s.nameT kw))] = some (.agg [.str (s.nameT kw), .lst .nil 0 []]) from rfl]
 simp only [Do_of]
 rw [store_new H4 [.str [], .lst .nil 0 []] _ 2 rfl rfl rfl]
 simp only [Do_of]
 have sn := Sub.nameS kw s
 exact parts_loop hT hkw hid (Nat.le_refl _) (by omega) (by omega) n hex _ (s.nameS kw) (.lst .nil 0 []) [] [] ((kk.trans k4).pushL _) (p4.pushL _) (sn.1 w) (sn.few f) (.inr (by have := p4.2.1; simp only [List.length_nil]; omega)) (b1.push _) (At.new H4 _) (OwnT.nil _ _ _) rfl hQ
end
end Rb

set_option linter.unusedVariables false
set_option linter.unusedSimpArgs false
set_option linter.unusedSectionVars false
namespace Rb
open Go
def z8 : List AV := [.int .i64 0, .int .u64 0, .str [], .int .i64 0, .int .i64 0, .str [], .lst .nil 0 [], .lst .nil 0 []]
section
variable {Φ : Calls'} {kw : List UInt8 → Bool} {val : List UInt8 → Int}
theorem p_binary (hT : Cl Φ S.tab_Lex) (hW : Wk Φ) {n : Nat} (hex : ExpOK Φ kw val n) {H : AH} {Q : Post} {id : Nat} {s : PSt} {d : Int} (p : PS H id s) (w : Wf s) (f : Few n s)
  (hQ : ∀ H', KeepP id H H' → PS H' id (binM (fun d s => exprM kw val n d s) d s).2 → Q (.agg (binM (fun d s => exprM kw val n d s) d s).1.cells) H') : Φ K.parse_parser_binary [.ptr id 0, .int .i64 d] H Q := by
 refine hW _ _ _ _ (S.cl_parse_parser_binary hT ?_)
 unfold S.parse_parser_binary
 have hid := lt_of_ps p
 have ez : ([.int .i64 0, .int .u64 0, .str [], .int .i64 0, .int .i64 0, .str [], .lst .nil 0 [], .lst .nil 0 []] : List AV) = z8 := rfl
 rw [ez]
 simp only [abox, if_true, DoH_some, abin_add, Do_of]
 have a1 : At (H.push (.row z8)) H.n (.row z8) := At.new H _
 have sa := Sub.expr kw val n (x64 (d + 1)) s
 refine hex _ _ _ _ _ (p.pushL _) w f fun H5 k5 p5 => ?_
 have b1 := k5.2 _ _ (by omega) a1
 have hn5 : H.n < H5.n := b1.1
 have k0 := (KeepP.push id H (.row z8)).trans k5
 have em : binM (fun d s => exprM kw val n d s) d s = binM (fun d s => exprM kw val n d s) d s := rfl
 conv at em => rhs; unfold binM
 dsimp only at em
 generalize exprM kw val n (x64 (d + 1)) s = a at p5 sa em
 rw [store_new H5 z8 _ 8 (GExpr.len _) (GExpr.scalar _) rfl]
 simp only [Do_of]
 have p8 := p5.pushL (.row a.1.cells)
 have c6 : At (H5.push (.row a.1.cells)) H5.n (.row a.1.cells) := At.new H5 _
 have c1 := b1.push (.row a.1.cells)
 have k8 := k0.pushL (.row a.1.cells)
 generalize H5.push (.row a.1.cells) = H8 at p8 c6 c1 k8
 refine p_peek hT p8 ?_
 refine p_operator hT ?_
 refine p_bad hT p8 ?_
 have k1 : ∀ (s4 : PSt) (H24 : AH), s4 = (if (if a.2.fk = 0 ∧ operM a.2.hd.1 = 0 then a.2.fail 4 else a.2).fk = 0 then (if a.2.fk = 0 ∧ operM a.2.hd.1 = 0 then a.2.fail 4 else a.2).adv else (if a.2.fk = 0 ∧ operM a.2.hd.1 = 0 then a.2.fail 4 else a.2)) → Sub a.2 s4 → KeepP id H H24 → PS H24 id s4 → At H24 H.n (.row z8) → At H24 H5.n (.row a.1.cells) →
   JoinP (S.parse_parser_binary_k1 Φ (.ptr id 0) (.int .i64 d) (.ptr H.n 0) (.ptr H5.n 0) (.int .i64 (operM a.2.hd.1)) fun v H' => Q v.weak H') [] H24 := by
  intro s4 H24 e4 sb kk pp d1 d6
  simp only [JoinP_def, S.parse_parser_binary_k1, abin_add, Do_of, ez]
  rw [← e4] at em
  refine hex _ _ _ _ _ pp ((sa.trans sb).1 w) ((sa.trans sb).few f) fun H32 k32 p32 => ?_
  generalize exprM kw val n (x64 (d + 1)) s4 = b at p32 em
  rw [em] at hQ
  have e1 := k32.2 _ _ (by omega) d1
  have e6 := k32.2 _ _ (by have := d6.1; have := lt_of_ps pp; omega) d6
  simp only [abox, if_true, DoH_some]
  rw [store_new H32 z8 _ 8 (GExpr.len _) (GExpr.scalar _) rfl]
  simp only [Do_of]
  have hn : H5.n < H32.n := e6.1
  refine p_want hT (p32.pushL (.row b.1.cells)) fun H37 k37 p37 => ?_
  have g1 := k37.2 _ _ (by omega) (e1.push (.row b.1.cells))
  have g6 := k37.2 _ _ (by omega) (e6.push (.row b.1.cells))
  have g33 := k37.2 _ _ (by omega) (At.new H32 (.row b.1.cells))
  rw [g6.load, takeCells_whole (GExpr.len _)]
  simp only [Do_of]
  rw [g33.load, takeCells_whole (GExpr.len _)]
  simp only [Do_of]
  have hbs : abslice H37 false 8 2 z8 [(0, 8, .agg a.1.cells), (8, 8, .agg b.1.cells)] = some (.lst .full 2 (a.1.cells ++ b.1.cells), H37) := by
   have ha := GExpr.len a.1
   have hb := GExpr.len b.1
   simp only [abslice, fillA, AV.known, AV.cells, ha, hb]
   rw [GExpr.cells_eq a.1, GExpr.cells_eq b.1, GPlace.cells_eq a.1.place, GPlace.cells_eq b.1.place]
   rfl
  rw [hbs]
  simp only [DoH_some]
  rw [show abuild z8 [(0, 1, .int .i64 3), (3, 1, .int .i64 (operM a.2.hd.1)), (7, 1, .lst .full 2 (a.1.cells ++ b.1.cells))] = some (.agg [.int .i64 3, .int .u64 0, .str [], .int .i64 (operM a.2.hd.1), .int .i64 0, .str [], .lst .nil 0 [], .lst .full 2 (a.1.cells ++ b.1.cells)]) from rfl]
  simp only [Do_of]
  rw [g1.store, if_pos ⟨rfl, rfl, rfl, by decide⟩]
  simp only [Do_of, AV.cells]
  rw [setCells_all rfl, (g1.set _).load]
  simp only [List.take_zero, List.nil_append]
  rw [takeCells_whole (n := 8) rfl]
  simp only [Do_of]
  have := hQ (H37.set H.n (.row [.int .i64 3, .int .u64 0, .str [], .int .i64 (operM a.2.hd.1), .int .i64 0, .str [], .lst .nil 0 [], .lst .full 2 (a.1.cells ++ b.1.cells)])) ((((kk.trans k32).pushL _).trans k37).setL (Nat.le_refl _) _) (p37.setL (by omega) _)
  rw [GExpr.cells_eq, GPlace.cells_eq] at this
  simp only [AV.weak, AV.weaks, weaks_app, GExpr.weaks]
  simpa [lstA, plZ] using this
 have k2 : ∀ (s3 : PSt) (H14 : AH), s3 = (if a.2.fk = 0 ∧ operM a.2.hd.1 = 0 then a.2.fail 4 else a.2) → KeepP id H H14 → PS H14 id s3 → At H14 H.n (.row z8) → At H14 H5.n (.row a.1.cells) →
   JoinP (S.parse_parser_binary_k2 Φ (.ptr id 0) (.int .i64 d) (.ptr H.n 0) (.ptr H5.n 0) (.int .i64 (operM a.2.hd.1)) fun v H' => Q v.weak H') [] H14 := by
  intro s3 H14 e3 kk pp d1 d6
  have sb : Sub a.2 s3 := by
   rw [e3]; split
   · exact Sub.fail _ _
   · exact Sub.rfl _
  simp only [JoinP_def, S.parse_parser_binary_k2]
  refine p_bad hT pp ?_
  simp only [aun_not, Do_of, Gd_true]
  refine ite_both (fun hx => ?_) (fun hx => ?_)
  · have h0 : s3.fk = 0 := by simpa using hx
    refine p_next hT pp fun H29 k29 p29 => ?_
    exact k1 s3.adv H29 (by rw [← e3, if_pos h0]) (sb.trans (Sub.adv _)) (kk.trans k29) p29 (k29.2 _ _ (by omega) d1) (k29.2 _ _ (by omega) d6)
  · have h0 : s3.fk ≠ 0 := by simpa using hx
    exact k1 s3 H14 (by rw [← e3, if_neg h0]) sb kk pp d1 d6
 have k3 : ∀ b : Bool, (b = true ↔ (a.2.fk = 0 ∧ operM a.2.hd.1 = 0)) → JoinP (S.parse_parser_binary_k3 Φ (.ptr id 0) (.int .i64 d) (.ptr H.n 0) (.ptr H5.n 0) (.int .i64 (operM a.2.hd.1)) fun v H' => Q v.weak H') [.bool b] H8 := by
  intro b hb
  simp only [JoinP_def, S.parse_parser_binary_k3, sl_zero, Gd_true]
  refine ite_both (fun hx => ?_) (fun hx => ?_)
  · refine p_fail hT p8 fun H22 k22 p22 => ?_
    exact k2 _ H22 (by rw [if_pos (hb.1 hx)]) (k8.trans k22) p22 (k22.2 _ _ (by omega) c1) (k22.2 _ _ (by omega) c6)
  · exact k2 _ H8 (by rw [if_neg (fun h => hx (hb.2 h))]) k8 p8 c1 c6
 simp only [aun_not, Do_of, Gd3_true, abin_eql]
 refine ite_both (fun hx => ?_) (fun hx => ?_)
 · have h0 : a.2.fk = 0 := by simpa using hx
   exact k3 _ (by simp [h0])
 · have h0 : a.2.fk ≠ 0 := by simpa using hx
   exact k3 _ (by simp [h0])
end
end Rb

set_option linter.unusedVariables false
set_option linter.unusedSimpArgs false
set_option linter.unusedSectionVars false
namespace Rb
open Go
section
variable {Φ : Calls'} {kw : List UInt8 → Bool} {val : List UInt8 → Int}
theorem kids_loop (hT : Cl Φ S.tab_Lex) {H0 : AH} {Q : Post} {id i1 i4 : Nat} {d kind o : Int} {pl : GPlace} {n : Nat} (hex : ExpOK Φ kw val n) (hid : id < H0.n) (h1 : H0.n ≤ i1) (h4 : H0.n ≤ i4) (hne : i1 ≠ i4) {tot : Nat} (htot : tot ≤ 2) :
  ∀ (k : Nat) (H : AH) (s : PSt) (L : AV) (done : List GExpr), done.length + k = tot → KeepP id H0 H → PS H id s → Wf s → Few n s →
  At H i1 (.row z8) → At H i4 (.row ([.int .i64 kind, .int .u64 0, .str [], .int .i64 0, .int .i64 o] ++ pl.cells ++ [L])) → OwnT H0.n H 8 L done.length (done.flatMap GExpr.cells) →
  (∀ H', KeepP id H0 H' → PS H' id (kidsM (fun d s => exprM kw val n d s) d k s).2 → Q (.agg (GExpr.cells ⟨kind, 0, [], 0, o, pl, done ++ (kidsM (fun d s => exprM kw val n d s) d k s).1⟩)) H') →
  LoopP (S.parse_parser_access_l2 Φ (.ptr id 0) (.int .i64 tot) (.int .i64 d) (.ptr i1 0) (.ptr i4 0) fun v H' => Q v.weak H') ([.int .i64 done.length], H) := by
 have hld : ∀ {H : AH} {L : AV}, At H i4 (.row ([.int .i64 kind, .int .u64 0, .str [], .int .i64 0, .int .i64 o] ++ pl.cells ++ [L])) → aload H 1 false (.ptr i4 7) = some L := fun h => by
  rw [h.load, GPlace.cells_eq]; rfl
 intro k
 induction k with
 | zero =>
  intro H s L done hk kk p w f a1 a4 ow hQ
  refine LoopP.step ?_
  simp only [S.parse_parser_access_l2, sl_zero, abin_lss, Do_of, Gd_true]
  rw [if_neg (by simp only [decide_eq_true_eq]; omega)]
  simp only [JoinP_def, S.parse_parser_access_k1]
  have hsc : L.scalar = true := by obtain ⟨tk, rfl, _, _⟩ := ow; rfl
  rw [a4.load, takeCells_whole (by simp [GPlace.len])]
  simp only [Do_of]
  rw [a1.store, if_pos ⟨rfl, by simp [AV.cells, GPlace.len], by simp only [AV.cells, List.all_append, List.all_cons, GPlace.scalar, hsc]; rfl, by decide⟩]
  simp only [Do_of, AV.cells]
  rw [setCells_all (by simp [GPlace.len, z8]), (a1.set _).load]
  simp only [List.take_zero, List.nil_append]
  rw [takeCells_whole (by simp [GPlace.len])]
  simp only [Do_of]
  have hwk : L.weak = lstA GExpr.cells done := by
   have hs : AV.weaks (done.flatMap GExpr.cells) = done.flatMap GExpr.cells := by rw [← GExpr.all_eq]; exact GExpr.weaksA done
   rw [ow.weak hs]; rfl
  have := hQ (H.set i1 (.row ([.int .i64 kind, .int .u64 0, .str [], .int .i64 0, .int .i64 o] ++ pl.cells ++ [L]))) (kk.setL h1 _) (p.setL (by omega) _)
  simp only [kidsM, List.append_nil] at this
  rw [GExpr.cells_eq] at this
  simp only [AV.weak, weaks_app, AV.weaks, GPlace.weaks, hwk]
  simpa using this
 | succ k ih =>
  intro H s L done hk kk p w f a1 a4 ow hQ
  refine LoopP.step ?_
  simp only [S.parse_parser_access_l2, sl_zero, abin_lss, Do_of, Gd_true]
  rw [if_pos (by simp only [decide_eq_true_eq]; omega)]
  simp only [afaddr, Do_of, Nat.zero_add]
  rw [hld a4]
  simp only [Do_of, abin_add]
  have se := Sub.expr kw val n (x64 (d + 1)) s
  refine hex _ _ _ _ _ p w f fun H2 k2 p2 => ?_
  have c1 := k2.2 _ _ (by omega) a1
  have c4 := k2.2 _ _ (by omega) a4
  have ow2 := ow.keep hid k2
  have em : kidsM (fun d s => exprM kw val n d s) d (k + 1) s = ((exprM kw val n (x64 (d + 1)) s).1 :: (kidsM (fun d s => exprM kw val n d s) d k (exprM kw val n (x64 (d + 1)) s).2).1, (kidsM (fun d s => exprM kw val n d s) d k (exprM kw val n (x64 (d + 1)) s).2).2) := rfl
  rw [em] at hQ
  generalize exprM kw val n (x64 (d + 1)) s = e at p2 hQ se
  refine ⟨hld c4, ?_⟩
  rw [agg8_slice]
  simp only [DoH_some]
  refine ow2.app (Nat.le_trans kk.1 k2.1) (m := 1) (news := e.1.cells) (by simp [acells, GExpr.len]) (by rw [GExpr.len]) (GExpr.scalar _) (by decide) (by omega) (by omega) fun x' H3 ow3 l3 => ?_
  have d1 := l3.row c1
  have d4 := l3.row c4
  have hsx : x'.scalar = true := by obtain ⟨tk, rfl, _, _⟩ := ow3; rfl
  have hcx : x'.cells = [x'] := by obtain ⟨tk, rfl, _, _⟩ := ow3; rfl
  have hkx : x'.known = true := by obtain ⟨tk, rfl, _, _⟩ := ow3; rfl
  rw [d4.store, if_pos ⟨hkx, by rw [hcx]; rfl, by rw [hcx]; simp [hsx], by simp [GPlace.len]⟩, hcx]
  simp only [Do_of]
  have er : setCells ([.int .i64 kind, .int .u64 0, .str [], .int .i64 0, .int .i64 o] ++ pl.cells ++ [L]) 7 [x'] = [.int .i64 kind, .int .u64 0, .str [], .int .i64 0, .int .i64 o] ++ pl.cells ++ [x'] := by
   rw [GPlace.cells_eq]; rfl
  rw [er, wrap_i64 (by omega) (by omega)]
  have hq' := ih (H3.set i4 (.row ([.int .i64 kind, .int .u64 0, .str [], .int .i64 0, .int .i64 o] ++ pl.cells ++ [x']))) e.2 x' (done ++ [e.1]) (by rw [List.length_append, List.length_singleton]; omega) (((kk.trans k2).left l3).setL h4 _) ((p2.left l3).setL (by omega) _) (se.1 w) (se.few f) (d1.set_ne hne _) (d4.set _) ?_ fun H' k' p' => ?_
  · rw [List.length_append, List.length_singleton] at hq'
    exact hq'
  · have : OwnT H0.n H3 8 x' (done ++ [e.1]).length ((done ++ [e.1]).flatMap GExpr.cells) := by
      rw [List.length_append, List.length_singleton, List.flatMap_append]
      simpa using ow3
    exact this.frame fun t a b ht => ht.set_ne (fun e => by subst e; have := ht.2.symm.trans d4.2; cases this) _
  · have := hQ H' k' p'
    rw [List.append_assoc]
    exact this
theorem p_access (hT : Cl Φ S.tab_Lex) (hW : Wk Φ) {n : Nat} (hex : ExpOK Φ kw val n) (hpl : PlaceOK Φ kw val n) {H : AH} {Q : Post} {id : Nat} {s : PSt} {kind d : Int} {m : Nat} (hm : m ≤ 2) (p : PS H id s) (w : Wf s) (f : Few n s)
  (hQ : ∀ H', KeepP id H H' → PS H' id (accM kw (fun d s => exprM kw val n d s) (fun d s => partsM kw val n d s) kind m d s).2 → Q (.agg (accM kw (fun d s => exprM kw val n d s) (fun d s => partsM kw val n d s) kind m d s).1.cells) H') : Φ K.parse_parser_access [.ptr id 0, .int .i64 kind, .int .i64 m, .int .i64 d] H Q := by
 refine hW _ _ _ _ (S.cl_parse_parser_access hT ?_)
 unfold S.parse_parser_access
 have hid := lt_of_ps p
 have ez : ([.int .i64 0, .int .u64 0, .str [], .int .i64 0, .int .i64 0, .str [], .lst .nil 0 [], .lst .nil 0 []] : List AV) = z8 := rfl
 rw [ez]
 simp only [abox, if_true, DoH_some]
 rw [show abuild z8 [(0, 1, .int .i64 kind)] = some (.agg [.int .i64 kind, .int .u64 0, .str [], .int .i64 0, .int .i64 0, .str [], .lst .nil 0 [], .lst .nil 0 []]) from rfl]
 simp only [Do_of]
 have a1 : At (H.push (.row z8)) H.n (.row z8) := At.new H _
 have hn1 : (H.push (.row z8)).n = H.n + 1 := rfl
 have kk := KeepP.push id H (.row z8)
 have p1 := p.pushL (.row z8)
 generalize H.push (.row z8) = H1 at a1 hn1 kk p1
 rw [store_new H1 z8 _ 8 rfl rfl rfl]
 simp only [Do_of]
 have a4 : At (H1.push (.row [.int .i64 kind, .int .u64 0, .str [], .int .i64 0, .int .i64 0, .str [], .lst .nil 0 [], .lst .nil 0 []])) H1.n (.row [.int .i64 kind, .int .u64 0, .str [], .int .i64 0, .int .i64 0, .str [], .lst .nil 0 [], .lst .nil 0 []]) := At.new H1 _
 have b1 := a1.push (.row [.int .i64 kind, .int .u64 0, .str [], .int .i64 0, .int .i64 0, .str [], .lst .nil 0 [], .lst .nil 0 []])
 have k6 := kk.pushL (.row [.int .i64 kind, .int .u64 0, .str [], .int .i64 0, .int .i64 0, .str [], .lst .nil 0 [], .lst .nil 0 []])
 have p6 := p1.pushL (.row [.int .i64 kind, .int .u64 0, .str [], .int .i64 0, .int .i64 0, .str [], .lst .nil 0 [], .lst .nil 0 []])
 generalize H1.push (.row [.int .i64 kind, .int .u64 0, .str [], .int .i64 0, .int .i64 0, .str [], .lst .nil 0 [], .lst .nil 0 []]) = H6 at a4 b1 k6 p6
 have k3 : ∀ (o : Int × PSt) (H8 : AH), o = (if kind = 4 then (0, s) else orderM s) → Sub s o.2 → KeepP id H H8 → PS H8 id o.2 → At H8 H.n (.row z8) → At H8 H1.n (.row [.int .i64 kind, .int .u64 0, .str [], .int .i64 0, .int .i64 o.1, .str [], .lst .nil 0 [], .lst .nil 0 []]) →
   JoinP (S.parse_parser_access_k3 Φ (.ptr id 0) (.int .i64 m) (.int .i64 d) (.ptr H.n 0) (.ptr H1.n 0) fun v H' => Q v.weak H') [] H8 := by
  intro o H8 eo so k8 p8 c1 c4
  simp only [JoinP_def, S.parse_parser_access_k3]
  have sp := Sub.place kw (Sub.parts kw val n) d o.2
  refine hpl _ _ _ _ _ p8 (so.1 w) (so.few f) fun H15 k15 p15 => ?_
  have em : accM kw (fun d s => exprM kw val n d s) (fun d s => partsM kw val n d s) kind m d s = (⟨kind, 0, [], 0, o.1, (placeM' kw (partsM kw val n) d o.2).1, (kidsM (fun d s => exprM kw val n d s) d m (placeM' kw (partsM kw val n) d o.2).2).1⟩, (kidsM (fun d s => exprM kw val n d s) d m (placeM' kw (partsM kw val n) d o.2).2).2) := by
   unfold accM
   dsimp only
   rw [← eo]
  rw [em] at hQ
  generalize placeM' kw (partsM kw val n) d o.2 = pl at p15 hQ sp
  have d1 := k15.2 _ _ (by omega) c1
  have d4 := k15.2 _ _ (by omega) c4
  simp only [afaddr, Do_of, Nat.zero_add]
  rw [d4.store, if_pos ⟨rfl, GPlace.len _, GPlace.scalar _, by simp⟩]
  simp only [Do_of, AV.cells]
  have er : setCells [.int .i64 kind, .int .u64 0, .str [], .int .i64 0, .int .i64 o.1, .str [], .lst .nil 0 [], .lst .nil 0 []] 5 pl.1.cells = [.int .i64 kind, .int .u64 0, .str [], .int .i64 0, .int .i64 o.1] ++ pl.1.cells ++ [.lst .nil 0 []] := by
   rw [GPlace.cells_eq]; rfl
  rw [er]
  exact kids_loop hT (pl := pl.1) hex hid (Nat.le_refl _) (by omega) (by omega) hm m _ pl.2 (.lst .nil 0 []) [] (by simp) ((k8.trans k15).setL (by omega) _) (p15.setL (by omega) _) (sp.1 (so.1 w)) (sp.few (so.few f)) (d1.set_ne (by omega) _) (d4.set _) (OwnT.nil _ _ _) hQ
 simp only [abin_neq, Do_of, Gd_true]
 refine ite_both (fun hx => ?_) (fun hx => ?_)
 · have hk : kind ≠ 4 := by simpa using hx
   refine p_order hT p6 fun H11 k11 p11 => ?_
   have c1 := k11.2 _ _ (by omega) b1
   have c4 := k11.2 _ _ (by omega) a4
   simp only [afaddr, Do_of, Nat.zero_add]
   rw [c4.store, if_pos ⟨rfl, rfl, rfl, by simp⟩]
   simp only [Do_of, AV.cells]
   exact k3 (orderM s) _ (by rw [if_neg hk]) (Sub.order s) ((k6.trans k11).setL (by omega) _) (p11.setL (by omega) _) (c1.set_ne (by omega) _) (c4.set _)
 · have hk : kind = 4 := by simpa using hx
   exact k3 (0, s) _ (by rw [if_pos hk]) (Sub.rfl s) k6 p6 b1 a4
end
end Rb

set_option linter.unusedVariables false
set_option linter.unusedSimpArgs false
set_option linter.unusedSectionVars false
namespace Rb
open Go
section
variable {Φ : Calls'} {kw : List UInt8 → Bool} {val : List UInt8 → Int}
theorem p_expr (hT : Cl Φ S.tab_Lex) (hW : Wk Φ) (hkw : ∀ x, Val Φ K.lex_Keyword [.str x] (.bool (kw x))) (hv : NumV Φ val) : ∀ n, ExpOK Φ kw val n := by
 intro n
 induction n using Nat.strongRecOn with
 | ind n ih =>
 intro H Q id s d p w f hQ
 refine hW _ _ _ _ (S.cl_parse_parser_expr hT ?_)
 unfold S.parse_parser_expr
 have hid := lt_of_ps p
 have ez : ([.int .i64 0, .int .u64 0, .str [], .int .i64 0, .int .i64 0, .str [], .lst .nil 0 [], .lst .nil 0 []] : List AV) = z8 := rfl
 rw [ez]
 simp only [abox, if_true, DoH_some]
 have p2 : PS (H.push (.row z8)) id s := p.pushL _
 have a1 : At (H.push (.row z8)) H.n (.row z8) := At.new H _
 have kk : KeepP id H (H.push (.row z8)) := KeepP.push id H _
 have ret : ∀ (ds : List AV) (t : GExpr) (s' : PSt) (H' : AH), KeepP id H H' → PS H' id s' → At H' H.n (.row z8) → AV.weaks ds = t.cells → ds.all AV.scalar = true → (∀ H', KeepP id H H' → PS H' id s' → Q (.agg t.cells) H') →
   Do (astore H' 8 (.ptr H.n 0) (.agg ds)) fun H'' => Do (aload H'' 8 true (.ptr H.n 0)) fun v => Q v.weak H'' := by
  intro ds t s' H' k' p' a' hds hsc hq
  have hl : ds.length = 8 := by rw [← weaks_len, hds, GExpr.len]
  rw [a'.store, if_pos ⟨rfl, hl, hsc, by decide⟩]
  simp only [Do_of, AV.cells]
  rw [setCells_all (by rw [hl]; rfl), (a'.set _).load]
  simp only [List.take_zero, List.nil_append]
  rw [takeCells_whole hl]
  simp only [Do_of, AV.weak, hds]
  exact hq _ (k'.setL (Nat.le_refl _) _) (p'.setL (by omega) _)
 have bz : abuild z8 [] = some (.agg z8) := rfl
 refine p_deep hT p2 fun H4 k4 p4 => ?_
 have b1 := k4.2 _ _ (by omega) a1
 have kb := kk.trans k4
 have sd := Sub.deep s d
 simp only [aun_not, Do_of, Gd_true, bz]
 have bad : ∀ s' : PSt, (exprM kw val n d s) = (exZ, s') → PS H4 id s' → Do (astore H4 8 (.ptr H.n 0) (.agg z8)) fun H7 => Do (aload H7 8 true (.ptr H.n 0)) fun x8 => Q x8.weak H7 := by
  intro s' e ps
  rw [e] at hQ
  exact ret z8 exZ s' H4 kb ps b1 rfl rfl hQ
 cases n with
 | zero =>
  have hb := f.zero w
  have e : s.deep d = s := by
   unfold PSt.deep
   split
   · unfold PSt.fail; rw [if_neg hb]
   · rfl
  rw [e] at p4 ⊢
  rw [if_pos (by simpa using hb)]
  exact bad s (by unfold exprM; rfl) p4
 | succ n =>
 have f1 := sd.few f
 have w1 := sd.1 w
 have hex := ih n (Nat.lt_succ_self n)
 have hpl : PlaceOK Φ kw val n := p_place hT hW hkw fun m hm => ih m (by omega)
 conv at hQ => intro H' _; unfold exprM
 dsimp only at hQ
 generalize es : s.deep d = s1 at p4 sd f1 w1 hQ
 refine ite_both (fun hx => ?_) (fun hx => ?_)
 · have hb : s1.fk ≠ 0 := by simpa using hx
   rw [if_pos hb] at hQ
   exact ret z8 exZ s1 H4 kb p4 b1 rfl rfl hQ
 have h0 : s1.fk = 0 := by simpa using hx
 rw [if_neg (by simpa using h0)] at hQ
 refine p_peek hT p4 ?_
 refine p_digits hT ?_
 refine ite_both (fun hd => ?_) (fun hd => ?_)
 · rw [if_pos hd] at hQ
   refine p_num hT hv p4 w1 fun H16 k16 p16 => ?_
   rw [show abuild z8 [(0, 1, .int .i64 1), (1, 1, .int .u64 (s1.num val 18446744073709551615).1)] = some (.agg [.int .i64 1, .int .u64 (s1.num val 18446744073709551615).1, .str [], .int .i64 0, .int .i64 0, .str [], .lst .nil 0 [], .lst .nil 0 []]) from rfl]
   simp only [Do_of]
   exact ret _ ⟨1, (s1.num val 18446744073709551615).1, [], 0, 0, plZ, []⟩ _ H16 (kb.trans k16) p16 (k16.2 _ _ (by omega) b1) rfl rfl hQ
 rw [if_neg hd] at hQ
 have k2 : ∀ b : Bool, (b = true ↔ (lettersM s1.hd.1 = true ∧ kw s1.hd.1 = false)) → JoinP (S.parse_parser_expr_k2 Φ (.ptr id 0) (.int .i64 d) (.ptr H.n 0) fun v H' => Q v.weak H') [.bool b] H4 := by
  intro b hb
  simp only [JoinP_def, S.parse_parser_expr_k2, sl_zero, Gd_true, ez]
  refine ite_both (fun hl => ?_) (fun hl => ?_)
  · rw [if_pos (hb.1 hl)] at hQ
    refine p_next hT p4 fun H28 k28 p28 => ?_
    rw [show abuild z8 [(0, 1, .int .i64 2), (2, 1, .str s1.hd.1)] = some (.agg [.int .i64 2, .int .u64 0, .str s1.hd.1, .int .i64 0, .int .i64 0, .str [], .lst .nil 0 [], .lst .nil 0 []]) from rfl]
    simp only [Do_of]
    exact ret _ ⟨2, 0, s1.hd.1, 0, 0, plZ, []⟩ _ H28 (kb.trans k28) p28 (k28.2 _ _ (by omega) b1) rfl rfl hQ
  rw [if_neg (fun h => hl (hb.2 h))] at hQ
  have yes : ∀ {w' : List UInt8}, s1.isW w' = true → s1.isA w' = s1.adv := fun h => by unfold PSt.isA; rw [if_pos h]
  have no : ∀ {w' : List UInt8}, ¬ s1.isW w' = true → s1.isA w' = s1 := fun h => by unfold PSt.isA; rw [if_neg h]
  refine p_is hT p4 fun H5 k5 p5 => ?_
  have kb5 := kb.trans k5
  have b5 := k5.2 _ _ (by omega) b1
  refine ite_both (fun hy => ?_) (fun hy => ?_)
  · rw [yes hy] at p5
    rw [if_pos hy] at hQ
    refine p_binary hT hW hex p5 w1.adv (f1.isW w1 hy (by decide)) fun H6 k6 p6 => ?_
    exact ret _ _ _ H6 (kb5.trans k6) p6 (k6.2 _ _ (by omega) b5) (GExpr.weaks _) (GExpr.scalar _) hQ
  rw [no hy] at p5
  rw [if_neg hy] at hQ
  refine p_is hT p5 fun H7 k7 p7 => ?_
  have kb7 := kb5.trans k7
  have b7 := k7.2 _ _ (by omega) b5
  refine ite_both (fun hy => ?_) (fun hy => ?_)
  · rw [yes hy] at p7
    rw [if_pos hy] at hQ
    refine p_access hT hW hex hpl (m := 0) (by decide) p7 w1.adv (f1.isW w1 hy (by decide)) fun H6 k6 p6 => ?_
    exact ret _ _ _ H6 (kb7.trans k6) p6 (k6.2 _ _ (by omega) b7) (GExpr.weaks _) (GExpr.scalar _) hQ
  rw [no hy] at p7
  rw [if_neg hy] at hQ
  refine p_is hT p7 fun H8 k8 p8 => ?_
  have kb8 := kb7.trans k8
  have b8 := k8.2 _ _ (by omega) b7
  refine ite_both (fun hy => ?_) (fun hy => ?_)
  · rw [yes hy] at p8
    rw [if_pos hy] at hQ
    refine p_access hT hW hex hpl (m := 0) (by decide) p8 w1.adv (f1.isW w1 hy (by decide)) fun H6 k6 p6 => ?_
    exact ret _ _ _ H6 (kb8.trans k6) p6 (k6.2 _ _ (by omega) b8) (GExpr.weaks _) (GExpr.scalar _) hQ
  rw [no hy] at p8
  rw [if_neg hy] at hQ
  refine p_is hT p8 fun H9 k9 p9 => ?_
  have kb9 := kb8.trans k9
  have b9 := k9.2 _ _ (by omega) b8
  refine ite_both (fun hy => ?_) (fun hy => ?_)
  · rw [yes hy] at p9
    rw [if_pos hy] at hQ
    refine p_access hT hW hex hpl (m := 1) (by decide) p9 w1.adv (f1.isW w1 hy (by decide)) fun H6 k6 p6 => ?_
    exact ret _ _ _ H6 (kb9.trans k6) p6 (k6.2 _ _ (by omega) b9) (GExpr.weaks _) (GExpr.scalar _) hQ
  rw [no hy] at p9
  rw [if_neg hy] at hQ
  refine p_is hT p9 fun H10 k10 p10 => ?_
  have kb10 := kb9.trans k10
  have b10 := k10.2 _ _ (by omega) b9
  refine ite_both (fun hy => ?_) (fun hy => ?_)
  · rw [yes hy] at p10
    rw [if_pos hy] at hQ
    refine p_access hT hW hex hpl (m := 1) (by decide) p10 w1.adv (f1.isW w1 hy (by decide)) fun H6 k6 p6 => ?_
    exact ret _ _ _ H6 (kb10.trans k6) p6 (k6.2 _ _ (by omega) b10) (GExpr.weaks _) (GExpr.scalar _) hQ
  rw [no hy] at p10
  rw [if_neg hy] at hQ
  refine p_is hT p10 fun H11 k11 p11 => ?_
  have kb11 := kb10.trans k11
  have b11 := k11.2 _ _ (by omega) b10
  refine ite_both (fun hy => ?_) (fun hy => ?_)
  · rw [yes hy] at p11
    rw [if_pos hy] at hQ
    refine p_access hT hW hex hpl (m := 2) (by decide) p11 w1.adv (f1.isW w1 hy (by decide)) fun H6 k6 p6 => ?_
    exact ret _ _ _ H6 (kb11.trans k6) p6 (k6.2 _ _ (by omega) b11) (GExpr.weaks _) (GExpr.scalar _) hQ
  rw [no hy] at p11
  rw [if_neg hy] at hQ
  simp only [JoinP_def, S.parse_parser_expr_k1, ez, bz]
  refine p_fail hT p11 fun H6 k6 p6 => ?_
  simp only [Do_of]
  exact ret z8 exZ (s1.fail 4) H6 (kb11.trans k6) p6 (k6.2 _ _ (by omega) b11) rfl rfl hQ
 refine p_letters hT ?_
 simp only [Gd3_true]
 refine ite_both (fun hl => ?_) (fun hl => ?_)
 · refine hkw _ _ _ ?_
   simp only [aun_not, Do_of]
   exact k2 _ (by simp [hl])
 · exact k2 _ (by simp [hl])
end
end Rb

set_option linter.unusedVariables false
set_option linter.unusedSimpArgs false
set_option linter.unusedSectionVars false
namespace Rb
open Go
section
variable (kw : List UInt8 → Bool) (val : List UInt8 → Int)
theorem Sub.block {ss : Int → PSt → List GStmt × PSt} (h : ∀ d s, Sub s (ss d s).2) (d : Int) (s : PSt) : Sub s (blockF ss d s).2 := by
 unfold blockF
 dsimp only
 split
 · exact Sub.deep _ _
 · exact ((Sub.deep _ _).trans (Sub.want _ _)).trans (h _ _)
theorem Sub.value {ex : Int → PSt → GExpr × PSt} (h : ∀ d s, Sub s (ex d s).2) (d : Int) (s : PSt) : Sub s (valueF ex d s).2 := (Sub.want _ _).trans (h _ _)
theorem Sub.control {ex : Int → PSt → GExpr × PSt} {ss : Int → PSt → List GStmt × PSt} (h : ∀ d s, Sub s (ex d s).2) (k : ∀ d s, Sub s (ss d s).2) (x : GStmt) (d : Int) (s : PSt) : Sub s (controlF ex ss x d s).2 := by
 unfold controlF
 dsimp only
 repeat' split
 · exact ((((Sub.adv _).trans (h _ _)).trans (Sub.block k _ _)).trans (Sub.adv _)).trans (Sub.block k _ _)
 · exact ((Sub.adv _).trans (h _ _)).trans (Sub.block k _ _)
 · exact ((Sub.adv _).trans (h _ _)).trans (Sub.block k _ _)
 · exact Sub.fail _ _
theorem Sub.stmt {ex : Int → PSt → GExpr × PSt} {pa : Int → PSt → List GPart × PSt} {ss : Int → PSt → List GStmt × PSt} (h : ∀ d s, Sub s (ex d s).2) (g : ∀ d s, Sub s (pa d s).2) (k : ∀ d s, Sub s (ss d s).2) (d : Int) (s : PSt) : Sub s (stmtF kw ex pa ss d s).2 := by
 unfold stmtF
 dsimp only
 repeat' split
 · exact (((Sub.adv _).trans (Sub.nameS kw _)).trans (Sub.value h _ _)).trans (Sub.want _ _)
 · exact (((Sub.adv _).trans (Sub.nameS kw _)).trans (Sub.value h _ _)).trans (Sub.want _ _)
 · exact (((Sub.adv _).trans (Sub.place kw g _ _)).trans (Sub.value h _ _)).trans (Sub.want _ _)
 · exact ((((Sub.adv _).trans (Sub.order _)).trans (Sub.place kw g _ _)).trans (Sub.value h _ _)).trans (Sub.want _ _)
 · exact (((((Sub.adv _).trans (Sub.order _)).trans (Sub.place kw g _ _)).trans (Sub.nameS kw _)).trans (Sub.nameS kw _)).trans (Sub.want _ _)
 · exact ((((((Sub.adv _).trans (Sub.order _)).trans (Sub.place kw g _ _)).trans (Sub.value h _ _)).trans (Sub.want _ _)).trans (h _ _)).trans (Sub.want _ _)
 · exact ((Sub.adv _).trans (Sub.order _)).trans (Sub.want _ _)
 · exact ((Sub.adv _).trans (h _ _)).trans (Sub.want _ _)
 · exact Sub.control h k _ _ _
theorem Sub.stmts : ∀ (n : Nat) (d : Int) (s : PSt), Sub s (stmtsM kw val n d s).2
 | 0, d, s => by unfold stmtsM; exact Sub.rfl s
 | n + 1, d, s => by
  unfold stmtsM
  split
  · exact Sub.rfl s
  · split
    · exact Sub.adv s
    · exact (Sub.stmt kw (Sub.expr kw val n) (Sub.parts kw val n) (Sub.stmts n) d s).trans (Sub.stmts n _ _)
theorem Sub.vars : ∀ (n : Nat) (s : PSt), Sub s (varsM kw val n s).2
 | 0, s => by unfold varsM; exact Sub.rfl s
 | n + 1, s => by
  unfold varsM
  split
  · exact ((((Sub.adv _).trans (Sub.nameS kw _)).trans (Sub.typ kw val n _ _)).trans (Sub.want _ _)).trans (Sub.vars n _)
  · exact Sub.rfl s
theorem Sub.thrs : ∀ (n : Nat) (s : PSt), Sub s (thrsM kw val n s).2
 | 0, s => by unfold thrsM; exact Sub.rfl s
 | n + 1, s => by
  unfold thrsM
  split
  · exact ((Sub.adv _).trans (Sub.block (Sub.stmts kw val n) _ _)).trans (Sub.thrs n _)
  · exact Sub.rfl s
end
end Rb

set_option linter.unusedVariables false
set_option linter.unusedSimpArgs false
set_option linter.unusedSectionVars false
namespace Rb
open Go
section
variable {Φ : Calls'} {kw : List UInt8 → Bool} {val : List UInt8 → Int}
theorem p_value (hT : Cl Φ S.tab_Lex) {n : Nat} (hex : ExpOK Φ kw val n) {H : AH} {Q : Post} {id : Nat} {s : PSt} {d : Int} (p : PS H id s) (w : Wf s) (f : Few n s)
  (hQ : ∀ H', KeepP id H H' → PS H' id (valueF (exprM kw val n) d s).2 → Q (.lst .full 1 (valueF (exprM kw val n) d s).1.cells) H') : Φ K.parse_parser_value [.ptr id 0, .int .i64 d] H Q := by
 refine S.cl_parse_parser_value hT ?_
 unfold S.parse_parser_value
 refine p_want hT p fun H2 k2 p2 => ?_
 simp only [abin_add, Do_of]
 have sw := Sub.want s [61]
 refine hex _ _ _ _ _ p2 (sw.1 w) (sw.few f) fun H5 k5 p5 => ?_
 rw [agg8_slice]
 simp only [DoH_some]
 exact hQ H5 (k2.trans k5) p5
end
end Rb

set_option linter.unusedVariables false
set_option linter.unusedSimpArgs false
set_option linter.unusedSectionVars false
namespace Rb
open Go
def z10 (l : Int) : List AV := [.int .i64 0, .int .i64 l, .str [], .str [], .int .i64 0, .str [], .lst .nil 0 [], .lst .nil 0 [], .lst .nil 0 [], .lst .nil 0 []]
structure SF (H0 : AH) (id i1 i10 : Nat) (H : AH) (s : PSt) (r : List AV) : Prop where
 hid : id < H0.n
 h1 : H0.n ≤ i1
 h10 : H0.n ≤ i10
 ne : i1 ≠ i10
 len : r.length = 10
 kk : KeepP id H0 H
 ps : PS H id s
 a1 : At H i1 (.row (z10 0))
 a10 : At H i10 (.row r)
section
variable {H0 H : AH} {id i1 i10 : Nat} {s : PSt} {r : List AV}
theorem SF.call (h : SF H0 id i1 i10 H s r) {H' : AH} {s' : PSt} (k : KeepP id H H') (p : PS H' id s') : SF H0 id i1 i10 H' s' r :=
 ⟨h.hid, h.h1, h.h10, h.ne, h.len, h.kk.trans k, p, k.2 _ _ (by have := h.hid; have := h.h1; omega) h.a1, k.2 _ _ (by have := h.hid; have := h.h10; omega) h.a10⟩
theorem setCells_len : ∀ (ys xs : List AV) (o : Nat), (setCells xs o ys).length = xs.length
 | [], xs, o => rfl
 | y :: ys, xs, o => by rw [setCells, setCells_len ys, List.length_set]
theorem SF.put (h : SF H0 id i1 i10 H s r) {r' : List AV} (hl : r'.length = 10) : SF H0 id i1 i10 (H.set i10 (.row r')) s r' :=
 ⟨h.hid, h.h1, h.h10, h.ne, hl, h.kk.setL h.h10 _, h.ps.setL (by have := h.hid; have := h.h10; omega) _, h.a1.set_ne h.ne _, h.a10.set _⟩
theorem SF.store (h : SF H0 id i1 i10 H s r) {n o : Nat} {v : AV} (hk : v.known = true) (hl : v.cells.length = n) (hs : v.cells.all AV.scalar = true) (ho : o + n ≤ 10) {K : AH → Prop} (hK : ∀ H', SF H0 id i1 i10 H' s (setCells r o v.cells) → K H') : Do (astore H n (.ptr i10 o) v) K := by
 rw [h.a10.st hk hl hs (by rw [h.len]; exact ho)]
 exact ⟨_, rfl, hK _ (h.put (by rw [setCells_len, h.len]))⟩
theorem SF.ret1 (h : SF H0 id i1 i10 H s r) {x : GStmt} {ds : List AV} {Q : Post} (hr : AV.weaks ds = x.cells) (hs : ds.all AV.scalar = true) (hq : ∀ H', KeepP id H0 H' → PS H' id s → Q (.agg x.cells) H') :
  Do (astore H 10 (.ptr i1 0) (.agg ds)) fun H30 => Do (aload H30 10 true (.ptr i1 0)) fun x31 => Q x31.weak H30 := by
 have hl : ds.length = 10 := by rw [← weaks_len, hr, GStmt.len]
 rw [h.a1.st (n := 10) (o := 0) (v := .agg ds) rfl hl hs (by decide)]
 simp only [Do_of, AV.cells]
 rw [setCells_all (by rw [hl]; rfl), (h.a1.set _).load]
 simp only [List.take_zero, List.nil_append]
 rw [takeCells_whole hl]
 simp only [Do_of, AV.weak, hr]
 exact hq _ (h.kk.setL h.h1 _) (h.ps.setL (by have := h.hid; have := h.h1; omega) _)
theorem SF.ret (h : SF H0 id i1 i10 H s r) {x : GStmt} {Q : Post} (hr : AV.weaks r = x.cells) (hs : r.all AV.scalar = true) (hq : ∀ H', KeepP id H0 H' → PS H' id s → Q (.agg x.cells) H') :
  Do (aload H 10 true (.ptr i10 0)) fun x29 => Do (astore H 10 (.ptr i1 0) x29) fun H30 => Do (aload H30 10 true (.ptr i1 0)) fun x31 => Q x31.weak H30 := by
 rw [h.a10.load, takeCells_whole h.len]
 simp only [Do_of]
 exact h.ret1 hr hs hq
end
def BlockOK (Φ : Calls') (kw : List UInt8 → Bool) (val : List UInt8 → Int) (n : Nat) : Prop :=
 ∀ (H : AH) (Q : Post) (id : Nat) (s : PSt) (d : Int), PS H id s → Wf s → Few n s → (∀ H', KeepP id H H' → PS H' id (blockF (stmtsM kw val n) d s).2 → Q (lstA GStmt.cells (blockF (stmtsM kw val n) d s).1) H') → Φ K.parse_parser_block [.ptr id 0, .int .i64 d] H Q
theorem isA_yes {s : PSt} {w : List UInt8} (h : s.isW w = true) : s.isA w = s.adv := by unfold PSt.isA; rw [if_pos h]
theorem isA_no {s : PSt} {w : List UInt8} (h : ¬ s.isW w = true) : s.isA w = s := by unfold PSt.isA; rw [if_neg h]
section
variable {Φ : Calls'} {kw : List UInt8 → Bool} {val : List UInt8 → Int}
theorem p_control (hT : Cl Φ S.tab_Lex) (hW : Wk Φ) {n : Nat} (hex : ExpOK Φ kw val n) (hbl : BlockOK Φ kw val n) {H : AH} {Q : Post} {id : Nat} {s : PSt} {d line : Int} (p : PS H id s) (w : Wf s) (f : Few (n + 1) s)
  (hQ : ∀ H', KeepP id H H' → PS H' id (controlF (exprM kw val n) (stmtsM kw val n) (stZ line) d s).2 → Q (.agg (controlF (exprM kw val n) (stmtsM kw val n) (stZ line) d s).1.cells) H') : Φ K.parse_parser_control [.ptr id 0, .agg (z10 line), .int .i64 d] H Q := by
 refine hW _ _ _ _ (S.cl_parse_parser_control hT ?_)
 unfold S.parse_parser_control
 have hid := lt_of_ps p
 rw [show aboxv H true 10 (.agg (z10 line)) = some (.ptr H.n 0, H.push (.row (z10 line))) from rfl]
 simp only [DoH_some, abox, if_true]
 have ez : ([.int .i64 0, .int .i64 0, .str [], .str [], .int .i64 0, .str [], .lst .nil 0 [], .lst .nil 0 [], .lst .nil 0 [], .lst .nil 0 []] : List AV) = z10 0 := rfl
 rw [ez]
 have hn1 : (H.push (.row (z10 line))).n = H.n + 1 := rfl
 have f0 : SF H id (H.n + 1) H.n ((H.push (.row (z10 line))).push (.row (z10 0))) s (z10 line) :=
  ⟨hid, by omega, Nat.le_refl _, by omega, rfl, (KeepP.push id H _).pushL _, (p.pushL _).pushL _, At.new _ _, (At.new H _).push _⟩
 rw [hn1]
 generalize (H.push (.row (z10 line))).push (.row (z10 0)) = H4 at f0
 conv at hQ => intro H' _; unfold controlF
 dsimp only at hQ
 have k3 : ∀ (k : Int) (H6 : AH), (k = 8 ∨ k = 9) → Few n s.adv → SF H id (H.n + 1) H.n H6 s.adv (setCells (z10 line) 0 [.int .i64 k]) →
   (∀ H', KeepP id H H' → PS H' id (if k = 8 then (if (blockF (stmtsM kw val n) (x64 (d + 1)) (exprM kw val n (x64 (d + 1)) s.adv).2).2.isW [101, 108, 115, 101] = true then
       (({ stZ line with kind := 8, exprs := [(exprM kw val n (x64 (d + 1)) s.adv).1], thn := (blockF (stmtsM kw val n) (x64 (d + 1)) (exprM kw val n (x64 (d + 1)) s.adv).2).1, els := (blockF (stmtsM kw val n) (x64 (d + 1)) (blockF (stmtsM kw val n) (x64 (d + 1)) (exprM kw val n (x64 (d + 1)) s.adv).2).2.adv).1 } : GStmt), (blockF (stmtsM kw val n) (x64 (d + 1)) (blockF (stmtsM kw val n) (x64 (d + 1)) (exprM kw val n (x64 (d + 1)) s.adv).2).2.adv).2)
       else ({ stZ line with kind := 8, exprs := [(exprM kw val n (x64 (d + 1)) s.adv).1], thn := (blockF (stmtsM kw val n) (x64 (d + 1)) (exprM kw val n (x64 (d + 1)) s.adv).2).1 }, (blockF (stmtsM kw val n) (x64 (d + 1)) (exprM kw val n (x64 (d + 1)) s.adv).2).2))
     else ({ stZ line with kind := 9, exprs := [(exprM kw val n (x64 (d + 1)) s.adv).1], thn := (blockF (stmtsM kw val n) (x64 (d + 1)) (exprM kw val n (x64 (d + 1)) s.adv).2).1 }, (blockF (stmtsM kw val n) (x64 (d + 1)) (exprM kw val n (x64 (d + 1)) s.adv).2).2)).2 →
     Q (.agg (if k = 8 then (if (blockF (stmtsM kw val n) (x64 (d + 1)) (exprM kw val n (x64 (d + 1)) s.adv).2).2.isW [101, 108, 115, 101] = true then
       (({ stZ line with kind := 8, exprs := [(exprM kw val n (x64 (d + 1)) s.adv).1], thn := (blockF (stmtsM kw val n) (x64 (d + 1)) (exprM kw val n (x64 (d + 1)) s.adv).2).1, els := (blockF (stmtsM kw val n) (x64 (d + 1)) (blockF (stmtsM kw val n) (x64 (d + 1)) (exprM kw val n (x64 (d + 1)) s.adv).2).2.adv).1 } : GStmt), (blockF (stmtsM kw val n) (x64 (d + 1)) (blockF (stmtsM kw val n) (x64 (d + 1)) (exprM kw val n (x64 (d + 1)) s.adv).2).2.adv).2)
       else ({ stZ line with kind := 8, exprs := [(exprM kw val n (x64 (d + 1)) s.adv).1], thn := (blockF (stmtsM kw val n) (x64 (d + 1)) (exprM kw val n (x64 (d + 1)) s.adv).2).1 }, (blockF (stmtsM kw val n) (x64 (d + 1)) (exprM kw val n (x64 (d + 1)) s.adv).2).2))
     else ({ stZ line with kind := 9, exprs := [(exprM kw val n (x64 (d + 1)) s.adv).1], thn := (blockF (stmtsM kw val n) (x64 (d + 1)) (exprM kw val n (x64 (d + 1)) s.adv).2).1 }, (blockF (stmtsM kw val n) (x64 (d + 1)) (exprM kw val n (x64 (d + 1)) s.adv).2).2)).1.cells) H') →
   JoinP (S.parse_parser_control_k3 Φ (.ptr id 0) (.int .i64 d) (.ptr H.n 0) (.ptr (H.n + 1) 0) fun v H' => Q v.weak H') [] H6 := by
  intro k H6 hk f1 h6 hq
  simp only [JoinP_def, S.parse_parser_control_k3, abin_add, Do_of]
  have se := Sub.expr kw val n (x64 (d + 1)) s.adv
  refine hex _ _ _ _ _ h6.ps w.adv f1 fun H13 k13 p13 => ?_
  have h13 := h6.call k13 p13
  generalize exprM kw val n (x64 (d + 1)) s.adv = e at hq se h13
  rw [agg8_slice]
  simp only [DoH_some, afaddr, Do_of, Nat.zero_add]
  refine h13.store (n := 1) rfl rfl rfl (by decide) fun H17 h17 => ?_
  have sb := Sub.block (Sub.stmts kw val n) (x64 (d + 1)) e.2
  refine hbl _ _ _ _ _ h17.ps (se.1 w.adv) (se.few f1) fun H20 k20 p20 => ?_
  have h20 := h17.call k20 p20
  generalize blockF (stmtsM kw val n) (x64 (d + 1)) e.2 = a at hq sb h20
  refine h20.store (n := 1) rfl rfl rfl (by decide) fun H22 h22 => ?_
  have er : setCells (setCells (setCells (z10 line) 0 [AV.int .i64 k]) 7 (AV.lst .full 1 e.1.cells).cells) 8 (lstA GStmt.cells a.1).cells = [.int .i64 k, .int .i64 line, .str [], .str [], .int .i64 0, .str [], .lst .nil 0 [], .lst .full 1 e.1.cells, lstA GStmt.cells a.1, .lst .nil 0 []] := rfl
  rw [er] at h22
  have l0 : aload H22 1 false (.ptr H.n 0) = some (.int .i64 k) := by rw [h22.a10.load]; rfl
  rw [l0]
  simp only [Do_of, abin_eql, Gd3_true]
  have ws : AV.weak (lstA GStmt.cells a.1) = lstA GStmt.cells a.1 := lstA_weak GStmt.weaks _
  have k1 : ∀ (s' : PSt) (H24 : AH) (el : AV) (els : List GStmt), SF H id (H.n + 1) H.n H24 s' [.int .i64 k, .int .i64 line, .str [], .str [], .int .i64 0, .str [], .lst .nil 0 [], .lst .full 1 e.1.cells, lstA GStmt.cells a.1, el] → el.weak = lstA GStmt.cells els → el.scalar = true →
    (∀ H', KeepP id H H' → PS H' id s' → Q (.agg (GStmt.cells { stZ line with kind := k, exprs := [e.1], thn := a.1, els := els })) H') → JoinP (S.parse_parser_control_k1 Φ (.ptr H.n 0) (.ptr (H.n + 1) 0) fun v H' => Q v.weak H') [] H24 := by
   intro s' H24 el els h24 hel hsc hq'
   simp only [JoinP_def, S.parse_parser_control_k1]
   refine h24.ret ?_ (by simp only [List.all_cons, hsc]; rfl) hq'
   rw [GStmt.cells_eq, GPlace.cells_eq]
   simp only [AV.weaks, ws, hel]
   simp only [AV.weak, GExpr.weaks]
   simp [lstA, stZ, plZ, AV.weaks]
  have k2 : ∀ (b : Bool) (s' : PSt) (H26 : AH), (b = true ↔ (k = 8 ∧ a.2.isW [101, 108, 115, 101] = true)) → s' = (if b = true then a.2.adv else a.2) → SF H id (H.n + 1) H.n H26 s' [.int .i64 k, .int .i64 line, .str [], .str [], .int .i64 0, .str [], .lst .nil 0 [], .lst .full 1 e.1.cells, lstA GStmt.cells a.1, .lst .nil 0 []] →
    JoinP (S.parse_parser_control_k2 Φ (.ptr id 0) (.int .i64 d) (.ptr H.n 0) (.ptr (H.n + 1) 0) fun v H' => Q v.weak H') [.bool b] H26 := by
   intro b s' H26 hb hs' h26
   simp only [JoinP_def, S.parse_parser_control_k2, sl_zero, Gd_true]
   refine ite_both (fun hx => ?_) (fun hx => ?_)
   · obtain ⟨hk8, hel⟩ := hb.1 hx
     rw [if_pos hx] at hs'
     subst hs'
     simp only [hk8, if_true, hel] at hq
     simp only [abin_add, Do_of, afaddr, Nat.zero_add]
     refine hbl _ _ _ _ _ h26.ps ((se.trans sb).1 w.adv).adv ((se.trans sb).few f1).adv fun H34 k34 p34 => ?_
     have h34 := h26.call k34 p34
     generalize blockF (stmtsM kw val n) (x64 (d + 1)) a.2.adv = c at hq h34
     refine h34.store (n := 1) rfl rfl rfl (by decide) fun H36 h36 => ?_
     exact k1 c.2 H36 (lstA GStmt.cells c.1) c.1 h36 (lstA_weak GStmt.weaks _) rfl (by rw [hk8]; exact hq)
   · have hx' : b = false := by simpa using hx
     rw [hx'] at hs'
     simp only [Bool.false_eq_true, if_false] at hs'
     subst hs'
     refine k1 a.2 H26 (.lst .nil 0 []) [] h26 rfl rfl ?_
     rcases hk with hk | hk
     · have hel : ¬ a.2.isW [101, 108, 115, 101] = true := fun h => hx (hb.2 ⟨hk, h⟩)
       simp only [hk, if_true, hel, if_false, Bool.false_eq_true] at hq
       rw [hk]; exact hq
     · subst hk
       exact hq
  refine ite_both (fun hx => ?_) (fun hx => ?_)
  · have hk8 : k = 8 := by simpa using hx
    refine p_is hT h22.ps fun H31 k31 p31 => ?_
    refine k2 (a.2.isW [101, 108, 115, 101]) _ H31 ⟨fun h => ⟨hk8, h⟩, fun h => h.2⟩ rfl ?_
    exact h22.call k31 p31
  · have hk8 : k ≠ 8 := by simpa using hx
    exact k2 false a.2 H22 ⟨fun h => (Bool.false_ne_true h).elim, fun h => absurd h.1 hk8⟩ rfl h22
 refine p_is hT f0.ps fun H8 k8 p8 => ?_
 have h8 := f0.call k8 p8
 simp only [Gd_true]
 refine ite_both (fun hy => ?_) (fun hy => ?_)
 · rw [isA_yes hy] at h8
   rw [if_pos hy] at hQ
   simp only [afaddr, Do_of, Nat.zero_add]
   refine h8.store (n := 1) rfl rfl rfl (by decide) fun H10 h10 => ?_
   exact k3 8 H10 (.inl rfl) (f.isW w hy (by decide)) h10 hQ
 · rw [isA_no hy] at h8
   rw [if_neg hy] at hQ
   refine p_is hT h8.ps fun H41 k41 p41 => ?_
   have h41 := h8.call k41 p41
   refine ite_both (fun hz => ?_) (fun hz => ?_)
   · rw [isA_yes hz] at h41
     rw [if_pos hz] at hQ
     simp only [afaddr, Do_of, Nat.zero_add]
     refine h41.store (n := 1) rfl rfl rfl (by decide) fun H43 h43 => ?_
     exact k3 9 H43 (.inr rfl) (f.isW w hz (by decide)) h43 hQ
   · rw [isA_no hz] at h41
     rw [if_neg hz] at hQ
     refine p_fail hT h41.ps fun H45 k45 p45 => ?_
     have h45 := h41.call k45 p45
     exact h45.ret (x := stZ line) rfl rfl hQ
end
end Rb

set_option linter.unusedVariables false
set_option linter.unusedSimpArgs false
set_option linter.unusedSectionVars false
namespace Rb
open Go
section
variable {Φ : Calls'} {kw : List UInt8 → Bool} {val : List UInt8 → Int}
def StmtOK (Φ : Calls') (kw : List UInt8 → Bool) (val : List UInt8 → Int) (n : Nat) : Prop :=
 ∀ (H : AH) (Q : Post) (id : Nat) (s : PSt) (d : Int), PS H id s → Wf s → Few (n + 1) s → (∀ H', KeepP id H H' → PS H' id (stmtF kw (exprM kw val n) (partsM kw val n) (stmtsM kw val n) d s).2 → Q (.agg (stmtF kw (exprM kw val n) (partsM kw val n) (stmtsM kw val n) d s).1.cells) H') → Φ K.parse_parser_stmt [.ptr id 0, .int .i64 d] H Q
theorem p_stmt (hT : Cl Φ S.tab_Lex) (hW : Wk Φ) (hkw : ∀ x, Val Φ K.lex_Keyword [.str x] (.bool (kw x))) {n : Nat} (hex : ExpOK Φ kw val n) (hpl : PlaceOK Φ kw val n) (hbl : BlockOK Φ kw val n) : StmtOK Φ kw val n := by
 intro H Q id s d p w f hQ
 refine hW _ _ _ _ (S.cl_parse_parser_stmt hT ?_)
 unfold S.parse_parser_stmt
 have hid := lt_of_ps p
 have ez : ([.int .i64 0, .int .i64 0, .str [], .str [], .int .i64 0, .str [], .lst .nil 0 [], .lst .nil 0 [], .lst .nil 0 [], .lst .nil 0 []] : List AV) = z10 0 := rfl
 rw [ez]
 obtain ⟨w0, hw0, hwd, hlt⟩ := p.hdc
 have p2 : PS (H.push (.row (z10 0))) id s := p.pushL _
 obtain ⟨tk, hat, hl0⟩ := p2.l0
 simp only [abox, if_true, DoH_some, anilck, afaddr, Do_of, Nat.zero_add, hl0]
 have ha : aiaddr none 2 (tokV tk s.toks) (.int .i64 0) = some (elA tokC 2 s.toks 0) := tokV_addr hlt
 rw [ha]
 simp only [Do_of, elA, afaddr, pz_line _ hw0]
 rw [show abuild (z10 0) [(1, 1, .int .i64 w0.2)] = some (.agg (z10 w0.2)) from rfl]
 simp only [Do_of]
 have hn1 : (H.push (.row (z10 0))).n = H.n + 1 := rfl
 have k1 : KeepP id H (H.push (.row (z10 0))) := KeepP.push id H _
 have a1 : At (H.push (.row (z10 0))) H.n (.row (z10 0)) := At.new H _
 clear hl0 hat
 generalize H.push (.row (z10 0)) = H2 at p2 hn1 k1 a1
 rw [store_new H2 (z10 0) (z10 w0.2) 10 rfl rfl rfl]
 simp only [Do_of]
 rw [hn1]
 have f0 : SF H id H.n (H.n + 1) (H2.push (.row (z10 w0.2))) s (z10 w0.2) := by
  have := At.new H2 (.row (z10 w0.2))
  rw [hn1] at this
  exact ⟨hid, Nat.le_refl _, by omega, by omega, rfl, k1.pushL _, p2.pushL _, a1.push _, this⟩
 generalize H2.push (.row (z10 w0.2)) = H12 at f0
 conv at hQ => intro H' _; unfold stmtF
 dsimp only at hQ
 rw [hwd] at hQ
 clear ha hw0 hwd hlt p2 k1 a1 hn1 p
 generalize w0.2 = line at hQ f0
 have fin : ∀ {s' : PSt} {H14 : AH} {r : List AV} (x : GStmt), SF H id H.n (H.n + 1) H14 s' r → AV.weaks r = x.cells → r.all AV.scalar = true → (∀ H', KeepP id H H' → PS H' id (s'.want [59]) → Q (.agg x.cells) H') →
   JoinP (S.parse_parser_stmt_k1 Φ (.ptr id 0) (.ptr H.n 0) (.ptr (H.n + 1) 0) fun v H' => Q v.weak H') [] H14 := by
  intro s' H14 r x h14 hr hs hq
  simp only [JoinP_def, S.parse_parser_stmt_k1]
  refine p_want hT h14.ps fun H28 k28 p28 => ?_
  exact (h14.call k28 p28).ret hr hs hq
 refine p_is hT f0.ps fun H16 k16 p16 => ?_
 have h16 := f0.call k16 p16
 simp only [Gd_true]
 refine ite_both (fun hy => ?_) (fun hy => ?_)
 · rw [isA_yes hy] at h16
   rw [if_pos hy] at hQ
   have fa := f.isW w hy (by decide)
   refine p_name hT hkw h16.ps fun H18 k18 p18 => ?_
   have h18 := h16.call k18 p18
   have sn := Sub.nameS kw s.adv
   refine p_value hT hex h18.ps (sn.1 w.adv) (sn.few fa) fun H20 k20 p20 => ?_
   have h20 := h18.call k20 p20
   generalize valueF (exprM kw val n) d (s.adv.nameS kw) = v at hQ h20
   try simp only [afaddr, Do_of, Nat.zero_add]
   refine h20.store (n := 1) rfl rfl rfl (by decide) fun H22 h22 => ?_
   refine h22.store (n := 1) rfl rfl rfl (by decide) fun H24 h24 => ?_
   refine h24.store (n := 1) rfl rfl rfl (by decide) fun H26 h26 => ?_
   refine fin (r := [.int .i64 1, .int .i64 line, .str (s.adv.nameT kw), .str [], .int .i64 0, .str [], .lst .nil 0 [], .lst .full 1 v.1.cells, .lst .nil 0 [], .lst .nil 0 []]) _ h26 ?_ rfl hQ
   rw [GStmt.cells_eq, GPlace.cells_eq]
   simp only [AV.weaks, AV.weak, GExpr.weaks]
   simp [lstA, stZ, plZ, AV.weaks]
 rw [isA_no hy] at h16
 rw [if_neg hy] at hQ
 clear hy
 refine p_is hT h16.ps fun H17 k17 p17 => ?_
 replace h16 := h16.call k17 p17
 refine ite_both (fun hy => ?_) (fun hy => ?_)
 · rw [isA_yes hy] at h16
   rw [if_pos hy] at hQ
   have fa := f.isW w hy (by decide)
   refine p_name hT hkw h16.ps fun H18 k18 p18 => ?_
   have h18 := h16.call k18 p18
   have sn := Sub.nameS kw s.adv
   refine p_value hT hex h18.ps (sn.1 w.adv) (sn.few fa) fun H20 k20 p20 => ?_
   have h20 := h18.call k20 p20
   generalize valueF (exprM kw val n) d (s.adv.nameS kw) = v at hQ h20
   try simp only [afaddr, Do_of, Nat.zero_add]
   refine h20.store (n := 1) rfl rfl rfl (by decide) fun H22 h22 => ?_
   refine h22.store (n := 1) rfl rfl rfl (by decide) fun H24 h24 => ?_
   refine h24.store (n := 1) rfl rfl rfl (by decide) fun H26 h26 => ?_
   refine fin (r := [.int .i64 2, .int .i64 line, .str (s.adv.nameT kw), .str [], .int .i64 0, .str [], .lst .nil 0 [], .lst .full 1 v.1.cells, .lst .nil 0 [], .lst .nil 0 []]) _ h26 ?_ rfl hQ
   rw [GStmt.cells_eq, GPlace.cells_eq]
   simp only [AV.weaks, AV.weak, GExpr.weaks]
   simp [lstA, stZ, plZ, AV.weaks]
 rw [isA_no hy] at h16
 rw [if_neg hy] at hQ
 clear hy
 have wp : ∀ p : GPlace, AV.weaks [.str p.var, lstA GPart.cells p.parts] = [.str p.var, lstA GPart.cells p.parts] := fun p => by
  have := GPlace.weaks p
  rw [GPlace.cells_eq] at this
  exact this
 have wq : ∀ p : GPlace, (lstA GPart.cells p.parts).weak = lstA GPart.cells p.parts := fun p => by
  have := wp p
  simp only [AV.weaks, AV.weak] at this
  simpa using this
 refine p_is hT h16.ps fun H17 k17 p17 => ?_
 replace h16 := h16.call k17 p17
 refine ite_both (fun hy => ?_) (fun hy => ?_)
 · rw [isA_yes hy] at h16
   rw [if_pos hy] at hQ
   have fa := f.isW w hy (by decide)
   have sp := Sub.place kw (Sub.parts kw val n) d s.adv
   refine hpl _ _ _ _ _ h16.ps w.adv fa fun H18 k18 p18 => ?_
   have h18 := h16.call k18 p18
   generalize placeM' kw (partsM kw val n) d s.adv = pl at hQ h18 sp
   refine p_value hT hex h18.ps (sp.1 w.adv) (sp.few fa) fun H20 k20 p20 => ?_
   have h20 := h18.call k20 p20
   generalize valueF (exprM kw val n) d pl.2 = v at hQ h20
   try simp only [afaddr, Do_of, Nat.zero_add]
   rw [GPlace.cells_eq]
   refine h20.store (n := 1) rfl rfl rfl (by decide) fun H22 h22 => ?_
   refine h22.store (n := 2) rfl rfl rfl (by decide) fun H24 h24 => ?_
   refine h24.store (n := 1) rfl rfl rfl (by decide) fun H26 h26 => ?_
   refine fin (r := [.int .i64 3, .int .i64 line, .str [], .str [], .int .i64 0, .str pl.1.var, lstA GPart.cells pl.1.parts, .lst .full 1 v.1.cells, .lst .nil 0 [], .lst .nil 0 []]) _ h26 ?_ rfl hQ
   rw [GStmt.cells_eq, GPlace.cells_eq]
   simp only [AV.weaks, wq]
   simp only [AV.weak, GExpr.weaks]
   simp [lstA, stZ, plZ, AV.weaks]
 rw [isA_no hy] at h16
 rw [if_neg hy] at hQ
 clear hy
 refine p_is hT h16.ps fun H17 k17 p17 => ?_
 replace h16 := h16.call k17 p17
 refine ite_both (fun hy => ?_) (fun hy => ?_)
 · rw [isA_yes hy] at h16
   rw [if_pos hy] at hQ
   have fa := f.isW w hy (by decide)
   have so := Sub.order s.adv
   refine p_order hT h16.ps fun H15 k15 p15 => ?_
   have h15 := h16.call k15 p15
   generalize orderM s.adv = o at hQ so h15
   have sp := Sub.place kw (Sub.parts kw val n) d o.2
   refine hpl _ _ _ _ _ h15.ps (so.1 w.adv) (so.few fa) fun H18 k18 p18 => ?_
   have h18 := h15.call k18 p18
   generalize placeM' kw (partsM kw val n) d o.2 = pl at hQ h18 sp
   refine p_value hT hex h18.ps ((so.trans sp).1 w.adv) ((so.trans sp).few fa) fun H20 k20 p20 => ?_
   have h20 := h18.call k20 p20
   generalize valueF (exprM kw val n) d pl.2 = v at hQ h20
   try simp only [afaddr, Do_of, Nat.zero_add]
   rw [GPlace.cells_eq]
   refine h20.store (n := 1) rfl rfl rfl (by decide) fun H22 h22 => ?_
   refine h22.store (n := 1) rfl rfl rfl (by decide) fun H23 h23 => ?_
   refine h23.store (n := 2) rfl rfl rfl (by decide) fun H24 h24 => ?_
   refine h24.store (n := 1) rfl rfl rfl (by decide) fun H26 h26 => ?_
   refine fin (r := [.int .i64 4, .int .i64 line, .str [], .str [], .int .i64 o.1, .str pl.1.var, lstA GPart.cells pl.1.parts, .lst .full 1 v.1.cells, .lst .nil 0 [], .lst .nil 0 []]) _ h26 ?_ rfl hQ
   rw [GStmt.cells_eq, GPlace.cells_eq]
   simp only [AV.weaks, wq]
   simp only [AV.weak, GExpr.weaks]
   simp [lstA, stZ, plZ, AV.weaks]
 rw [isA_no hy] at h16
 rw [if_neg hy] at hQ
 clear hy
 refine p_is hT h16.ps fun H17 k17 p17 => ?_
 replace h16 := h16.call k17 p17
 refine ite_both (fun hy => ?_) (fun hy => ?_)
 · rw [isA_yes hy] at h16
   rw [if_pos hy] at hQ
   have fa := f.isW w hy (by decide)
   have so := Sub.order s.adv
   refine p_order hT h16.ps fun H15 k15 p15 => ?_
   have h15 := h16.call k15 p15
   generalize orderM s.adv = o at hQ so h15
   refine hpl _ _ _ _ _ h15.ps (so.1 w.adv) (so.few fa) fun H18 k18 p18 => ?_
   have h18 := h15.call k18 p18
   generalize placeM' kw (partsM kw val n) d o.2 = pl at hQ h18
   refine p_name hT hkw h18.ps fun H19 k19 p19 => ?_
   have h19 := h18.call k19 p19
   refine p_name hT hkw h19.ps fun H20 k20 p20 => ?_
   have h20 := h19.call k20 p20
   try simp only [afaddr, Do_of, Nat.zero_add]
   rw [GPlace.cells_eq]
   refine h20.store (n := 1) rfl rfl rfl (by decide) fun H22 h22 => ?_
   refine h22.store (n := 1) rfl rfl rfl (by decide) fun H23 h23 => ?_
   refine h23.store (n := 2) rfl rfl rfl (by decide) fun H24 h24 => ?_
   refine h24.store (n := 1) rfl rfl rfl (by decide) fun H25 h25 => ?_
   refine h25.store (n := 1) rfl rfl rfl (by decide) fun H26 h26 => ?_
   refine fin (r := [.int .i64 5, .int .i64 line, .str (pl.2.nameT kw), .str ((pl.2.nameS kw).nameT kw), .int .i64 o.1, .str pl.1.var, lstA GPart.cells pl.1.parts, .lst .nil 0 [], .lst .nil 0 [], .lst .nil 0 []]) _ h26 ?_ rfl hQ
   rw [GStmt.cells_eq, GPlace.cells_eq]
   simp only [AV.weaks, wq]
   simp only [AV.weak]
   simp [lstA, stZ, plZ, AV.weaks]
 rw [isA_no hy] at h16
 rw [if_neg hy] at hQ
 clear hy
 refine p_is hT h16.ps fun H17 k17 p17 => ?_
 replace h16 := h16.call k17 p17
 refine ite_both (fun hy => ?_) (fun hy => ?_)
 · rw [isA_yes hy] at h16
   rw [if_pos hy] at hQ
   have fa := f.isW w hy (by decide)
   have so := Sub.order s.adv
   refine p_order hT h16.ps fun H15 k15 p15 => ?_
   have h15 := h16.call k15 p15
   generalize orderM s.adv = o at hQ so h15
   have sp := Sub.place kw (Sub.parts kw val n) d o.2
   refine hpl _ _ _ _ _ h15.ps (so.1 w.adv) (so.few fa) fun H18 k18 p18 => ?_
   have h18 := h15.call k18 p18
   generalize placeM' kw (partsM kw val n) d o.2 = pl at hQ h18 sp
   have sv := Sub.value (Sub.expr kw val n) d pl.2
   refine p_value hT hex h18.ps ((so.trans sp).1 w.adv) ((so.trans sp).few fa) fun H20 k20 p20 => ?_
   have h20 := h18.call k20 p20
   generalize valueF (exprM kw val n) d pl.2 = v at hQ h20 sv
   try simp only [afaddr, Do_of, Nat.zero_add]
   rw [GPlace.cells_eq]
   refine h20.store (n := 1) rfl rfl rfl (by decide) fun H22 h22 => ?_
   refine h22.store (n := 1) rfl rfl rfl (by decide) fun H23 h23 => ?_
   refine h23.store (n := 2) rfl rfl rfl (by decide) fun H24 h24 => ?_
   refine h24.store (n := 1) rfl rfl rfl (by decide) fun H26 h26 => ?_
   have er : ∃ r : List AV, r = [.int .i64 6, .int .i64 line, .str [], .str [], .int .i64 o.1, .str pl.1.var, lstA GPart.cells pl.1.parts, .lst .full 1 v.1.cells, .lst .nil 0 [], .lst .nil 0 []] := ⟨_, rfl⟩
   obtain ⟨r, er⟩ := er
   have h27 : SF H id H.n (H.n + 1) H26 v.2 r := by rw [er]; exact h26
   clear h26 h24 h23 h22 h20
   have sw := Sub.want v.2 [44]
   refine p_want hT h27.ps fun H28 k28 p28 => ?_
   have h28 := h27.call k28 p28
   have hld : ∀ {H' : AH} {s'}, SF H id H.n (H.n + 1) H' s' r → aload H' 1 false (.ptr (H.n + 1) 7) = some (.lst .full 1 v.1.cells) := fun h => by rw [h.a10.load, er]; rfl
   rw [hld h28]
   simp only [Do_of, abin_add]
   have s4 := ((so.trans sp).trans sv).trans sw
   refine hex _ _ _ _ _ h28.ps (s4.1 w.adv) (s4.few fa) fun H29 k29 p29 => ?_
   have h29 := h28.call k29 p29
   generalize exprM kw val n (x64 (d + 1)) (v.2.want [44]) = u at hQ h29
   refine ⟨hld h29, ?_⟩
   rw [agg8_slice]
   simp only [DoH_some]
   have own : OwnT H.n H29 8 (.lst .full 1 v.1.cells) 1 v.1.cells := ⟨.full, rfl, by rw [GExpr.len], .inr (.inl rfl)⟩
   refine own.app h29.kk.1 (m := 1) (news := u.1.cells) (by simp [acells, GExpr.len]) (by rw [GExpr.len]) (GExpr.scalar _) (by decide) (by decide) (by decide) fun x' H30 ow3 l3 => ?_
   have hsx : x'.scalar = true := by obtain ⟨tk, rfl, _, _⟩ := ow3; rfl
   have hcx : x'.cells = [x'] := by obtain ⟨tk, rfl, _, _⟩ := ow3; rfl
   have hkx : x'.known = true := by obtain ⟨tk, rfl, _, _⟩ := ow3; rfl
   have h30 : SF H id H.n (H.n + 1) H30 u.2 r := ⟨h29.hid, h29.h1, h29.h10, h29.ne, h29.len, h29.kk.left l3, h29.ps.left l3, l3.row h29.a1, l3.row h29.a10⟩
   refine h30.store (n := 1) hkx (by rw [hcx]; rfl) (by rw [hcx]; simp [hsx]) (by decide) fun H31 h31 => ?_
   rw [hcx] at h31
   have er2 : setCells r 7 [x'] = [.int .i64 6, .int .i64 line, .str [], .str [], .int .i64 o.1, .str pl.1.var, lstA GPart.cells pl.1.parts, x', .lst .nil 0 [], .lst .nil 0 []] := by rw [er]; rfl
   rw [er2] at h31
   have hwk : x'.weak = lstA GExpr.cells [v.1, u.1] := by
    rw [ow3.weak (by rw [weaks_app, GExpr.weaks, GExpr.weaks])]
    simp [lstA]
   refine fin _ h31 ?_ (by simp only [List.all_cons, hsx]; rfl) hQ
   rw [GStmt.cells_eq, GPlace.cells_eq]
   simp only [AV.weaks, wq, hwk]
   simp only [AV.weak]
   simp [lstA, stZ, plZ, AV.weaks]
 rw [isA_no hy] at h16
 rw [if_neg hy] at hQ
 clear hy
 refine p_is hT h16.ps fun H17 k17 p17 => ?_
 replace h16 := h16.call k17 p17
 refine ite_both (fun hy => ?_) (fun hy => ?_)
 · rw [isA_yes hy] at h16
   rw [if_pos hy] at hQ
   refine p_order hT h16.ps fun H15 k15 p15 => ?_
   have h15 := h16.call k15 p15
   generalize orderM s.adv = o at hQ h15
   try simp only [afaddr, Do_of, Nat.zero_add]
   refine h15.store (n := 1) rfl rfl rfl (by decide) fun H22 h22 => ?_
   refine h22.store (n := 1) rfl rfl rfl (by decide) fun H23 h23 => ?_
   exact fin (r := [.int .i64 7, .int .i64 line, .str [], .str [], .int .i64 o.1, .str [], .lst .nil 0 [], .lst .nil 0 [], .lst .nil 0 [], .lst .nil 0 []]) _ h23 rfl rfl hQ
 rw [isA_no hy] at h16
 rw [if_neg hy] at hQ
 clear hy
 refine p_is hT h16.ps fun H17 k17 p17 => ?_
 replace h16 := h16.call k17 p17
 refine ite_both (fun hy => ?_) (fun hy => ?_)
 · rw [isA_yes hy] at h16
   rw [if_pos hy] at hQ
   have fa := f.isW w hy (by decide)
   try simp only [abin_add, Do_of]
   refine hex _ _ _ _ _ h16.ps w.adv fa fun H29 k29 p29 => ?_
   have h29 := h16.call k29 p29
   generalize exprM kw val n (x64 (d + 1)) s.adv = u at hQ h29
   rw [agg8_slice]
   simp only [DoH_some, afaddr, Do_of, Nat.zero_add]
   refine h29.store (n := 1) rfl rfl rfl (by decide) fun H22 h22 => ?_
   refine h22.store (n := 1) rfl rfl rfl (by decide) fun H23 h23 => ?_
   refine fin (r := [.int .i64 10, .int .i64 line, .str [], .str [], .int .i64 0, .str [], .lst .nil 0 [], .lst .full 1 u.1.cells, .lst .nil 0 [], .lst .nil 0 []]) _ h23 ?_ rfl hQ
   rw [GStmt.cells_eq, GPlace.cells_eq]
   simp only [AV.weaks, AV.weak, GExpr.weaks]
   simp [lstA, stZ, plZ, AV.weaks]
 rw [isA_no hy] at h16
 rw [if_neg hy] at hQ
 clear hy
 rw [h16.a10.load, takeCells_whole h16.len]
 simp only [Do_of]
 refine p_control hT hW hex hbl h16.ps w f fun H20 k20 p20 => ?_
 have h20 := h16.call k20 p20
 exact h20.ret1 (GStmt.weaks _) (GStmt.scalar _) hQ
end
end Rb

set_option linter.unusedVariables false
set_option linter.unusedSimpArgs false
set_option linter.unusedSectionVars false
namespace Rb
open Go
theorem Few.stmt {kw : List UInt8 → Bool} {ex : Int → PSt → GExpr × PSt} {pa : Int → PSt → List GPart × PSt} {ss : Int → PSt → List GStmt × PSt} (h : ∀ d s, Sub s (ex d s).2) (g : ∀ d s, Sub s (pa d s).2) (k : ∀ d s, Sub s (ss d s).2) {n : Nat} {d : Int} {s : PSt} (hf : Few (n + 1) s) (hw : Wf s) : Few n (stmtF kw ex pa ss d s).2 := by
 have fa : ∀ (w : List UInt8), s.isW w = true → w ≠ [] → Few n s.adv := fun w h1 h2 => hf.isW hw h1 h2
 have ctl : ∀ x, Few n (controlF ex ss x d s).2 := by
  intro x
  unfold controlF
  dsimp only
  by_cases c1 : s.isW [105, 102] = true
  · have := fa _ c1 (by decide)
    simp only [if_pos c1]
    split
    · exact ((((h _ _).trans (Sub.block k _ _)).trans (Sub.adv _)).trans (Sub.block k _ _)).few this
    · exact ((h _ _).trans (Sub.block k _ _)).few this
  simp only [if_neg c1]
  by_cases c2 : s.isW [119, 104, 105, 108, 101] = true
  · have := fa _ c2 (by decide)
    simp only [if_pos c2]
    exact ((h _ _).trans (Sub.block k _ _)).few this
  simp only [if_neg c2]
  exact .inl (PSt.fail_fk s (by decide))
 unfold stmtF
 dsimp only
 by_cases c : s.isW [108, 101, 116] = true
 · have := fa _ c (by decide)
   simp only [if_pos c]
   exact (((Sub.nameS kw _).trans (Sub.value h _ _)).trans (Sub.want _ _)).few this
 simp only [if_neg c]; clear c
 by_cases c : s.isW [115, 101, 116] = true
 · have := fa _ c (by decide)
   simp only [if_pos c]
   exact (((Sub.nameS kw _).trans (Sub.value h _ _)).trans (Sub.want _ _)).few this
 simp only [if_neg c]; clear c
 by_cases c : s.isW [119, 114, 105, 116, 101] = true
 · have := fa _ c (by decide)
   simp only [if_pos c]
   exact (((Sub.place kw g _ _).trans (Sub.value h _ _)).trans (Sub.want _ _)).few this
 simp only [if_neg c]; clear c
 by_cases c : s.isW [115, 116, 111, 114, 101] = true
 · have := fa _ c (by decide)
   simp only [if_pos c]
   exact ((((Sub.order _).trans (Sub.place kw g _ _)).trans (Sub.value h _ _)).trans (Sub.want _ _)).few this
 simp only [if_neg c]; clear c
 by_cases c : s.isW [108, 111, 97, 100, 50] = true
 · have := fa _ c (by decide)
   simp only [if_pos c]
   exact (((((Sub.order _).trans (Sub.place kw g _ _)).trans (Sub.nameS kw _)).trans (Sub.nameS kw _)).trans (Sub.want _ _)).few this
 simp only [if_neg c]; clear c
 by_cases c : s.isW [115, 116, 111, 114, 101, 50] = true
 · have := fa _ c (by decide)
   simp only [if_pos c]
   exact ((((((Sub.order _).trans (Sub.place kw g _ _)).trans (Sub.value h _ _)).trans (Sub.want _ _)).trans (h _ _)).trans (Sub.want _ _)).few this
 simp only [if_neg c]; clear c
 by_cases c : s.isW [102, 101, 110, 99, 101] = true
 · have := fa _ c (by decide)
   simp only [if_pos c]
   exact ((Sub.order _).trans (Sub.want _ _)).few this
 simp only [if_neg c]; clear c
 by_cases c : s.isW [112, 114, 105, 110, 116] = true
 · have := fa _ c (by decide)
   simp only [if_pos c]
   exact ((h _ _).trans (Sub.want _ _)).few this
 simp only [if_neg c]
 exact ctl _
theorem agg10_slice (H : AH) (e : GStmt) : abslice H false 10 1 [.int .i64 0, .int .i64 0, .str [], .str [], .int .i64 0, .str [], .lst .nil 0 [], .lst .nil 0 [], .lst .nil 0 [], .lst .nil 0 []] [(0, 10, .agg e.cells)] = some (.lst .full 1 e.cells, H) := by
 have hfl := GStmt.len e
 simp only [abslice, fillA, AV.known, AV.cells, hfl]
 rw [if_pos (by simp)]
 rw [setCells_all (by rw [hfl]; rfl)]
 rfl
section
variable {Φ : Calls'} {kw : List UInt8 → Bool} {val : List UInt8 → Int}
theorem stmts_loop (hT : Cl Φ S.tab_Lex) {H0 : AH} {Q : Post} {id : Nat} {d : Int} (hid : id < H0.n) :
  ∀ (n : Nat), (∀ m, m < n → StmtOK Φ kw val m) → ∀ (H : AH) (s : PSt) (L : AV) (done : List GStmt), KeepP id H0 H → PS H id s → Wf s → Few n s → (s.fk ≠ 0 ∨ done.length + s.toks.length ≤ 2000001) →
  OwnT H0.n H 10 L done.length (done.flatMap GStmt.cells) →
  (∀ H', KeepP id H0 H' → PS H' id (stmtsM kw val n d s).2 → Q (lstA GStmt.cells (done ++ (stmtsM kw val n d s).1)) H') →
  LoopP (S.parse_parser_block_l3 Φ (.ptr id 0) (.int .i64 d) fun v H' => Q v.weak H') ([L], H) := by
 have wk : ∀ {H : AH} {L : AV} {done : List GStmt}, OwnT H0.n H 10 L done.length (done.flatMap GStmt.cells) → L.weak = lstA GStmt.cells done := by
  intro H L done ow
  have hs : AV.weaks (done.flatMap GStmt.cells) = done.flatMap GStmt.cells := by rw [← GStmt.all_eq]; exact GStmt.weaksA _
  rw [ow.weak hs]; rfl
 intro n
 induction n with
 | zero =>
  intro _ H s L done kk p w f _ ow hQ
  have hb := f.zero w
  refine LoopP.step ?_
  simp only [S.parse_parser_block_l3]
  refine p_bad hT p ?_
  simp only [aun_not, Do_of, Gd3_true]
  rw [if_neg (by simpa using hb)]
  simp only [JoinP_def, S.parse_parser_block_k2, sl_zero, Gd_true]
  rw [if_neg (by decide)]
  have := hQ H kk (by unfold stmtsM; exact p)
  unfold stmtsM at this
  rw [List.append_nil] at this
  rw [wk ow]; exact this
 | succ n ih =>
  intro hst H s L done kk p w f hl ow hQ
  refine LoopP.step ?_
  simp only [S.parse_parser_block_l3]
  refine p_bad hT p ?_
  simp only [aun_not, Do_of, Gd3_true]
  refine ite_both (fun hx => ?_) (fun hx => ?_)
  · have h0 : s.fk = 0 := by simpa using hx
    refine p_is hT p fun H1 k1 p1 => ?_
    have ow1 := ow.keep hid k1
    simp only [aun_not, Do_of, JoinP_def, S.parse_parser_block_k2, sl_zero, Gd_true]
    refine ite_both (fun hy => ?_) (fun hy => ?_)
    · have hf : s.isW [125] = false := by simpa using hy
      have e1 : s.isA [125] = s := by unfold PSt.isA; rw [hf, if_neg (by decide)]
      rw [e1] at p1
      have em : stmtsM kw val (n + 1) d s = ((stmtF kw (exprM kw val n) (partsM kw val n) (fun d s => stmtsM kw val n d s) d s).1 :: (stmtsM kw val n d (stmtF kw (exprM kw val n) (partsM kw val n) (fun d s => stmtsM kw val n d s) d s).2).1, (stmtsM kw val n d (stmtF kw (exprM kw val n) (partsM kw val n) (fun d s => stmtsM kw val n d s) d s).2).2) := by
       conv => lhs; unfold stmtsM
       rw [if_neg (by simpa using h0), hf, if_neg (by decide)]
      rw [em] at hQ
      simp only [S.parse_parser_block_k1]
      have hsub := Sub.stmt kw (Sub.expr kw val n) (Sub.parts kw val n) (Sub.stmts kw val n) d s
      have hfew : ∀ m, Few (m + 1) s → Few m (stmtF kw (exprM kw val n) (partsM kw val n) (stmtsM kw val n) d s).2 := fun m hm => Few.stmt (Sub.expr kw val n) (Sub.parts kw val n) (Sub.stmts kw val n) hm w
      refine hst n (Nat.lt_succ_self n) _ _ _ _ _ p1 w f fun H2 k2 p2 => ?_
      have ow2 := ow1.keep hid k2
      have em2 : stmtF kw (exprM kw val n) (partsM kw val n) (fun d s => stmtsM kw val n d s) d s = stmtF kw (exprM kw val n) (partsM kw val n) (stmtsM kw val n) d s := rfl
      rw [em2] at hQ
      generalize stmtF kw (exprM kw val n) (partsM kw val n) (stmtsM kw val n) d s = fd at hQ p2 hsub hfew
      have hlen : done.length + s.toks.length ≤ 2000001 := by
       rcases hl with hl | hl
       · exact absurd h0 hl
       · exact hl
      have epos : 0 < s.toks.length := List.length_pos_iff.2 w.ne
      rw [agg10_slice]
      simp only [DoH_some]
      refine ow2.app (Nat.le_trans kk.1 (Nat.le_trans k1.1 k2.1)) (m := 1) (news := fd.1.cells) (by simp [acells, GStmt.len]) (by rw [GStmt.len]) (GStmt.scalar _) (by decide) (by omega) (by omega) fun x' H3 ow3 l3 => ?_
      refine ih (fun m hm => hst m (Nat.lt_succ_of_lt hm)) _ fd.2 x' (done ++ [fd.1]) (((kk.trans k1).trans k2).left l3) (p2.left l3) (hsub.1 w) (hfew n f) ?_ ?_ fun H' k' p' => ?_
      · have := hfew (s.toks.length - 1) (.inr (by omega))
        rcases this with h | h
        · exact .inl h
        · exact .inr (by rw [List.length_append, List.length_singleton]; omega)
      · rw [List.length_append, List.length_singleton, List.flatMap_append]
        simpa using ow3
      · have := hQ H' k' p'
        rw [List.append_assoc]
        exact this
    · have hf : s.isW [125] = true := by simpa using hy
      have e1 : s.isA [125] = s.adv := by unfold PSt.isA; rw [hf, if_pos rfl]
      rw [e1] at p1
      have em : stmtsM kw val (n + 1) d s = ([], s.adv) := by
       unfold stmtsM
       rw [if_neg (by simpa using h0), hf, if_pos rfl]
      rw [em] at hQ
      have := hQ H1 (kk.trans k1) p1
      rw [List.append_nil] at this
      rw [wk ow1]; exact this
  · have h0 : s.fk ≠ 0 := by simpa using hx
    have em : stmtsM kw val (n + 1) d s = ([], s) := by
     unfold stmtsM
     rw [if_pos h0]
    rw [em] at hQ
    simp only [JoinP_def, S.parse_parser_block_k2, sl_zero, Gd_true]
    rw [if_neg (by decide)]
    have := hQ H kk p
    rw [List.append_nil] at this
    rw [wk ow]; exact this
theorem p_block (hT : Cl Φ S.tab_Lex) (hW : Wk Φ) (hkw : ∀ x, Val Φ K.lex_Keyword [.str x] (.bool (kw x))) (hv : NumV Φ val) : ∀ n, BlockOK Φ kw val n := by
 intro n
 induction n using Nat.strongRecOn with
 | ind n ih =>
 intro H Q id s d p w f hQ
 refine hW _ _ _ _ (S.cl_parse_parser_block hT ?_)
 unfold S.parse_parser_block
 have hid := lt_of_ps p
 have sd := Sub.deep s d
 conv at hQ => intro H' _; unfold blockF
 dsimp only at hQ
 refine p_deep hT p fun H4 k4 p4 => ?_
 simp only [aun_not, Do_of, Gd_true]
 refine ite_both (fun hx => ?_) (fun hx => ?_)
 · have hb : (s.deep d).fk ≠ 0 := by simpa using hx
   rw [if_pos hb] at hQ
   exact hQ H4 k4 p4
 · have hb : ¬ (s.deep d).fk ≠ 0 := by simpa using hx
   rw [if_neg hb] at hQ
   refine p_want hT p4 fun H5 k5 p5 => ?_
   have sw := sd.trans (Sub.want (s.deep d) [123])
   refine stmts_loop hT hid n (fun m hm => ?_) H5 _ (.lst .nil 0 []) [] (k4.trans k5) p5 (sw.1 w) (sw.few f) (.inr (by have := p5.2.1; simp only [List.length_nil]; omega)) (OwnT.nil _ _ _) hQ
   exact p_stmt hT hW hkw (p_expr hT hW hkw hv m) (p_place hT hW hkw fun j hj => p_expr hT hW hkw hv j) (ih m hm)
end
end Rb

set_option linter.unusedVariables false
set_option linter.unusedSimpArgs false
set_option linter.unusedSectionVars false
namespace Rb
open Go
theorem toks_word {num : List UInt8 → Bool} : ∀ (n : Nat) (s : List UInt8) (line : Int) (ws : List (List UInt8 × Int)), toks num n s line = .ok ws → ∀ w ∈ ws, w.1.length ≤ s.length := by
 intro n
 induction n with
 | zero => intro s line ws h w hw; rw [toks] at h; cases h; cases hw
 | succ n ih =>
  intro s line ws h w hw
  cases s with
  | nil => rw [toks] at h; cases h; cases hw
  | cons x r =>
   rw [toks] at h
   split at h
   · have := ih _ _ _ h w hw
     simp only [List.length_cons]; omega
   · split at h
     · have := ih _ _ _ h w hw
       simp only [List.length_cons]; omega
     · cases hk : wordM num (x :: r) with
       | none => rw [hk] at h; cases h
       | some k =>
        rw [hk] at h
        simp only at h
        cases ht : toks num n ((x :: r).drop k) line with
        | error l => rw [ht] at h; cases h
        | ok a =>
         rw [ht] at h
         cases h
         rcases List.mem_cons.1 hw with rfl | hw
         · show ((x :: r).take k).length ≤ _
           rw [List.length_take]; omega
         · have h1 := ih _ _ _ ht w hw
           have h2 : ((x :: r).drop k).length ≤ (x :: r).length := by rw [List.length_drop]; omega
           omega
def lastL (ws : List (List UInt8 × Int)) : Int := match ws.getLast? with
 | none => 0
 | some w => w.2
def beginM (ws : List (List UInt8 × Int)) : PSt := ⟨ws ++ [([], lastL ws)], 0, 0⟩
theorem begin_wf {num : List UInt8 → Bool} {s : List UInt8} {ws : List (List UInt8 × Int)} (h : lexM num s = .ok ws) : Wf (beginM ws) ∧ ws.length ≤ 1048576 := by
 have ht := lexM_ok h
 have hs : s.length ≤ 1048576 := by
  unfold lexM at h
  split at h
  · cases h
  · omega
 exact ⟨⟨ws, lastL ws, rfl, fun w hw => Nat.le_trans (toks_word _ _ _ _ ht w hw) hs⟩, Nat.le_trans (toks_count ht) hs⟩
section
variable {Φ : Calls'} {num : List UInt8 → Bool}
theorem p_begin (hT : Cl Φ S.tab_Lex) (htok : ∀ s, Val Φ K.lex_Tokens [.str s] (lexV2 (lexM num s))) {H : AH} {Q : Post} (s : List UInt8)
  (hQ : ∀ H', AH.Ext H H' → (match lexM num s with | .error e => Q (.tup [.nilp, .agg [.int .i64 e.1, .int .i64 e.2]]) H' | .ok ws => ∀ id, H.n ≤ id → PS H' id (beginM ws) → Q (.tup [.ptr id 0, .agg [.int .i64 0, .int .i64 0]]) H')) : Φ K.parse_begin [.str s] H Q := by
 refine S.cl_parse_begin hT ?_
 unfold S.parse_begin
 simp only [abox, if_true, DoH_some]
 refine htok s _ _ ?_
 have hw : ∀ ws, lexM num s = .ok ws → lexV2 (lexM num s) = .tup [tokV (if ws = [] then .nil else .dead) ws, .agg [.int .i64 0, .int .i64 0]] := by
  intro ws h
  rw [h]
  cases ws with
  | nil => rfl
  | cons w r => rw [if_neg (by simp)]; rfl
 have a1 : At (H.push (.row [.int .i64 0, .int .i64 0])) H.n (.row [.int .i64 0, .int .i64 0]) := At.new H _
 have x1 : AH.Ext H (H.push (.row [.int .i64 0, .int .i64 0])) := AH.Ext.push H _
 have hn1 : (H.push (.row [.int .i64 0, .int .i64 0])).n = H.n + 1 := rfl
 generalize H.push (.row [.int .i64 0, .int .i64 0]) = H2 at a1 x1 hn1
 cases hM : lexM num s with
 | error e =>
  rw [hM] at hQ
  have hne : e.2 ≠ 0 := lexM_err hM
  simp only [lexV2, lexV, aextract, List.getElem?_cons_zero, List.getElem?_cons_succ, Do_of]
  rw [store_new H2 _ _ 2 rfl rfl rfl]
  have l1 : aload (H2.push (.row [.int .i64 e.1, .int .i64 e.2])) 1 false (.ptr H2.n 1) = some (.int .i64 e.2) := by rw [load_push]; rfl
  have l2 : aload (H2.push (.row [.int .i64 e.1, .int .i64 e.2])) 2 true (.ptr H2.n 0) = some (.agg [.int .i64 e.1, .int .i64 e.2]) := by rw [load_push]; rfl
  simp only [Do_of, afaddr, Nat.zero_add, l1, l2, abin_neq, Gd_true]
  rw [if_pos (by simpa using hne)]
  have b1 := a1.push (.row [.int .i64 e.1, .int .i64 e.2])
  rw [b1.store, if_pos ⟨rfl, rfl, rfl, by simp⟩]
  simp only [Do_of]
  rw [(b1.set _).load]
  refine (Do_of _ _).2 ?_
  exact hQ _ ((x1.trans (AH.Ext.push _ _)).set (Nat.le_refl _) _)
 | ok ws =>
  rw [hM] at hQ
  rw [← hM, hw ws hM]
  obtain ⟨hwf, hlen⟩ := begin_wf hM
  generalize htk : (if ws = [] then Tok.nil else Tok.dead) = tk
  simp only [aextract, List.getElem?_cons_zero, List.getElem?_cons_succ, Do_of]
  rw [store_new H2 _ _ 2 rfl rfl rfl]
  have l1 : aload (H2.push (.row [.int .i64 0, .int .i64 0])) 1 false (.ptr H2.n 1) = some (.int .i64 0) := by rw [load_push]; rfl
  simp only [Do_of, afaddr, Nat.zero_add, l1, abin_neq, Gd_true]
  rw [if_neg (by decide)]
  have b1 := a1.push (.row [.int .i64 0, .int .i64 0])
  have x2 := x1.trans (AH.Ext.push H2 (.row [.int .i64 0, .int .i64 0]))
  generalize H2.push (.row [.int .i64 0, .int .i64 0]) = H9 at b1 x2
  have k1 : JoinP (S.parse_begin_k1 Φ (.ptr H.n 0) (tokV tk ws) Q) [.int .i64 (lastL ws)] H9 := by
   simp only [JoinP_def, S.parse_begin_k1, tokV_len, Do_of, sl_zero]
   have hsl : ∃ x, aslice 2 (tokV tk ws) none (some (.int .i64 ws.length)) (some (.int .i64 ws.length)) = some x ∧ OwnT H9.n H9 2 x ws.length (ws.flatMap tokC) := by
    cases ws with
    | nil =>
     rw [if_pos rfl] at htk
     subst htk
     exact ⟨.lst .nil 0 [], rfl, OwnT.nil _ _ _⟩
    | cons w r =>
     rw [if_neg (by simp)] at htk
     subst htk
     refine ⟨.lst .full (w :: r).length ((w :: r).flatMap tokC), ?_, .full, rfl, flatMap_len tokC_len _, .inr (.inl rfl)⟩
     have hb : ∀ z, abound (some (.int .i64 ((w :: r).length : Nat))) z = some (w :: r).length := by
      intro z
      simp only [abound]
      rw [if_pos (by omega)]
      simp
     have hb0 : abound none 0 = some 0 := rfl
     unfold tokV aslice
     simp only [hb, hb0, Option.map_some]
     rw [if_neg (by rintro ⟨h, _⟩; simp at h), if_pos ⟨Nat.zero_le _, Nat.le_refl _, Nat.le_refl _, flatMap_len tokC_len _, by decide, by simp⟩]
     rw [if_pos (by simp), Nat.sub_zero, Nat.zero_mul, List.drop_zero, List.take_of_length_le (by rw [flatMap_len tokC_len]; exact Nat.le_refl _)]
   obtain ⟨x, hx, own⟩ := hsl
   rw [hx]
   simp only [Do_of]
   rw [show abuild [.str [], .int .i64 0] [(1, 1, .int .i64 (lastL ws))] = some (.agg (tokC ([], lastL ws))) from rfl]
   simp only [Do_of]
   rw [show abslice H9 false 2 1 [.str [], .int .i64 0] [(0, 2, .agg (tokC ([], lastL ws)))] = some (.lst .full 1 (tokC ([], lastL ws)), H9) from rfl]
   simp only [DoH_some]
   refine own.app (Nat.le_refl _) (m := 1) (news := tokC ([], lastL ws)) rfl rfl rfl (by decide) (by omega) (by omega) fun x' H3 ow3 l3 => ?_
   have c1 := l3.row b1
   obtain ⟨tk', rfl, hcl, _⟩ := ow3
   rw [show abuild [.lst .nil 0 [], .int .i64 0, .int .i64 0] [(0, 1, .lst tk' (ws.length + 1) (ws.flatMap tokC ++ tokC ([], lastL ws)))] = some (.agg [.lst tk' (ws.length + 1) (ws.flatMap tokC ++ tokC ([], lastL ws)), .int .i64 0, .int .i64 0]) from rfl]
   simp only [Do_of]
   rw [show aboxv H3 true 3 (.agg [.lst tk' (ws.length + 1) (ws.flatMap tokC ++ tokC ([], lastL ws)), .int .i64 0, .int .i64 0]) = some (.ptr H3.n 0, H3.push (.row [.lst tk' (ws.length + 1) (ws.flatMap tokC ++ tokC ([], lastL ws)), .int .i64 0, .int .i64 0])) from rfl]
   simp only [DoH_some]
   rw [show abuild [.int .i64 0, .int .i64 0] [] = some (.agg [.int .i64 0, .int .i64 0]) from rfl]
   have c2 := c1.push (.row [.lst tk' (ws.length + 1) (ws.flatMap tokC ++ tokC ([], lastL ws)), .int .i64 0, .int .i64 0])
   have c3 := At.new H3 (.row [.lst tk' (ws.length + 1) (ws.flatMap tokC ++ tokC ([], lastL ws)), .int .i64 0, .int .i64 0])
   simp only [Do_of]
   rw [c2.store, if_pos ⟨rfl, rfl, rfl, by simp⟩]
   simp only [Do_of]
   rw [(c2.set _).load]
   refine (Do_of _ _).2 ?_
   have hlt : H.n < H3.n := Nat.lt_of_lt_of_le b1.1 l3.1
   refine hQ _ ?_ H3.n (by omega) ⟨hwf.ne, by show (ws ++ _).length ≤ _; rw [List.length_append, List.length_singleton]; omega, tk', ?_⟩
   · have e3 : AH.Ext H H3 := ⟨Nat.le_trans x2.1 l3.1, fun i hi => ((l3.2 i _ ⟨Nat.lt_of_lt_of_le hi x2.1, x2.2 i hi⟩ (.inl (Nat.lt_of_lt_of_le hi x2.1))).2)⟩
     exact (e3.trans (AH.Ext.push _ _)).set (Nat.le_refl _) _
   · have := c3.set_ne (i := H.n) (by omega) (.row (setCells [AV.int .i64 0, .int .i64 0] 0 (AV.agg [.int .i64 0, .int .i64 0]).cells))
     have e : tokV tk' (beginM ws).toks = .lst tk' (ws.length + 1) (ws.flatMap tokC ++ tokC ([], lastL ws)) := by
      unfold tokV beginM
      simp only [List.length_append, List.length_singleton, List.flatMap_append, List.flatMap_cons, List.flatMap_nil, List.append_nil]
     rw [e]; exact this
  simp only [tokV_len, Do_of, abin_gtr, Gd_true]
  refine ite_both (fun hx => ?_) (fun hx => ?_)
  · have hp : 0 < ws.length := by simp only [decide_eq_true_eq] at hx; omega
    have e0 : IntKind.wrap .i64 ((ws.length : Int) - 1) = ((ws.length - 1 : Nat) : Int) := by rw [wrap_i64 (by omega) (by omega)]; omega
    simp only [abin_sub, Do_of, e0]
    rw [tokV_addr (by omega)]
    have hg : ws[ws.length - 1]? = some (ws[ws.length - 1]'(by omega)) := List.getElem?_eq_getElem _
    have hl : lastL ws = (ws[ws.length - 1]'(by omega)).2 := by
     unfold lastL
     rw [List.getLast?_eq_getElem?, hg]
    simp only [Do_of, elA, afaddr, tok_line _ hg]
    rw [← hl]; exact k1
  · have hz : ws = [] := List.length_eq_zero_iff.1 (by simp only [decide_eq_true_eq] at hx; omega)
    subst hz
    exact k1
end
end Rb
