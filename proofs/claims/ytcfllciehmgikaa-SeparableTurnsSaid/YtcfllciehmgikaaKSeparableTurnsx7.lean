-- Written by a program of the session (wip/tools/pack.py): the printed texts, pruned; checked by Lean.
import Derived.Test.YtcfllciehmgikaaKSeparableTurnsa
import Derived.Test.YtcfllciehmgikaaKSeparableTurnsx0
import Derived.Test.YtcfllciehmgikaaKSeparableTurnsx3
import Derived.Test.YtcfllciehmgikaaKSeparableTurnsx4
import Derived.Test.YtcfllciehmgikaaKSeparableTurnsx5
import Derived.Test.YtcfllciehmgikaaKSeparableTurnsx6
namespace Go.Proofs.Ytcfllciehmgikaa.PSeparableTurns
open Go.RowKit Go.Proofs.YtcfllciehmgikaaW.PrintWords Go.Proofs.YtcfllciehmgikaaW.PrintLast Go.Proofs.YtcfllciehmgikaaW.PrintMore
attribute [local go_sem] max2_int min2_int max_two min_two max_three min_three max_four min_four   -- for this text's walks alone
set_option linter.unusedVariables false
set_option linter.unusedSimpArgs false
section
open Go Kd
variable {P : Program} {ops : Array Oper} {Q : Exit → Act → World → Prop}
theorem goesR_ {oi : Oper} {N : Option Tmp} {a : Act} {w : World} {K : Act → World → Prop} {f : FuncId} {fn : Func} {t : Tmp} {as_ : Array Operand} {ts : Array TypeId} (hf : P.funcs[f]? = some fn) (hname : (fn.name == "runtime.NumGoroutine") = false) (hb : fn.body.isSome = true) (args caps all : Array Value)
  (hw : Region.wanted oi (yielded ops a.tmps) = true) (hN : oi.dst = N) (hop : oi.op = .call { callee := .value (.tmp t), args := as_, argTypes := ts }) (hc : a.eval (.tmp t) = .func (.func f) #[] caps) (hargs : as_.map a.eval = args) (hall : args ++ caps = all)
  (h : Calls P f all w fun e w' => ∃ v, e = .returned v ∧ K (a.put N v) w') : if Region.wanted oi (yielded ops a.tmps) = true then Oper.wp P oi a w K Q else K (a.put N undef) w := by
 refine call_ f all hw hN ?_ h
 have he := enters_ hf hname hb all w
 unfold execOp
 simp only [hop, resolve, Deferred.ofValue, hc, hargs, Sem.run_bind, Sem.run_pure]
 simp [invoke, hall, he]
end
mutual
def separable_Tile.j0 : Nat → List Int → Int → Int → Bool → Int → Int → Int → List Int → Int → Int → List Int → Int → Int → Int → Int → Int → Option (Int × Int × Int × List Int × Int)
 | 0, _, _, _, _, _, _, _, _, _, _, _, _, _, _, _, _ => none
 | k + 1, x3, x5, x6, x38, x179000, x179001, x179002, x179003, x180000, x180001, x181000, x182000, x183000, x183001, x183002, x183003 => if x38 = true then (some (0, 0, 0, ([] : List Int), 1)) else ((separable_Check.f k x179002 x181000 x3 x182000 x5 x6).bind fun t186 => (if t186 = 0 then ((rect_Empty.f x183000 x183001 x183002 x183003).bind fun t187 => (if t187 = true then (separable_Tile.j1 k x3 x5 x6 true x179000 x179001 x179002 x179003 x180000 x180001 x181000 x182000 x183000 x183001 x183002 x183003) else ((rect_Inside.f k x183000 x183001 x183002 x183003 0 0 x179000 x179001).bind fun t188 => (separable_Tile.j1 k x3 x5 x6 (!t188) x179000 x179001 x179002 x179003 x180000 x180001 x181000 x182000 x183000 x183001 x183002 x183003)))) else (some (0, 0, 0, ([] : List Int), t186))))
def separable_Tile.j1 : Nat → List Int → Int → Int → Bool → Int → Int → Int → List Int → Int → Int → List Int → Int → Int → Int → Int → Int → Option (Int × Int × Int × List Int × Int)
 | 0, _, _, _, _, _, _, _, _, _, _, _, _, _, _, _, _ => none
 | k + 1, x3, x5, x6, x63, x179000, x179001, x179002, x179003, x180000, x180001, x181000, x182000, x183000, x183001, x183002, x183003 => if x63 = true then (some (0, 0, 0, ([] : List Int), 8)) else (if 0 ≤ (x3.length : Int) then (if ((x3.length : Int) : Int).toNat ≤ 11728124029610 then (separable_Tile.l0 k x3 x5 x6 (wrap64 (x183001 - (wrap64 ((x3.length : Int) / 2)))) (List.replicate ((x3.length : Int) : Int).toNat []) (wrap64 ((x3.length : Int) - 1)) 0 x179000 x179001 x179002 x179003 x180000 x180001 x181000 x182000 x183000 x183001 x183002 x183003 (wrap64 (x183002 - x183000)) (wrap64 (x183003 - x183001)) x6) else (none)) else (none))
def separable_Tile.l0 : Nat → List Int → Int → Int → Int → List (List Int) → Int → Int → Int → Int → Int → List Int → Int → Int → List Int → Int → Int → Int → Int → Int → Int → Int → Int → Option (Int × Int × Int × List Int × Int)
 | 0, _, _, _, _, _, _, _, _, _, _, _, _, _, _, _, _, _, _, _, _, _, _ => none
 | k + 1, x3, x5, x6, x21, x22, x89, x90, x179000, x179001, x179002, x179003, x180000, x180001, x181000, x182000, x183000, x183001, x183002, x183003, x190000, x190001, x190002 => if x90 < x89 then ((separable_Tile_1.f k (wrap64 (x21 + x90)) x183000 x183001 x183002 x183003 x181000 x179000 x179001 x179002 x179003 x180000 x180001 x182000).bind fun t193 => (if 0 ≤ x90 then (if x90 < (x22.length : Int) then (separable_Tile.l0 k x3 x5 x6 x21 (x22.set (x90 : Int).toNat t193) x89 (wrap64 (x90 + 1)) x179000 x179001 x179002 x179003 x180000 x180001 x181000 x182000 x183000 x183001 x183002 x183003 x190000 x190001 x190002) else (none)) else (none))) else (separable_Tile.l1 k x3 x5 x6 x21 x22 x190001 0 x179000 x179001 x179002 x179003 x180000 x180001 x181000 x182000 x183000 x183001 x183002 x183003 x190000 x190001 x190002 ([] : List Int))
def separable_Tile.l1 : Nat → List Int → Int → Int → Int → List (List Int) → Int → Int → Int → Int → Int → List Int → Int → Int → List Int → Int → Int → Int → Int → Int → Int → Int → Int → List Int → Option (Int × Int × Int × List Int × Int)
 | 0, _, _, _, _, _, _, _, _, _, _, _, _, _, _, _, _, _, _, _, _, _, _, _ => none
 | k + 1, x3, x5, x6, x21, x22, x103, x104, x179000, x179001, x179002, x179003, x180000, x180001, x181000, x182000, x183000, x183001, x183002, x183003, x190000, x190001, x190002, x190003 => if x104 < x103 then (if (x3.length : Int) = 0 then (none) else ((separable_Tile_1.f k (wrap64 ((wrap64 ((wrap64 (x21 + x104)) + (x3.length : Int))) - 1)) x183000 x183001 x183002 x183003 x181000 x179000 x179001 x179002 x179003 x180000 x180001 x182000).bind fun t197 => (if 0 ≤ (Int.tmod (wrap64 ((wrap64 (x104 + (x3.length : Int))) - 1)) (x3.length : Int)) then (if (Int.tmod (wrap64 ((wrap64 (x104 + (x3.length : Int))) - 1)) (x3.length : Int)) < (x22.length : Int) then (separable_Tile.l2 k x3 x5 x6 x21 (x22.set ((Int.tmod (wrap64 ((wrap64 (x104 + (x3.length : Int))) - 1)) (x3.length : Int)) : Int).toNat t197) x104 x103 x104 x190000 0 x179000 x179001 x179002 x179003 x180000 x180001 x181000 x182000 x183000 x183001 x183002 x183003 x190000 x190001 x190002 x190003) else (none)) else (none)))) else (some (x190000, x190001, x190002, x190003, 0))
def separable_Tile.l2 : Nat → List Int → Int → Int → Int → List (List Int) → Int → Int → Int → Int → Int → Int → Int → Int → List Int → Int → Int → List Int → Int → Int → Int → Int → Int → Int → Int → Int → List Int → Option (Int × Int × Int × List Int × Int)
 | 0, _, _, _, _, _, _, _, _, _, _, _, _, _, _, _, _, _, _, _, _, _, _, _, _, _, _ => none
 | k + 1, x3, x5, x6, x21, x22, x24, x103, x104, x127, x128, x179000, x179001, x179002, x179003, x180000, x180001, x181000, x182000, x183000, x183001, x183002, x183003, x190000, x190001, x190002, x190003 => if x128 < x127 then (separable_Tile.l3 k x3 x5 x6 x21 x22 x24 x128 0 x103 x104 x127 x128 x3 (x3.length : Int) 0 x179000 x179001 x179002 x179003 x180000 x180001 x181000 x182000 x183000 x183001 x183002 x183003 x190000 x190001 x190002 x190003) else (separable_Tile.l1 k x3 x5 x6 x21 x22 x103 (wrap64 (x104 + 1)) x179000 x179001 x179002 x179003 x180000 x180001 x181000 x182000 x183000 x183001 x183002 x183003 x190000 x190001 x190002 x190003)
def separable_Tile.l3 : Nat → List Int → Int → Int → Int → List (List Int) → Int → Int → Int → Int → Int → Int → Int → List Int → Int → Int → Int → Int → Int → List Int → Int → Int → List Int → Int → Int → Int → Int → Int → Int → Int → Int → List Int → Option (Int × Int × Int × List Int × Int)
 | 0, _, _, _, _, _, _, _, _, _, _, _, _, _, _, _, _, _, _, _, _, _, _, _, _, _, _, _, _, _, _, _ => none
 | k + 1, x3, x5, x6, x21, x22, x24, x25, x26, x103, x104, x127, x128, x131, x132, x133, x179000, x179001, x179002, x179003, x180000, x180001, x181000, x182000, x183000, x183001, x183002, x183003, x190000, x190001, x190002, x190003 => if x133 < x132 then (if 0 ≤ x133 then (if x133 < (x131.length : Int) then (if (x3.length : Int) = 0 then (none) else (if 0 ≤ (Int.tmod (wrap64 (x24 + x133)) (x3.length : Int)) then (if (Int.tmod (wrap64 (x24 + x133)) (x3.length : Int)) < (x22.length : Int) then (if 0 ≤ x25 then (if x25 < ((rd_L1 x22 (Int.tmod (wrap64 (x24 + x133)) (x3.length : Int))).length : Int) then (separable_Tile.l3 k x3 x5 x6 x21 x22 x24 x25 (wrap64 (x26 + (wrap64 ((rd x131 x133) * (rd (rd_L1 x22 (Int.tmod (wrap64 (x24 + x133)) (x3.length : Int))) x25))))) x103 x104 x127 x128 x131 x132 (wrap64 (x133 + 1)) x179000 x179001 x179002 x179003 x180000 x180001 x181000 x182000 x183000 x183001 x183002 x183003 x190000 x190001 x190002 x190003) else (none)) else (none)) else (none)) else (none))) else (none)) else (none)) else ((fixed_Shift.f k x26 x5).bind fun t204 => ((fixed_Clamp.f t204 x6).bind fun t205 => (if x190003.length < 17592186044416 then (separable_Tile.l2 k x3 x5 x6 x21 x22 x24 x103 x104 x127 (wrap64 (x128 + 1)) x179000 x179001 x179002 x179003 x180000 x180001 x181000 x182000 x183000 x183001 x183002 x183003 x190000 x190001 x190002 (x190003 ++ [t205])) else (none))))
end
def separable_Tile.f (k : Nat) (a0_0 : Int) (a0_1 : Int) (a0_2 : Int) (l0_3 : List Int) (a1_0 : Int) (a1_1 : Int) (l2 : List Int) (l3 : List Int) (a4 : Int) (a5 : Int) (a6 : Int) (a7_0 : Int) (a7_1 : Int) (a7_2 : Int) (a7_3 : Int) : Option (Int × Int × Int × List Int × Int) := (plane_Valid.f k a0_0 a0_1 a0_2 l0_3).bind fun t184 => (if t184 = true then ((border_Valid.f k a1_0 a1_1 a0_2).bind fun t185 => (separable_Tile.j0 k l3 a5 a6 (!t185) a0_0 a0_1 a0_2 l0_3 a1_0 a1_1 l2 a4 a7_0 a7_1 a7_2 a7_3)) else (separable_Tile.j0 k l3 a5 a6 true a0_0 a0_1 a0_2 l0_3 a1_0 a1_1 l2 a4 a7_0 a7_1 a7_2 a7_3))
theorem separable_Tile.mono_l : ∀ k, (∀ y0 y1 y2 y3 y4 y5 y6 y7 y8 y9 y10 y11 y12 y13 y14 y15, LeO (separable_Tile.j0 k y0 y1 y2 y3 y4 y5 y6 y7 y8 y9 y10 y11 y12 y13 y14 y15) (separable_Tile.j0 (k + 1) y0 y1 y2 y3 y4 y5 y6 y7 y8 y9 y10 y11 y12 y13 y14 y15)) ∧ (∀ y0 y1 y2 y3 y4 y5 y6 y7 y8 y9 y10 y11 y12 y13 y14 y15, LeO (separable_Tile.j1 k y0 y1 y2 y3 y4 y5 y6 y7 y8 y9 y10 y11 y12 y13 y14 y15) (separable_Tile.j1 (k + 1) y0 y1 y2 y3 y4 y5 y6 y7 y8 y9 y10 y11 y12 y13 y14 y15)) ∧ (∀ y0 y1 y2 y3 y4 y5 y6 y7 y8 y9 y10 y11 y12 y13 y14 y15 y16 y17 y18 y19 y20 y21, LeO (separable_Tile.l0 k y0 y1 y2 y3 y4 y5 y6 y7 y8 y9 y10 y11 y12 y13 y14 y15 y16 y17 y18 y19 y20 y21) (separable_Tile.l0 (k + 1) y0 y1 y2 y3 y4 y5 y6 y7 y8 y9 y10 y11 y12 y13 y14 y15 y16 y17 y18 y19 y20 y21)) ∧ (∀ y0 y1 y2 y3 y4 y5 y6 y7 y8 y9 y10 y11 y12 y13 y14 y15 y16 y17 y18 y19 y20 y21 y22, LeO (separable_Tile.l1 k y0 y1 y2 y3 y4 y5 y6 y7 y8 y9 y10 y11 y12 y13 y14 y15 y16 y17 y18 y19 y20 y21 y22) (separable_Tile.l1 (k + 1) y0 y1 y2 y3 y4 y5 y6 y7 y8 y9 y10 y11 y12 y13 y14 y15 y16 y17 y18 y19 y20 y21 y22)) ∧ (∀ y0 y1 y2 y3 y4 y5 y6 y7 y8 y9 y10 y11 y12 y13 y14 y15 y16 y17 y18 y19 y20 y21 y22 y23 y24 y25, LeO (separable_Tile.l2 k y0 y1 y2 y3 y4 y5 y6 y7 y8 y9 y10 y11 y12 y13 y14 y15 y16 y17 y18 y19 y20 y21 y22 y23 y24 y25) (separable_Tile.l2 (k + 1) y0 y1 y2 y3 y4 y5 y6 y7 y8 y9 y10 y11 y12 y13 y14 y15 y16 y17 y18 y19 y20 y21 y22 y23 y24 y25)) ∧ (∀ y0 y1 y2 y3 y4 y5 y6 y7 y8 y9 y10 y11 y12 y13 y14 y15 y16 y17 y18 y19 y20 y21 y22 y23 y24 y25 y26 y27 y28 y29 y30, LeO (separable_Tile.l3 k y0 y1 y2 y3 y4 y5 y6 y7 y8 y9 y10 y11 y12 y13 y14 y15 y16 y17 y18 y19 y20 y21 y22 y23 y24 y25 y26 y27 y28 y29 y30) (separable_Tile.l3 (k + 1) y0 y1 y2 y3 y4 y5 y6 y7 y8 y9 y10 y11 y12 y13 y14 y15 y16 y17 y18 y19 y20 y21 y22 y23 y24 y25 y26 y27 y28 y29 y30))
 | 0 => ⟨fun _ _ _ _ _ _ _ _ _ _ _ _ _ _ _ _ r h => by simp [separable_Tile.j0] at h, fun _ _ _ _ _ _ _ _ _ _ _ _ _ _ _ _ r h => by simp [separable_Tile.j1] at h, fun _ _ _ _ _ _ _ _ _ _ _ _ _ _ _ _ _ _ _ _ _ _ r h => by simp [separable_Tile.l0] at h, fun _ _ _ _ _ _ _ _ _ _ _ _ _ _ _ _ _ _ _ _ _ _ _ r h => by simp [separable_Tile.l1] at h, fun _ _ _ _ _ _ _ _ _ _ _ _ _ _ _ _ _ _ _ _ _ _ _ _ _ _ r h => by simp [separable_Tile.l2] at h, fun _ _ _ _ _ _ _ _ _ _ _ _ _ _ _ _ _ _ _ _ _ _ _ _ _ _ _ _ _ _ _ r h => by simp [separable_Tile.l3] at h⟩
 | k + 1 => by
  obtain ⟨ih0, ih1, ih2, ih3, ih4, ih5⟩ := separable_Tile.mono_l k
  refine ⟨?_, ?_, ?_, ?_, ?_, ?_⟩
  ·intro y0 y1 y2 y3 y4 y5 y6 y7 y8 y9 y10 y11 y12 y13 y14 y15
   unfold separable_Tile.j0
   repeat' first
   | (with_reducible exact ih0 _ _ _ _ _ _ _ _ _ _ _ _ _ _ _ _)
   | (with_reducible exact ih1 _ _ _ _ _ _ _ _ _ _ _ _ _ _ _ _)
   | (with_reducible exact ih2 _ _ _ _ _ _ _ _ _ _ _ _ _ _ _ _ _ _ _ _ _ _)
   | (with_reducible exact ih3 _ _ _ _ _ _ _ _ _ _ _ _ _ _ _ _ _ _ _ _ _ _ _)
   | (with_reducible exact ih4 _ _ _ _ _ _ _ _ _ _ _ _ _ _ _ _ _ _ _ _ _ _ _ _ _ _)
   | (with_reducible exact ih5 _ _ _ _ _ _ _ _ _ _ _ _ _ _ _ _ _ _ _ _ _ _ _ _ _ _ _ _ _ _ _)
   | (with_reducible exact border_Valid.mono _ _ _ _)
   | (with_reducible exact fixed_Shift.mono _ _ _)
   | (with_reducible exact plane_Valid.mono _ _ _ _ _)
   | (with_reducible exact rect_Inside.mono _ _ _ _ _ _ _ _ _)
   | (with_reducible exact separable_Check.mono _ _ _ _ _ _ _)
   | (with_reducible exact separable_Tile_1.mono _ _ _ _ _ _ _ _ _ _ _ _ _ _)
   | (with_reducible exact LeO.refl _)
   | (with_reducible exact LeO.none _)
   | (with_reducible refine LeO.ite ?_ ?_)
   | (with_reducible refine LeO.bind ?_ (fun _ => ?_))
   | exact ih0 _ _ _ _ _ _ _ _ _ _ _ _ _ _ _ _
   | exact ih1 _ _ _ _ _ _ _ _ _ _ _ _ _ _ _ _
   | exact ih2 _ _ _ _ _ _ _ _ _ _ _ _ _ _ _ _ _ _ _ _ _ _
   | exact ih3 _ _ _ _ _ _ _ _ _ _ _ _ _ _ _ _ _ _ _ _ _ _ _
   | exact ih4 _ _ _ _ _ _ _ _ _ _ _ _ _ _ _ _ _ _ _ _ _ _ _ _ _ _
   | exact ih5 _ _ _ _ _ _ _ _ _ _ _ _ _ _ _ _ _ _ _ _ _ _ _ _ _ _ _ _ _ _ _
   | exact border_Valid.mono _ _ _ _
   | exact fixed_Shift.mono _ _ _
   | exact plane_Valid.mono _ _ _ _ _
   | exact rect_Inside.mono _ _ _ _ _ _ _ _ _
   | exact separable_Check.mono _ _ _ _ _ _ _
   | exact separable_Tile_1.mono _ _ _ _ _ _ _ _ _ _ _ _ _ _
   | exact LeO.none _
   | refine LeO.ite ?_ ?_
   | refine LeO.bind ?_ (fun _ => ?_)
  ·intro y0 y1 y2 y3 y4 y5 y6 y7 y8 y9 y10 y11 y12 y13 y14 y15
   unfold separable_Tile.j1
   repeat' first
   | (with_reducible exact ih0 _ _ _ _ _ _ _ _ _ _ _ _ _ _ _ _)
   | (with_reducible exact ih1 _ _ _ _ _ _ _ _ _ _ _ _ _ _ _ _)
   | (with_reducible exact ih2 _ _ _ _ _ _ _ _ _ _ _ _ _ _ _ _ _ _ _ _ _ _)
   | (with_reducible exact ih3 _ _ _ _ _ _ _ _ _ _ _ _ _ _ _ _ _ _ _ _ _ _ _)
   | (with_reducible exact ih4 _ _ _ _ _ _ _ _ _ _ _ _ _ _ _ _ _ _ _ _ _ _ _ _ _ _)
   | (with_reducible exact ih5 _ _ _ _ _ _ _ _ _ _ _ _ _ _ _ _ _ _ _ _ _ _ _ _ _ _ _ _ _ _ _)
   | (with_reducible exact border_Valid.mono _ _ _ _)
   | (with_reducible exact fixed_Shift.mono _ _ _)
   | (with_reducible exact plane_Valid.mono _ _ _ _ _)
   | (with_reducible exact rect_Inside.mono _ _ _ _ _ _ _ _ _)
   | (with_reducible exact separable_Check.mono _ _ _ _ _ _ _)
   | (with_reducible exact separable_Tile_1.mono _ _ _ _ _ _ _ _ _ _ _ _ _ _)
   | (with_reducible exact LeO.refl _)
   | (with_reducible exact LeO.none _)
   | (with_reducible refine LeO.ite ?_ ?_)
   | (with_reducible refine LeO.bind ?_ (fun _ => ?_))
   | exact ih0 _ _ _ _ _ _ _ _ _ _ _ _ _ _ _ _
   | exact ih1 _ _ _ _ _ _ _ _ _ _ _ _ _ _ _ _
   | exact ih2 _ _ _ _ _ _ _ _ _ _ _ _ _ _ _ _ _ _ _ _ _ _
   | exact ih3 _ _ _ _ _ _ _ _ _ _ _ _ _ _ _ _ _ _ _ _ _ _ _
   | exact ih4 _ _ _ _ _ _ _ _ _ _ _ _ _ _ _ _ _ _ _ _ _ _ _ _ _ _
   | exact ih5 _ _ _ _ _ _ _ _ _ _ _ _ _ _ _ _ _ _ _ _ _ _ _ _ _ _ _ _ _ _ _
   | exact border_Valid.mono _ _ _ _
   | exact fixed_Shift.mono _ _ _
   | exact plane_Valid.mono _ _ _ _ _
   | exact rect_Inside.mono _ _ _ _ _ _ _ _ _
   | exact separable_Check.mono _ _ _ _ _ _ _
   | exact separable_Tile_1.mono _ _ _ _ _ _ _ _ _ _ _ _ _ _
   | exact LeO.none _
   | refine LeO.ite ?_ ?_
   | refine LeO.bind ?_ (fun _ => ?_)
  ·intro y0 y1 y2 y3 y4 y5 y6 y7 y8 y9 y10 y11 y12 y13 y14 y15 y16 y17 y18 y19 y20 y21
   unfold separable_Tile.l0
   repeat' first
   | (with_reducible exact ih0 _ _ _ _ _ _ _ _ _ _ _ _ _ _ _ _)
   | (with_reducible exact ih1 _ _ _ _ _ _ _ _ _ _ _ _ _ _ _ _)
   | (with_reducible exact ih2 _ _ _ _ _ _ _ _ _ _ _ _ _ _ _ _ _ _ _ _ _ _)
   | (with_reducible exact ih3 _ _ _ _ _ _ _ _ _ _ _ _ _ _ _ _ _ _ _ _ _ _ _)
   | (with_reducible exact ih4 _ _ _ _ _ _ _ _ _ _ _ _ _ _ _ _ _ _ _ _ _ _ _ _ _ _)
   | (with_reducible exact ih5 _ _ _ _ _ _ _ _ _ _ _ _ _ _ _ _ _ _ _ _ _ _ _ _ _ _ _ _ _ _ _)
   | (with_reducible exact border_Valid.mono _ _ _ _)
   | (with_reducible exact fixed_Shift.mono _ _ _)
   | (with_reducible exact plane_Valid.mono _ _ _ _ _)
   | (with_reducible exact rect_Inside.mono _ _ _ _ _ _ _ _ _)
   | (with_reducible exact separable_Check.mono _ _ _ _ _ _ _)
   | (with_reducible exact separable_Tile_1.mono _ _ _ _ _ _ _ _ _ _ _ _ _ _)
   | (with_reducible exact LeO.refl _)
   | (with_reducible exact LeO.none _)
   | (with_reducible refine LeO.ite ?_ ?_)
   | (with_reducible refine LeO.bind ?_ (fun _ => ?_))
   | exact ih0 _ _ _ _ _ _ _ _ _ _ _ _ _ _ _ _
   | exact ih1 _ _ _ _ _ _ _ _ _ _ _ _ _ _ _ _
   | exact ih2 _ _ _ _ _ _ _ _ _ _ _ _ _ _ _ _ _ _ _ _ _ _
   | exact ih3 _ _ _ _ _ _ _ _ _ _ _ _ _ _ _ _ _ _ _ _ _ _ _
   | exact ih4 _ _ _ _ _ _ _ _ _ _ _ _ _ _ _ _ _ _ _ _ _ _ _ _ _ _
   | exact ih5 _ _ _ _ _ _ _ _ _ _ _ _ _ _ _ _ _ _ _ _ _ _ _ _ _ _ _ _ _ _ _
   | exact border_Valid.mono _ _ _ _
   | exact fixed_Shift.mono _ _ _
   | exact plane_Valid.mono _ _ _ _ _
   | exact rect_Inside.mono _ _ _ _ _ _ _ _ _
   | exact separable_Check.mono _ _ _ _ _ _ _
   | exact separable_Tile_1.mono _ _ _ _ _ _ _ _ _ _ _ _ _ _
   | exact LeO.none _
   | refine LeO.ite ?_ ?_
   | refine LeO.bind ?_ (fun _ => ?_)
  ·intro y0 y1 y2 y3 y4 y5 y6 y7 y8 y9 y10 y11 y12 y13 y14 y15 y16 y17 y18 y19 y20 y21 y22
   unfold separable_Tile.l1
   repeat' first
   | (with_reducible exact ih0 _ _ _ _ _ _ _ _ _ _ _ _ _ _ _ _)
   | (with_reducible exact ih1 _ _ _ _ _ _ _ _ _ _ _ _ _ _ _ _)
   | (with_reducible exact ih2 _ _ _ _ _ _ _ _ _ _ _ _ _ _ _ _ _ _ _ _ _ _)
   | (with_reducible exact ih3 _ _ _ _ _ _ _ _ _ _ _ _ _ _ _ _ _ _ _ _ _ _ _)
   | (with_reducible exact ih4 _ _ _ _ _ _ _ _ _ _ _ _ _ _ _ _ _ _ _ _ _ _ _ _ _ _)
   | (with_reducible exact ih5 _ _ _ _ _ _ _ _ _ _ _ _ _ _ _ _ _ _ _ _ _ _ _ _ _ _ _ _ _ _ _)
   | (with_reducible exact border_Valid.mono _ _ _ _)
   | (with_reducible exact fixed_Shift.mono _ _ _)
   | (with_reducible exact plane_Valid.mono _ _ _ _ _)
   | (with_reducible exact rect_Inside.mono _ _ _ _ _ _ _ _ _)
   | (with_reducible exact separable_Check.mono _ _ _ _ _ _ _)
   | (with_reducible exact separable_Tile_1.mono _ _ _ _ _ _ _ _ _ _ _ _ _ _)
   | (with_reducible exact LeO.refl _)
   | (with_reducible exact LeO.none _)
   | (with_reducible refine LeO.ite ?_ ?_)
   | (with_reducible refine LeO.bind ?_ (fun _ => ?_))
   | exact ih0 _ _ _ _ _ _ _ _ _ _ _ _ _ _ _ _
   | exact ih1 _ _ _ _ _ _ _ _ _ _ _ _ _ _ _ _
   | exact ih2 _ _ _ _ _ _ _ _ _ _ _ _ _ _ _ _ _ _ _ _ _ _
   | exact ih3 _ _ _ _ _ _ _ _ _ _ _ _ _ _ _ _ _ _ _ _ _ _ _
   | exact ih4 _ _ _ _ _ _ _ _ _ _ _ _ _ _ _ _ _ _ _ _ _ _ _ _ _ _
   | exact ih5 _ _ _ _ _ _ _ _ _ _ _ _ _ _ _ _ _ _ _ _ _ _ _ _ _ _ _ _ _ _ _
   | exact border_Valid.mono _ _ _ _
   | exact fixed_Shift.mono _ _ _
   | exact plane_Valid.mono _ _ _ _ _
   | exact rect_Inside.mono _ _ _ _ _ _ _ _ _
   | exact separable_Check.mono _ _ _ _ _ _ _
   | exact separable_Tile_1.mono _ _ _ _ _ _ _ _ _ _ _ _ _ _
   | exact LeO.none _
   | refine LeO.ite ?_ ?_
   | refine LeO.bind ?_ (fun _ => ?_)
  ·intro y0 y1 y2 y3 y4 y5 y6 y7 y8 y9 y10 y11 y12 y13 y14 y15 y16 y17 y18 y19 y20 y21 y22 y23 y24 y25
   unfold separable_Tile.l2
   repeat' first
   | (with_reducible exact ih0 _ _ _ _ _ _ _ _ _ _ _ _ _ _ _ _)
   | (with_reducible exact ih1 _ _ _ _ _ _ _ _ _ _ _ _ _ _ _ _)
   | (with_reducible exact ih2 _ _ _ _ _ _ _ _ _ _ _ _ _ _ _ _ _ _ _ _ _ _)
   | (with_reducible exact ih3 _ _ _ _ _ _ _ _ _ _ _ _ _ _ _ _ _ _ _ _ _ _ _)
   | (with_reducible exact ih4 _ _ _ _ _ _ _ _ _ _ _ _ _ _ _ _ _ _ _ _ _ _ _ _ _ _)
   | (with_reducible exact ih5 _ _ _ _ _ _ _ _ _ _ _ _ _ _ _ _ _ _ _ _ _ _ _ _ _ _ _ _ _ _ _)
   | (with_reducible exact border_Valid.mono _ _ _ _)
   | (with_reducible exact fixed_Shift.mono _ _ _)
   | (with_reducible exact plane_Valid.mono _ _ _ _ _)
   | (with_reducible exact rect_Inside.mono _ _ _ _ _ _ _ _ _)
   | (with_reducible exact separable_Check.mono _ _ _ _ _ _ _)
   | (with_reducible exact separable_Tile_1.mono _ _ _ _ _ _ _ _ _ _ _ _ _ _)
   | (with_reducible exact LeO.refl _)
   | (with_reducible exact LeO.none _)
   | (with_reducible refine LeO.ite ?_ ?_)
   | (with_reducible refine LeO.bind ?_ (fun _ => ?_))
   | exact ih0 _ _ _ _ _ _ _ _ _ _ _ _ _ _ _ _
   | exact ih1 _ _ _ _ _ _ _ _ _ _ _ _ _ _ _ _
   | exact ih2 _ _ _ _ _ _ _ _ _ _ _ _ _ _ _ _ _ _ _ _ _ _
   | exact ih3 _ _ _ _ _ _ _ _ _ _ _ _ _ _ _ _ _ _ _ _ _ _ _
   | exact ih4 _ _ _ _ _ _ _ _ _ _ _ _ _ _ _ _ _ _ _ _ _ _ _ _ _ _
   | exact ih5 _ _ _ _ _ _ _ _ _ _ _ _ _ _ _ _ _ _ _ _ _ _ _ _ _ _ _ _ _ _ _
   | exact border_Valid.mono _ _ _ _
   | exact fixed_Shift.mono _ _ _
   | exact plane_Valid.mono _ _ _ _ _
   | exact rect_Inside.mono _ _ _ _ _ _ _ _ _
   | exact separable_Check.mono _ _ _ _ _ _ _
   | exact separable_Tile_1.mono _ _ _ _ _ _ _ _ _ _ _ _ _ _
   | exact LeO.none _
   | refine LeO.ite ?_ ?_
   | refine LeO.bind ?_ (fun _ => ?_)
  ·intro y0 y1 y2 y3 y4 y5 y6 y7 y8 y9 y10 y11 y12 y13 y14 y15 y16 y17 y18 y19 y20 y21 y22 y23 y24 y25 y26 y27 y28 y29 y30
   unfold separable_Tile.l3
   repeat' first
   | (with_reducible exact ih0 _ _ _ _ _ _ _ _ _ _ _ _ _ _ _ _)
   | (with_reducible exact ih1 _ _ _ _ _ _ _ _ _ _ _ _ _ _ _ _)
   | (with_reducible exact ih2 _ _ _ _ _ _ _ _ _ _ _ _ _ _ _ _ _ _ _ _ _ _)
   | (with_reducible exact ih3 _ _ _ _ _ _ _ _ _ _ _ _ _ _ _ _ _ _ _ _ _ _ _)
   | (with_reducible exact ih4 _ _ _ _ _ _ _ _ _ _ _ _ _ _ _ _ _ _ _ _ _ _ _ _ _ _)
   | (with_reducible exact ih5 _ _ _ _ _ _ _ _ _ _ _ _ _ _ _ _ _ _ _ _ _ _ _ _ _ _ _ _ _ _ _)
   | (with_reducible exact border_Valid.mono _ _ _ _)
   | (with_reducible exact fixed_Shift.mono _ _ _)
   | (with_reducible exact plane_Valid.mono _ _ _ _ _)
   | (with_reducible exact rect_Inside.mono _ _ _ _ _ _ _ _ _)
   | (with_reducible exact separable_Check.mono _ _ _ _ _ _ _)
   | (with_reducible exact separable_Tile_1.mono _ _ _ _ _ _ _ _ _ _ _ _ _ _)
   | (with_reducible exact LeO.refl _)
   | (with_reducible exact LeO.none _)
   | (with_reducible refine LeO.ite ?_ ?_)
   | (with_reducible refine LeO.bind ?_ (fun _ => ?_))
   | exact ih0 _ _ _ _ _ _ _ _ _ _ _ _ _ _ _ _
   | exact ih1 _ _ _ _ _ _ _ _ _ _ _ _ _ _ _ _
   | exact ih2 _ _ _ _ _ _ _ _ _ _ _ _ _ _ _ _ _ _ _ _ _ _
   | exact ih3 _ _ _ _ _ _ _ _ _ _ _ _ _ _ _ _ _ _ _ _ _ _ _
   | exact ih4 _ _ _ _ _ _ _ _ _ _ _ _ _ _ _ _ _ _ _ _ _ _ _ _ _ _
   | exact ih5 _ _ _ _ _ _ _ _ _ _ _ _ _ _ _ _ _ _ _ _ _ _ _ _ _ _ _ _ _ _ _
   | exact border_Valid.mono _ _ _ _
   | exact fixed_Shift.mono _ _ _
   | exact plane_Valid.mono _ _ _ _ _
   | exact rect_Inside.mono _ _ _ _ _ _ _ _ _
   | exact separable_Check.mono _ _ _ _ _ _ _
   | exact separable_Tile_1.mono _ _ _ _ _ _ _ _ _ _ _ _ _ _
   | exact LeO.none _
   | refine LeO.ite ?_ ?_
   | refine LeO.bind ?_ (fun _ => ?_)
theorem separable_Tile.mono : ∀ a0 a1 a2 a3 a4 a5 a6 a7 a8 a9 a10 a11 a12 a13 a14 k, LeO (separable_Tile.f k a0 a1 a2 a3 a4 a5 a6 a7 a8 a9 a10 a11 a12 a13 a14) (separable_Tile.f (k + 1) a0 a1 a2 a3 a4 a5 a6 a7 a8 a9 a10 a11 a12 a13 a14) := by
 intro a0 a1 a2 a3 a4 a5 a6 a7 a8 a9 a10 a11 a12 a13 a14 k
 obtain ⟨ih0, ih1, ih2, ih3, ih4, ih5⟩ := separable_Tile.mono_l k
 unfold separable_Tile.f
 repeat' first
   | (with_reducible exact ih0 _ _ _ _ _ _ _ _ _ _ _ _ _ _ _ _)
   | (with_reducible exact ih1 _ _ _ _ _ _ _ _ _ _ _ _ _ _ _ _)
   | (with_reducible exact ih2 _ _ _ _ _ _ _ _ _ _ _ _ _ _ _ _ _ _ _ _ _ _)
   | (with_reducible exact ih3 _ _ _ _ _ _ _ _ _ _ _ _ _ _ _ _ _ _ _ _ _ _ _)
   | (with_reducible exact ih4 _ _ _ _ _ _ _ _ _ _ _ _ _ _ _ _ _ _ _ _ _ _ _ _ _ _)
   | (with_reducible exact ih5 _ _ _ _ _ _ _ _ _ _ _ _ _ _ _ _ _ _ _ _ _ _ _ _ _ _ _ _ _ _ _)
   | (with_reducible exact border_Valid.mono _ _ _ _)
   | (with_reducible exact fixed_Shift.mono _ _ _)
   | (with_reducible exact plane_Valid.mono _ _ _ _ _)
   | (with_reducible exact rect_Inside.mono _ _ _ _ _ _ _ _ _)
   | (with_reducible exact separable_Check.mono _ _ _ _ _ _ _)
   | (with_reducible exact separable_Tile_1.mono _ _ _ _ _ _ _ _ _ _ _ _ _ _)
   | (with_reducible exact LeO.refl _)
   | (with_reducible exact LeO.none _)
   | (with_reducible refine LeO.ite ?_ ?_)
   | (with_reducible refine LeO.bind ?_ (fun _ => ?_))
   | exact ih0 _ _ _ _ _ _ _ _ _ _ _ _ _ _ _ _
   | exact ih1 _ _ _ _ _ _ _ _ _ _ _ _ _ _ _ _
   | exact ih2 _ _ _ _ _ _ _ _ _ _ _ _ _ _ _ _ _ _ _ _ _ _
   | exact ih3 _ _ _ _ _ _ _ _ _ _ _ _ _ _ _ _ _ _ _ _ _ _ _
   | exact ih4 _ _ _ _ _ _ _ _ _ _ _ _ _ _ _ _ _ _ _ _ _ _ _ _ _ _
   | exact ih5 _ _ _ _ _ _ _ _ _ _ _ _ _ _ _ _ _ _ _ _ _ _ _ _ _ _ _ _ _ _ _
   | exact border_Valid.mono _ _ _ _
   | exact fixed_Shift.mono _ _ _
   | exact plane_Valid.mono _ _ _ _ _
   | exact rect_Inside.mono _ _ _ _ _ _ _ _ _
   | exact separable_Check.mono _ _ _ _ _ _ _
   | exact separable_Tile_1.mono _ _ _ _ _ _ _ _ _ _ _ _ _ _
   | exact LeO.none _
   | refine LeO.ite ?_ ?_
   | refine LeO.bind ?_ (fun _ => ?_)
def separable_Tile.T20 : Bool × List (List Nat × List Nat) := (true, [([], []), ([], []), ([], []), ([2], [2]), ([1, 3], [1, 3]), ([4], [4]), ([], []), ([6], [6]), ([5, 7], [5, 7]), ([], []), ([], []), ([], []), ([10, 11], [10, 11]), ([], []), ([13], [13]), ([12, 14], [12, 14]), ([15], [15]), ([9, 16], [9, 16]), ([0, 8, 0, 1, 2, 3, 4, 5, 6, 7, 8, 9, 10, 11, 12, 13, 14, 15, 16, 17], [0, 8]), ([18, 17, 17, 0, 1, 2, 3, 4, 5, 6, 7, 8, 9, 10, 11, 12, 13, 14, 15, 16, 17], [17, 18])])
def separable_Tile.B20 : List Nat := [0, 0, 0, 4, 14, 30, 0, 64, 254, 0, 0, 0, 3072, 0, 8192, 31744, 64512, 130560, 262143, 524287]
theorem separable_Tile.tab20 : rtab .any (opsOf Try.f20 20) = separable_Tile.T20 := by kernel_rfl
theorem separable_Tile.bits20 : waitsOk separable_Tile.T20.2 separable_Tile.B20 = true := by kernel_rfl
def separable_Tile.T30 : Bool × List (List Nat × List Nat) := (true, [([], []), ([0], [0]), ([], []), ([], []), ([2, 3], [2, 3]), ([], []), ([4, 5, 4], [4, 5]), ([6], [6]), ([1, 7, 6], [1, 7]), ([0, 1, 2, 3, 4, 5, 6, 7, 8], []), ([9, 8, 8, 0, 1, 2, 3, 4, 5, 6, 7, 8], [8, 9])])
def separable_Tile.B30 : List Nat := [0, 1, 0, 0, 12, 0, 60, 124, 255, 511, 1023]
theorem separable_Tile.tab30 : rtab .any (opsOf Try.f20 30) = separable_Tile.T30 := by kernel_rfl
theorem separable_Tile.bits30 : waitsOk separable_Tile.T30.2 separable_Tile.B30 = true := by kernel_rfl
set_option maxHeartbeats 8000000 in
set_option maxRecDepth 100000 in
theorem separable_Tile.calls (k : Nat) (a0_0 : Int) (a0_1 : Int) (a0_2 : Int) (A0_3 : Option Addr) (c0_3 : Nat) (l0_3 : List Int) (a1_0 : Int) (a1_1 : Int) (A2 : Option Addr) (c2 : Nat) (l2 : List Int) (A3 : Option Addr) (c3 : Nat) (l3 : List Int) (a4 : Int) (a5 : Int) (a6 : Int) (a7_0 : Int) (a7_1 : Int) (a7_2 : Int) (a7_3 : Int) (r1 : Int) (r2 : Int) (r3 : Int) (r4 : List Int) (r5 : Int) (w : World) (hr0_3 : Kd.C (Kd.int .i64) w A0_3 l0_3.length l0_3) (hc0_3 : l0_3.length ≤ c0_3) (hr2 : Kd.C (Kd.int .i64) w A2 l2.length l2) (hc2 : l2.length ≤ c2) (hr3 : Kd.C (Kd.int .i64) w A3 l3.length l3) (hc3 : l3.length ≤ c3) (h : separable_Tile.f k a0_0 a0_1 a0_2 l0_3 a1_0 a1_1 l2 l3 a4 a5 a6 a7_0 a7_1 a7_2 a7_3 = some (r1, r2, r3, r4, r5)) :
  Calls Try.prog 20 #[.agg #[.int .i64 a0_0, .int .i64 a0_1, .int .i64 a0_2, .slice A0_3 l0_3.length c0_3], .agg #[.int .i64 a1_0, .int .i64 a1_1], .slice A2 l2.length c2, .slice A3 l3.length c3, .int .i64 a4, .int .i64 a5, .int .i64 a6, .agg #[.int .i64 a7_0, .int .i64 a7_1, .int .i64 a7_2, .int .i64 a7_3]] w fun e w' => ∃ v3_ : Value, e = .returned (.tuple #[.agg #[.int .i64 r1, .int .i64 r2, .int .i64 r3, v3_], .int .i64 r5]) ∧ Kd.R (Kd.int .i64) 3 w' w.heap.size (fun _ => True) v3_ r4 ∧ Below w.heap.size w w' := by
 have hu35 := Try.underlying35
 have hu38 := Try.underlying38
 have hu33 := Try.underlying33
 have HR0_3 := am_ hr0_3
 have HC0_3 := am_ hc0_3
 clear hr0_3 hc0_3
 have HR2 := am_ hr2
 have HC2 := am_ hc2
 clear hr2 hc2
 have HR3 := am_ hr3
 have HC3 := am_ hc3
 clear hr3 hc3
 have HB := am_ (Below.refl w.heap.size w)
 have H : ((plane_Valid.f k a0_0 a0_1 a0_2 l0_3).bind fun t184 => (if t184 = true then ((border_Valid.f k a1_0 a1_1 a0_2).bind fun t185 => (separable_Tile.j0 k l3 a5 a6 (!t185) a0_0 a0_1 a0_2 l0_3 a1_0 a1_1 l2 a4 a7_0 a7_1 a7_2 a7_3)) else (separable_Tile.j0 k l3 a5 a6 true a0_0 a0_1 a0_2 l0_3 a1_0 a1_1 l2 a4 a7_0 a7_1 a7_2 a7_3))) = some (r1, r2, r3, r4, r5) := h
 clear h
 have HC9 := am_ H
 clear H
 go_enter Try.func20, Try.ntmps20
 go_upto_region 1 with (first | ((with_reducible refine gate_dst (N := 8) rfl ?_); refine box_event ?hg (N := 8) ?hd (cs := #[.int .i64 a0_0, .int .i64 a0_1, .int .i64 a0_2, .slice A0_3 l0_3.length c0_3]) (t := 35) ?hr ?_; (case hd => rfl); (case hg => rfl); (case hr => first | (go_simp; done) | (go_simp; rfl)); intro gb178 hg w10 hbox hb; have n0_ := am_ (below_step q121_ hb); have n1_ := am_ (hbox); have n2_ := am_ ((q96_ : w.heap.size ≤ gb178)); have n3_ := am_ ((q96_ : w.heap.size ≤ gb178)); clear HB; have HB := n0_; have BK178 := n1_; have GW178 := n2_; have GE178 := n3_; clear n0_ n1_ n2_ n3_; clear hb hbox hg) | ((with_reducible refine gate_dst (N := 9) rfl ?_); refine box_event ?hg (N := 9) ?hd (cs := #[.int .i64 a1_0, .int .i64 a1_1]) (t := 38) ?hr ?_; (case hd => rfl); (case hg => rfl); (case hr => first | (go_simp; done) | (go_simp; rfl)); intro gb179 hg w11 hbox hb; have n0_ := am_ (blk_below (g := gb178) (o := .cells #[.int .i64 a0_0, .int .i64 a0_1, .int .i64 a0_2, .slice A0_3 l0_3.length c0_3] 35 (0, 0)) q133_ hb); have n1_ := am_ (below_step q103_ hb); have n2_ := am_ (hbox); have n3_ := am_ ((by rw [hg]; exact (below_size q103_) : w.heap.size ≤ gb179)); have n4_ := am_ ((by rw [hg]; exact (below_size q103_) : w.heap.size ≤ gb179)); have n5_ := am_ ((q15_ : gb178 ≠ gb179)); have n6_ := am_ ((q16_ : gb179 ≠ gb178)); clear BK178; clear HB; have BK178 := n0_; have HB := n1_; have BK179 := n2_; have GW179 := n3_; have GE179 := n4_; have NB178_179 := n5_; have NB179_178 := n6_; clear n0_ n1_ n2_ n3_ n4_ n5_ n6_; clear hb hbox hg) | ((with_reducible refine gate_dst (N := 10) rfl ?_); refine box_event ?hg (N := 10) ?hd (cs := #[.slice A2 l2.length c2]) (t := 22) ?hr ?_; (case hd => rfl); (case hg => rfl); (case hr => first | (go_simp; done) | (go_simp; rfl)); intro gb180 hg w12 hbox hb; have n0_ := am_ (blk_below (g := gb178) (o := .cells #[.int .i64 a0_0, .int .i64 a0_1, .int .i64 a0_2, .slice A0_3 l0_3.length c0_3] 35 (0, 0)) q133_ hb); have n1_ := am_ (blk_below (g := gb179) (o := .cells #[.int .i64 a1_0, .int .i64 a1_1] 38 (0, 0)) q134_ hb); have n2_ := am_ (below_step q77_ hb); have n3_ := am_ (hbox); have n4_ := am_ ((by rw [hg]; exact (below_size q77_) : w.heap.size ≤ gb180)); have n5_ := am_ ((by rw [hg]; exact (below_size q77_) : w.heap.size ≤ gb180)); have n6_ := am_ ((q15_ : gb178 ≠ gb180)); have n7_ := am_ ((q16_ : gb180 ≠ gb178)); have n8_ := am_ ((q48_ : gb179 ≠ gb180)); have n9_ := am_ ((q49_ : gb180 ≠ gb179)); clear BK178; clear BK179; clear HB; have BK178 := n0_; have BK179 := n1_; have HB := n2_; have BK180 := n3_; have GW180 := n4_; have GE180 := n5_; have NB178_180 := n6_; have NB180_178 := n7_; have NB179_180 := n8_; have NB180_179 := n9_; clear n0_ n1_ n2_ n3_ n4_ n5_ n6_ n7_ n8_ n9_; clear hb hbox hg) | ((with_reducible refine gate_dst (N := 12) rfl ?_); refine box_event ?hg (N := 12) ?hd (cs := #[.int .i64 a4]) (t := 3) ?hr ?_; (case hd => rfl); (case hg => rfl); (case hr => first | (go_simp; done) | (go_simp; rfl)); intro gb181 hg w13 hbox hb; have n0_ := am_ (blk_below (g := gb178) (o := .cells #[.int .i64 a0_0, .int .i64 a0_1, .int .i64 a0_2, .slice A0_3 l0_3.length c0_3] 35 (0, 0)) q133_ hb); have n1_ := am_ (blk_below (g := gb179) (o := .cells #[.int .i64 a1_0, .int .i64 a1_1] 38 (0, 0)) q134_ hb); have n2_ := am_ (blk_below (g := gb180) (o := .cells #[.slice A2 l2.length c2] 22 (0, 0)) q135_ hb); have n3_ := am_ (below_step q55_ hb); have n4_ := am_ (hbox); have n5_ := am_ ((by rw [hg]; exact (below_size q55_) : w.heap.size ≤ gb181)); have n6_ := am_ ((by rw [hg]; exact (below_size q55_) : w.heap.size ≤ gb181)); have n7_ := am_ ((q15_ : gb178 ≠ gb181)); have n8_ := am_ ((q16_ : gb181 ≠ gb178)); have n9_ := am_ ((q48_ : gb179 ≠ gb181)); have n10_ := am_ ((q49_ : gb181 ≠ gb179)); have n11_ := am_ ((q59_ : gb180 ≠ gb181)); have n12_ := am_ ((q60_ : gb181 ≠ gb180)); clear BK178; clear BK179; clear BK180; clear HB; have BK178 := n0_; have BK179 := n1_; have BK180 := n2_; have HB := n3_; have BK181 := n4_; have GW181 := n5_; have GE181 := n6_; have NB178_181 := n7_; have NB181_178 := n8_; have NB179_181 := n9_; have NB181_179 := n10_; have NB180_181 := n11_; have NB181_180 := n12_; clear n0_ n1_ n2_ n3_ n4_ n5_ n6_ n7_ n8_ n9_ n10_ n11_ n12_; clear hb hbox hg) | ((with_reducible refine gate_dst (N := 15) rfl ?_); refine box_event ?hg (N := 15) ?hd (cs := #[.int .i64 a7_0, .int .i64 a7_1, .int .i64 a7_2, .int .i64 a7_3]) (t := 33) ?hr ?_; (case hd => rfl); (case hg => rfl); (case hr => first | (go_simp; done) | (go_simp; rfl)); intro gb182 hg w14 hbox hb; have n0_ := am_ (blk_below (g := gb178) (o := .cells #[.int .i64 a0_0, .int .i64 a0_1, .int .i64 a0_2, .slice A0_3 l0_3.length c0_3] 35 (0, 0)) q133_ hb); have n1_ := am_ (blk_below (g := gb179) (o := .cells #[.int .i64 a1_0, .int .i64 a1_1] 38 (0, 0)) q134_ hb); have n2_ := am_ (blk_below (g := gb180) (o := .cells #[.slice A2 l2.length c2] 22 (0, 0)) q135_ hb); have n3_ := am_ (blk_below (g := gb181) (o := .cells #[.int .i64 a4] 3 (0, 0)) q136_ hb); have n4_ := am_ (below_step q37_ hb); have n5_ := am_ (hbox); have n6_ := am_ ((by rw [hg]; exact (below_size q37_) : w.heap.size ≤ gb182)); have n7_ := am_ ((by rw [hg]; exact (below_size q37_) : w.heap.size ≤ gb182)); have n8_ := am_ ((q15_ : gb178 ≠ gb182)); have n9_ := am_ ((q16_ : gb182 ≠ gb178)); have n10_ := am_ ((q48_ : gb179 ≠ gb182)); have n11_ := am_ ((q49_ : gb182 ≠ gb179)); have n12_ := am_ ((q59_ : gb180 ≠ gb182)); have n13_ := am_ ((q60_ : gb182 ≠ gb180)); have n14_ := am_ ((q65_ : gb181 ≠ gb182)); have n15_ := am_ ((q66_ : gb182 ≠ gb181)); clear BK178; clear BK179; clear BK180; clear BK181; clear HB; have BK178 := n0_; have BK179 := n1_; have BK180 := n2_; have BK181 := n3_; have HB := n4_; have BK182 := n5_; have GW182 := n6_; have GE182 := n7_; have NB178_182 := n8_; have NB182_178 := n9_; have NB179_182 := n10_; have NB182_179 := n11_; have NB180_182 := n12_; have NB182_180 := n13_; have NB181_182 := n14_; have NB182_181 := n15_; clear n0_ n1_ n2_ n3_ n4_ n5_ n6_ n7_ n8_ n9_ n10_ n11_ n12_ n13_ n14_ n15_; clear hb hbox hg) | ((with_reducible refine gate_dst (N := 16) rfl ?_); refine box_event ?hg (N := 16) ?hd (cs := #[.int .i64 0, .int .i64 0, .int .i64 0, .slice none 0 0]) (t := 35) ?hr ?_; (case hd => rfl); (case hg => rfl); (case hr => first | (go_simp; done) | (go_simp; rfl)); intro gb183 hg w15 hbox hb; have n0_ := am_ (blk_below (g := gb178) (o := .cells #[.int .i64 a0_0, .int .i64 a0_1, .int .i64 a0_2, .slice A0_3 l0_3.length c0_3] 35 (0, 0)) q133_ hb); have n1_ := am_ (blk_below (g := gb179) (o := .cells #[.int .i64 a1_0, .int .i64 a1_1] 38 (0, 0)) q134_ hb); have n2_ := am_ (blk_below (g := gb180) (o := .cells #[.slice A2 l2.length c2] 22 (0, 0)) q135_ hb); have n3_ := am_ (blk_below (g := gb181) (o := .cells #[.int .i64 a4] 3 (0, 0)) q136_ hb); have n4_ := am_ (blk_below (g := gb182) (o := .cells #[.int .i64 a7_0, .int .i64 a7_1, .int .i64 a7_2, .int .i64 a7_3] 33 (0, 0)) q137_ hb); have n5_ := am_ (below_step q11_ hb); have n6_ := am_ (hbox); have n7_ := am_ ((by rw [hg]; exact (below_size q11_) : w.heap.size ≤ gb183)); have n8_ := am_ ((by rw [hg]; exact (below_size q11_) : w.heap.size ≤ gb183)); have n9_ := am_ ((q15_ : gb178 ≠ gb183)); have n10_ := am_ ((q16_ : gb183 ≠ gb178)); have n11_ := am_ ((q48_ : gb179 ≠ gb183)); have n12_ := am_ ((q49_ : gb183 ≠ gb179)); have n13_ := am_ ((q59_ : gb180 ≠ gb183)); have n14_ := am_ ((q60_ : gb183 ≠ gb180)); have n15_ := am_ ((q65_ : gb181 ≠ gb183)); have n16_ := am_ ((q66_ : gb183 ≠ gb181)); have n17_ := am_ ((by rw [hg]; exact Nat.ne_of_lt (blk_lt (g := gb182) (o := .cells #[.int .i64 a7_0, .int .i64 a7_1, .int .i64 a7_2, .int .i64 a7_3] 33 (0, 0)) q137_) : gb182 ≠ gb183)); have n18_ := am_ ((by rw [hg]; exact Nat.ne_of_gt (blk_lt (g := gb182) (o := .cells #[.int .i64 a7_0, .int .i64 a7_1, .int .i64 a7_2, .int .i64 a7_3] 33 (0, 0)) q137_) : gb183 ≠ gb182)); clear BK178; clear BK179; clear BK180; clear BK181; clear BK182; clear HB; have BK178 := n0_; have BK179 := n1_; have BK180 := n2_; have BK181 := n3_; have BK182 := n4_; have HB := n5_; have BK183 := n6_; have GW183 := n7_; have GE183 := n8_; have NB178_183 := n9_; have NB183_178 := n10_; have NB179_183 := n11_; have NB183_179 := n12_; have NB180_183 := n13_; have NB183_180 := n14_; have NB181_183 := n15_; have NB183_181 := n16_; have NB182_183 := n17_; have NB183_182 := n18_; clear n0_ n1_ n2_ n3_ n4_ n5_ n6_ n7_ n8_ n9_ n10_ n11_ n12_ n13_ n14_ n15_ n16_ n17_ n18_; clear hb hbox hg))
 (try simp only [Act.put, List.setIfInBounds_toArray, List.set_cons_zero, List.set_cons_succ])
 go_cut [38] (fun v38 wc => ∃ (kq : Nat) (x38_8 : Bool), v38 = .bool x38_8 ∧ Aside0 (separable_Tile.j0 kq l3 a5 a6 x38_8 a0_0 a0_1 a0_2 l0_3 a1_0 a1_1 l2 a4 a7_0 a7_1 a7_2 a7_3 = some (r1, r2, r3, r4, r5)) ∧ Aside0 (kq ≤ k) ∧ Aside0 (wc.heap[gb178]? = some (.cells #[.int .i64 a0_0, .int .i64 a0_1, .int .i64 a0_2, (.slice A0_3 l0_3.length c0_3)] 35 (0, 0))) ∧ Aside0 (wc.heap[gb179]? = some (.cells #[.int .i64 a1_0, .int .i64 a1_1] 38 (0, 0))) ∧ Aside0 (wc.heap[gb180]? = some (.cells #[(.slice A2 l2.length c2)] 22 (0, 0))) ∧ Aside0 (wc.heap[gb181]? = some (.cells #[.int .i64 a4] 3 (0, 0))) ∧ Aside0 (wc.heap[gb182]? = some (.cells #[.int .i64 a7_0, .int .i64 a7_1, .int .i64 a7_2, .int .i64 a7_3] 33 (0, 0))) ∧ Aside0 (wc.heap[gb183]? = some (.cells #[.int .i64 0, .int .i64 0, .int .i64 0, (.slice none 0 0)] 35 (0, 0))) ∧ Aside0 (Below w.heap.size w wc))
 case first =>
  have H := HC9.out
  clear HC9
  replace H := Option.bind_eq_some_iff.mp H
  obtain ⟨t184, A160, H⟩ := H
  replace H : (if t184 = true then ((border_Valid.f k a1_0 a1_1 a0_2).bind fun t185 => (separable_Tile.j0 k l3 a5 a6 (!t185) a0_0 a0_1 a0_2 l0_3 a1_0 a1_1 l2 a4 a7_0 a7_1 a7_2 a7_3)) else (separable_Tile.j0 k l3 a5 a6 true a0_0 a0_1 a0_2 l0_3 a1_0 a1_1 l2 a4 a7_0 a7_1 a7_2 a7_3)) = some (r1, r2, r3, r4, r5) := H
  have A16 := am_ A160
  clear A160
  by_cases c17 : t184 = true
  ·subst c17
   have H1 : ((border_Valid.f k a1_0 a1_1 a0_2).bind fun t185 => (separable_Tile.j0 k l3 a5 a6 (!t185) a0_0 a0_1 a0_2 l0_3 a1_0 a1_1 l2 a4 a7_0 a7_1 a7_2 a7_3)) = some (r1, r2, r3, r4, r5) := by rw [if_pos rfl] at H; exact H
   clear H
   have H := H1
   clear H1
   replace H := Option.bind_eq_some_iff.mp H
   obtain ⟨t185, A180, H⟩ := H
   replace H : (separable_Tile.j0 k l3 a5 a6 (!t185) a0_0 a0_1 a0_2 l0_3 a1_0 a1_1 l2 a4 a7_0 a7_1 a7_2 a7_3) = some (r1, r2, r3, r4, r5) := H
   have A18 := am_ A180
   clear A180
   have H' := am_ H
   clear H
   have hnb19 := NB178_179.out
   have hnc19 := NB179_178.out
   have hnb20 := NB178_180.out
   have hnc20 := NB180_178.out
   have hnb21 := NB178_181.out
   have hnc21 := NB181_178.out
   have hnb22 := NB178_182.out
   have hnc22 := NB182_178.out
   have hnb23 := NB178_183.out
   have hnc23 := NB183_178.out
   have hcz24_0 : w15.cell? ⟨gb178, 0, none⟩ = some (.int .i64 a0_0) := (blk_cell BK178.out 0).trans rfl
   have hcz24_1 : w15.cell? ⟨gb178, 1, none⟩ = some (.int .i64 a0_1) := (blk_cell BK178.out 1).trans rfl
   have hcz24_2 : w15.cell? ⟨gb178, 2, none⟩ = some (.int .i64 a0_2) := (blk_cell BK178.out 2).trans rfl
   have hcz24_3 : w15.cell? ⟨gb178, 3, none⟩ = some (.slice A0_3 l0_3.length c0_3) := (blk_cell BK178.out 3).trans rfl
   have hfz24_0 := blk_frozen BK178.out 0
   have hfz24_1 := blk_frozen BK178.out 1
   have hfz24_2 := blk_frozen BK178.out 2
   have hfz24_3 := blk_frozen BK178.out 3
   go_wp2_with (first | ((with_reducible refine gate_callee (f := 39) rfl ?_); refine goesL_ (some 30) rfl rfl Try.func39 (by kernel_rfl) rfl #[.agg #[.int .i64 a0_0, .int .i64 a0_1, .int .i64 a0_2, .slice A0_3 l0_3.length c0_3]] rfl q117_ ?_; (with_reducible refine (plane_Valid.calls k a0_0 a0_1 a0_2 _ _ l0_3 true _ ?side1 ?side2 A16.out).mono ?_); (case side1 => repeat (first | exact (Kd.C_below HR0_3.out HB.out) | (with_reducible refine Kd.C_alloc ?_ _) | (with_reducible refine Kd.C_drewN ?_ _) | (with_reducible refine Kd.C_drew ?_))); (case side2 => exact HC0_3.out); rintro e w25 ⟨rfl, hb⟩; refine ⟨_, rfl, ?_⟩; have n0_ := am_ (blk_below (g := gb178) (o := .cells #[.int .i64 a0_0, .int .i64 a0_1, .int .i64 a0_2, .slice A0_3 l0_3.length c0_3] 35 (0, 0)) q133_ hb); have n1_ := am_ (blk_below (g := gb179) (o := .cells #[.int .i64 a1_0, .int .i64 a1_1] 38 (0, 0)) q134_ hb); have n2_ := am_ (blk_below (g := gb180) (o := .cells #[.slice A2 l2.length c2] 22 (0, 0)) q135_ hb); have n3_ := am_ (blk_below (g := gb181) (o := .cells #[.int .i64 a4] 3 (0, 0)) q136_ hb); have n4_ := am_ (blk_below (g := gb182) (o := .cells #[.int .i64 a7_0, .int .i64 a7_1, .int .i64 a7_2, .int .i64 a7_3] 33 (0, 0)) q137_ hb); have n5_ := am_ (blk_below (g := gb183) (o := .cells #[.int .i64 0, .int .i64 0, .int .i64 0, .slice none 0 0] 35 (0, 0)) q138_ hb); have n6_ := am_ (below_step q4_ hb); clear BK178; clear BK179; clear BK180; clear BK181; clear BK182; clear BK183; clear HB; have BK178 := n0_; have BK179 := n1_; have BK180 := n2_; have BK181 := n3_; have BK182 := n4_; have BK183 := n5_; have HB := n6_; clear n0_ n1_ n2_ n3_ n4_ n5_ n6_; have hnb26 := NB179_180.out; have hnc26 := NB180_179.out; have hnb27 := NB179_181.out; have hnc27 := NB181_179.out; have hnb28 := NB179_182.out; have hnc28 := NB182_179.out; have hnb29 := NB179_183.out; have hnc29 := NB183_179.out; have hcz30_0 : w25.cell? ⟨gb179, 0, none⟩ = some (.int .i64 a1_0) := (blk_cell BK179.out 0).trans rfl; have hcz30_1 : w25.cell? ⟨gb179, 1, none⟩ = some (.int .i64 a1_1) := (blk_cell BK179.out 1).trans rfl; have hfz30_0 := blk_frozen BK179.out 0; have hfz30_1 := blk_frozen BK179.out 1; have hcz31_0 : w25.cell? ⟨gb178, 0, none⟩ = some (.int .i64 a0_0) := (blk_cell BK178.out 0).trans rfl; have hcz31_1 : w25.cell? ⟨gb178, 1, none⟩ = some (.int .i64 a0_1) := (blk_cell BK178.out 1).trans rfl; have hcz31_2 : w25.cell? ⟨gb178, 2, none⟩ = some (.int .i64 a0_2) := (blk_cell BK178.out 2).trans rfl; have hcz31_3 : w25.cell? ⟨gb178, 3, none⟩ = some (.slice A0_3 l0_3.length c0_3) := (blk_cell BK178.out 3).trans rfl; have hfz31_0 := blk_frozen BK178.out 0; have hfz31_1 := blk_frozen BK178.out 1; have hfz31_2 := blk_frozen BK178.out 2; have hfz31_3 := blk_frozen BK178.out 3) | (go_at_call 40; (with_reducible refine (border_Valid.calls k a1_0 a1_1 a0_2 t185 _ A18.out).mono ?_); rintro e w32 ⟨rfl, hb⟩; have n0_ := am_ (blk_below (g := gb178) (o := .cells #[.int .i64 a0_0, .int .i64 a0_1, .int .i64 a0_2, .slice A0_3 l0_3.length c0_3] 35 (0, 0)) q133_ hb); have n1_ := am_ (blk_below (g := gb179) (o := .cells #[.int .i64 a1_0, .int .i64 a1_1] 38 (0, 0)) q134_ hb); have n2_ := am_ (blk_below (g := gb180) (o := .cells #[.slice A2 l2.length c2] 22 (0, 0)) q135_ hb); have n3_ := am_ (blk_below (g := gb181) (o := .cells #[.int .i64 a4] 3 (0, 0)) q136_ hb); have n4_ := am_ (blk_below (g := gb182) (o := .cells #[.int .i64 a7_0, .int .i64 a7_1, .int .i64 a7_2, .int .i64 a7_3] 33 (0, 0)) q137_ hb); have n5_ := am_ (blk_below (g := gb183) (o := .cells #[.int .i64 0, .int .i64 0, .int .i64 0, .slice none 0 0] 35 (0, 0)) q138_ hb); have n6_ := am_ (below_step q4_ hb); clear BK178; clear BK179; clear BK180; clear BK181; clear BK182; clear BK183; clear HB; have BK178 := n0_; have BK179 := n1_; have BK180 := n2_; have BK181 := n3_; have BK182 := n4_; have BK183 := n5_; have HB := n6_; clear n0_ n1_ n2_ n3_ n4_ n5_ n6_))
   go_meet
   case rel => exact ⟨_, (!t185), q185_, H', ⟨by first | omega | exact Nat.le_refl _⟩, ⟨q133_⟩, ⟨q134_⟩, ⟨q135_⟩, ⟨q136_⟩, ⟨q137_⟩, ⟨q138_⟩, ⟨q4_⟩⟩
  ·replace c17 := Bool.eq_false_iff.mpr c17
   subst c17
   have H1 : (separable_Tile.j0 k l3 a5 a6 true a0_0 a0_1 a0_2 l0_3 a1_0 a1_1 l2 a4 a7_0 a7_1 a7_2 a7_3) = some (r1, r2, r3, r4, r5) := by rw [if_neg (show ¬ (false = true) by decide)] at H; exact H
   clear H
   have H := H1
   clear H1
   have H' := am_ H
   clear H
   have hnb33 := NB178_179.out
   have hnc33 := NB179_178.out
   have hnb34 := NB178_180.out
   have hnc34 := NB180_178.out
   have hnb35 := NB178_181.out
   have hnc35 := NB181_178.out
   have hnb36 := NB178_182.out
   have hnc36 := NB182_178.out
   have hnb37 := NB178_183.out
   have hnc37 := NB183_178.out
   have hcz38_0 : w15.cell? ⟨gb178, 0, none⟩ = some (.int .i64 a0_0) := (blk_cell BK178.out 0).trans rfl
   have hcz38_1 : w15.cell? ⟨gb178, 1, none⟩ = some (.int .i64 a0_1) := (blk_cell BK178.out 1).trans rfl
   have hcz38_2 : w15.cell? ⟨gb178, 2, none⟩ = some (.int .i64 a0_2) := (blk_cell BK178.out 2).trans rfl
   have hcz38_3 : w15.cell? ⟨gb178, 3, none⟩ = some (.slice A0_3 l0_3.length c0_3) := (blk_cell BK178.out 3).trans rfl
   have hfz38_0 := blk_frozen BK178.out 0
   have hfz38_1 := blk_frozen BK178.out 1
   have hfz38_2 := blk_frozen BK178.out 2
   have hfz38_3 := blk_frozen BK178.out 3
   go_wp2_with (first | ((with_reducible refine gate_callee (f := 39) rfl ?_); refine goesL_ (some 30) rfl rfl Try.func39 (by kernel_rfl) rfl #[.agg #[.int .i64 a0_0, .int .i64 a0_1, .int .i64 a0_2, .slice A0_3 l0_3.length c0_3]] rfl q117_ ?_; (with_reducible refine (plane_Valid.calls k a0_0 a0_1 a0_2 _ _ l0_3 false _ ?side1 ?side2 A16.out).mono ?_); (case side1 => repeat (first | exact (Kd.C_below HR0_3.out HB.out) | (with_reducible refine Kd.C_alloc ?_ _) | (with_reducible refine Kd.C_drewN ?_ _) | (with_reducible refine Kd.C_drew ?_))); (case side2 => exact HC0_3.out); rintro e w39 ⟨rfl, hb⟩; refine ⟨_, rfl, ?_⟩; have n0_ := am_ (blk_below (g := gb178) (o := .cells #[.int .i64 a0_0, .int .i64 a0_1, .int .i64 a0_2, .slice A0_3 l0_3.length c0_3] 35 (0, 0)) q133_ hb); have n1_ := am_ (blk_below (g := gb179) (o := .cells #[.int .i64 a1_0, .int .i64 a1_1] 38 (0, 0)) q134_ hb); have n2_ := am_ (blk_below (g := gb180) (o := .cells #[.slice A2 l2.length c2] 22 (0, 0)) q135_ hb); have n3_ := am_ (blk_below (g := gb181) (o := .cells #[.int .i64 a4] 3 (0, 0)) q136_ hb); have n4_ := am_ (blk_below (g := gb182) (o := .cells #[.int .i64 a7_0, .int .i64 a7_1, .int .i64 a7_2, .int .i64 a7_3] 33 (0, 0)) q137_ hb); have n5_ := am_ (blk_below (g := gb183) (o := .cells #[.int .i64 0, .int .i64 0, .int .i64 0, .slice none 0 0] 35 (0, 0)) q138_ hb); have n6_ := am_ (below_step q4_ hb); clear BK178; clear BK179; clear BK180; clear BK181; clear BK182; clear BK183; clear HB; have BK178 := n0_; have BK179 := n1_; have BK180 := n2_; have BK181 := n3_; have BK182 := n4_; have BK183 := n5_; have HB := n6_; clear n0_ n1_ n2_ n3_ n4_ n5_ n6_))
   go_meet
   case rel => exact ⟨_, (true), q185_, H', ⟨by first | omega | exact Nat.le_refl _⟩, ⟨q133_⟩, ⟨q134_⟩, ⟨q135_⟩, ⟨q136_⟩, ⟨q137_⟩, ⟨q138_⟩, ⟨q4_⟩⟩
 case rest =>
  clear HC9
  try clear c1
  try clear c2
  try clear p2
  try clear c3
  try clear c17
  try clear c19
  try clear c20
  try clear c21
  try clear c22
  try clear c23
  try clear c26
  try clear c27
  try clear c28
  try clear c29
  try clear c33
  try clear c34
  try clear c35
  try clear c36
  try clear c37
  try clear c39
  try clear hcz24_0
  try clear hcz24_1
  try clear hcz24_2
  try clear hcz24_3
  try clear hcz30_0
  try clear hcz30_1
  try clear hcz31_0
  try clear hcz31_1
  try clear hcz31_2
  try clear hcz31_3
  try clear hcz38_0
  try clear hcz38_1
  try clear hcz38_2
  try clear hcz38_3
  try clear hfz24_0
  try clear hfz24_1
  try clear hfz24_2
  try clear hfz24_3
  try clear hfz30_0
  try clear hfz30_1
  try clear hfz31_0
  try clear hfz31_1
  try clear hfz31_2
  try clear hfz31_3
  try clear hfz38_0
  try clear hfz38_1
  try clear hfz38_2
  try clear hfz38_3
  obtain ⟨kq, x38_8, rfl, HA, HJ8, BK178, BK179, BK180, BK181, BK182, BK183, HB⟩ := hcut
  cases kq with
  | zero => exact absurd HA.out (by simp [separable_Tile.j0])
  | succ kj8 =>
   have H := HA.out
   clear HA
   simp only [separable_Tile.j0] at H
   by_cases c40 : x38_8 = true
   ·subst c40
    have H1 : (some (0, 0, 0, ([] : List Int), 1)) = some (r1, r2, r3, r4, r5) := by rw [if_pos rfl] at H; exact H
    clear H
    have H := H1
    clear H1
    simp only [Option.some.injEq, Prod.mk.injEq] at H
    obtain ⟨rfl, rfl, rfl, rfl, rfl⟩ := H
    have hnb41 := NB183_178.out
    have hnc41 := NB178_183.out
    have hnb42 := NB183_179.out
    have hnc42 := NB179_183.out
    have hnb43 := NB183_180.out
    have hnc43 := NB180_183.out
    have hnb44 := NB183_181.out
    have hnc44 := NB181_183.out
    have hnb45 := NB183_182.out
    have hnc45 := NB182_183.out
    have hcz46_0 : wc.cell? ⟨gb183, 0, none⟩ = some (.int .i64 0) := (blk_cell BK183.out 0).trans rfl
    have hcz46_1 : wc.cell? ⟨gb183, 1, none⟩ = some (.int .i64 0) := (blk_cell BK183.out 1).trans rfl
    have hcz46_2 : wc.cell? ⟨gb183, 2, none⟩ = some (.int .i64 0) := (blk_cell BK183.out 2).trans rfl
    have hcz46_3 : wc.cell? ⟨gb183, 3, none⟩ = some (.slice none 0 0) := (blk_cell BK183.out 3).trans rfl
    have hfz46_0 := blk_frozen BK183.out 0
    have hfz46_1 := blk_frozen BK183.out 1
    have hfz46_2 := blk_frozen BK183.out 2
    have hfz46_3 := blk_frozen BK183.out 3
    go_wp2
    refine bodyPost_ret (results_ct rfl _ _ gb183 35 #[.int .i64 0, .int .i64 0, .int .i64 0, .slice none 0 0] (0, 0) _ rfl q0_ Try.underlying35 rfl (by kernel_rfl)) rfl ?_
    exact ⟨_, q179_, q116_, q4_⟩
   ·replace c40 := Bool.eq_false_iff.mpr c40
    subst c40
    have H1 : ((separable_Check.f kj8 a0_2 l2 l3 a4 a5 a6).bind fun t186 => (if t186 = 0 then ((rect_Empty.f a7_0 a7_1 a7_2 a7_3).bind fun t187 => (if t187 = true then (separable_Tile.j1 kj8 l3 a5 a6 true a0_0 a0_1 a0_2 l0_3 a1_0 a1_1 l2 a4 a7_0 a7_1 a7_2 a7_3) else ((rect_Inside.f kj8 a7_0 a7_1 a7_2 a7_3 0 0 a0_0 a0_1).bind fun t188 => (separable_Tile.j1 kj8 l3 a5 a6 (!t188) a0_0 a0_1 a0_2 l0_3 a1_0 a1_1 l2 a4 a7_0 a7_1 a7_2 a7_3)))) else (some (0, 0, 0, ([] : List Int), t186)))) = some (r1, r2, r3, r4, r5) := by rw [if_neg (show ¬ (false = true) by decide)] at H; exact H
    clear H
    have H := H1
    clear H1
    replace H := Option.bind_eq_some_iff.mp H
    obtain ⟨t186, A470, H⟩ := H
    replace H : (if t186 = 0 then ((rect_Empty.f a7_0 a7_1 a7_2 a7_3).bind fun t187 => (if t187 = true then (separable_Tile.j1 kj8 l3 a5 a6 true a0_0 a0_1 a0_2 l0_3 a1_0 a1_1 l2 a4 a7_0 a7_1 a7_2 a7_3) else ((rect_Inside.f kj8 a7_0 a7_1 a7_2 a7_3 0 0 a0_0 a0_1).bind fun t188 => (separable_Tile.j1 kj8 l3 a5 a6 (!t188) a0_0 a0_1 a0_2 l0_3 a1_0 a1_1 l2 a4 a7_0 a7_1 a7_2 a7_3)))) else (some (0, 0, 0, ([] : List Int), t186))) = some (r1, r2, r3, r4, r5) := H
    have A47 := am_ A470
    clear A470
    by_cases c48 : t186 = 0
    ·rw [if_pos c48] at H
     have c48b0 : (t186 == 0) = true := beq_iff_eq.mpr c48
     have c48b1 : (t186 != 0) = false := bne_eq_false_iff_eq.mpr c48
     clear c48
     have HC49 := am_ H
     clear H
     have hnb50 := NB178_179.out
     have hnc50 := NB179_178.out
     have hnb51 := NB178_180.out
     have hnc51 := NB180_178.out
     have hnb52 := NB178_181.out
     have hnc52 := NB181_178.out
     have hnb53 := NB178_182.out
     have hnc53 := NB182_178.out
     have hnb54 := NB178_183.out
     have hnc54 := NB183_178.out
     have hcz55_0 : wc.cell? ⟨gb178, 0, none⟩ = some (.int .i64 a0_0) := (blk_cell BK178.out 0).trans rfl
     have hcz55_1 : wc.cell? ⟨gb178, 1, none⟩ = some (.int .i64 a0_1) := (blk_cell BK178.out 1).trans rfl
     have hcz55_2 : wc.cell? ⟨gb178, 2, none⟩ = some (.int .i64 a0_2) := (blk_cell BK178.out 2).trans rfl
     have hcz55_3 : wc.cell? ⟨gb178, 3, none⟩ = some (.slice A0_3 l0_3.length c0_3) := (blk_cell BK178.out 3).trans rfl
     have hfz55_0 := blk_frozen BK178.out 0
     have hfz55_1 := blk_frozen BK178.out 1
     have hfz55_2 := blk_frozen BK178.out 2
     have hfz55_3 := blk_frozen BK178.out 3
     have hnb56 := NB180_179.out
     have hnc56 := NB179_180.out
     have hnb57 := NB180_181.out
     have hnc57 := NB181_180.out
     have hnb58 := NB180_182.out
     have hnc58 := NB182_180.out
     have hnb59 := NB180_183.out
     have hnc59 := NB183_180.out
     have hcz60_0 : wc.cell? ⟨gb180, 0, none⟩ = some (.slice A2 l2.length c2) := (blk_cell BK180.out 0).trans rfl
     have hfz60_0 := blk_frozen BK180.out 0
     have hnb61 := NB181_179.out
     have hnc61 := NB179_181.out
     have hnb62 := NB181_182.out
     have hnc62 := NB182_181.out
     have hnb63 := NB181_183.out
     have hnc63 := NB183_181.out
     have hcz64_0 : wc.cell? ⟨gb181, 0, none⟩ = some (.int .i64 a4) := (blk_cell BK181.out 0).trans rfl
     have hfz64_0 := blk_frozen BK181.out 0
     go_upto_region 6 with (first | ((with_reducible refine gate_callee (f := 12) rfl ?_); refine goesL_ (some 47) rfl rfl Try.func12 (by kernel_rfl) rfl #[.int .i64 a0_2, .slice A2 l2.length c2, .slice A3 l3.length c3, .int .i64 a4, .int .i64 a5, .int .i64 a6] rfl q117_ ?_; (with_reducible refine (separable_Check.calls kj8 a0_2 _ _ l2 _ _ l3 a4 a5 a6 t186 _ ?side1 ?side2 ?side3 ?side4 A47.out).mono ?_); (case side1 => repeat (first | exact (Kd.C_below HR2.out HB.out) | (with_reducible refine Kd.C_alloc ?_ _) | (with_reducible refine Kd.C_drewN ?_ _) | (with_reducible refine Kd.C_drew ?_))); (case side2 => exact HC2.out); (case side3 => repeat (first | exact (Kd.C_below HR3.out HB.out) | (with_reducible refine Kd.C_alloc ?_ _) | (with_reducible refine Kd.C_drewN ?_ _) | (with_reducible refine Kd.C_drew ?_))); (case side4 => exact HC3.out); rintro e w65 ⟨rfl, hb⟩; refine ⟨_, rfl, ?_⟩; have n0_ := am_ (blk_below (g := gb178) (o := .cells #[.int .i64 a0_0, .int .i64 a0_1, .int .i64 a0_2, .slice A0_3 l0_3.length c0_3] 35 (0, 0)) q133_ hb); have n1_ := am_ (blk_below (g := gb179) (o := .cells #[.int .i64 a1_0, .int .i64 a1_1] 38 (0, 0)) q134_ hb); have n2_ := am_ (blk_below (g := gb180) (o := .cells #[.slice A2 l2.length c2] 22 (0, 0)) q135_ hb); have n3_ := am_ (blk_below (g := gb181) (o := .cells #[.int .i64 a4] 3 (0, 0)) q136_ hb); have n4_ := am_ (blk_below (g := gb182) (o := .cells #[.int .i64 a7_0, .int .i64 a7_1, .int .i64 a7_2, .int .i64 a7_3] 33 (0, 0)) q137_ hb); have n5_ := am_ (blk_below (g := gb183) (o := .cells #[.int .i64 0, .int .i64 0, .int .i64 0, .slice none 0 0] 35 (0, 0)) q138_ hb); have n6_ := am_ (below_step q4_ hb); clear BK178; clear BK179; clear BK180; clear BK181; clear BK182; clear BK183; clear HB; have BK178 := n0_; have BK179 := n1_; have BK180 := n2_; have BK181 := n3_; have BK182 := n4_; have BK183 := n5_; have HB := n6_; clear n0_ n1_ n2_ n3_ n4_ n5_ n6_))
     (try simp only [Act.put, List.setIfInBounds_toArray, List.set_cons_zero, List.set_cons_succ])
     go_cut [63] (fun v63 wc => ∃ (kq : Nat) (x63_48 : Bool), v63 = .bool x63_48 ∧ Aside0 (separable_Tile.j1 kq l3 a5 a6 x63_48 a0_0 a0_1 a0_2 l0_3 a1_0 a1_1 l2 a4 a7_0 a7_1 a7_2 a7_3 = some (r1, r2, r3, r4, r5)) ∧ Aside0 (kq ≤ kj8) ∧ Aside0 (wc.heap[gb178]? = some (.cells #[.int .i64 a0_0, .int .i64 a0_1, .int .i64 a0_2, (.slice A0_3 l0_3.length c0_3)] 35 (0, 0))) ∧ Aside0 (wc.heap[gb179]? = some (.cells #[.int .i64 a1_0, .int .i64 a1_1] 38 (0, 0))) ∧ Aside0 (wc.heap[gb180]? = some (.cells #[(.slice A2 l2.length c2)] 22 (0, 0))) ∧ Aside0 (wc.heap[gb181]? = some (.cells #[.int .i64 a4] 3 (0, 0))) ∧ Aside0 (wc.heap[gb182]? = some (.cells #[.int .i64 a7_0, .int .i64 a7_1, .int .i64 a7_2, .int .i64 a7_3] 33 (0, 0))) ∧ Aside0 (wc.heap[gb183]? = some (.cells #[.int .i64 0, .int .i64 0, .int .i64 0, (.slice none 0 0)] 35 (0, 0))) ∧ Aside0 (Below w.heap.size w wc))
     case first =>
      have H := HC49.out
      clear HC49
      replace H := Option.bind_eq_some_iff.mp H
      obtain ⟨t187, A660, H⟩ := H
      replace H : (if t187 = true then (separable_Tile.j1 kj8 l3 a5 a6 true a0_0 a0_1 a0_2 l0_3 a1_0 a1_1 l2 a4 a7_0 a7_1 a7_2 a7_3) else ((rect_Inside.f kj8 a7_0 a7_1 a7_2 a7_3 0 0 a0_0 a0_1).bind fun t188 => (separable_Tile.j1 kj8 l3 a5 a6 (!t188) a0_0 a0_1 a0_2 l0_3 a1_0 a1_1 l2 a4 a7_0 a7_1 a7_2 a7_3))) = some (r1, r2, r3, r4, r5) := H
      have A66 := am_ A660
      clear A660
      by_cases c67 : t187 = true
      ·subst c67
       have H1 : (separable_Tile.j1 kj8 l3 a5 a6 true a0_0 a0_1 a0_2 l0_3 a1_0 a1_1 l2 a4 a7_0 a7_1 a7_2 a7_3) = some (r1, r2, r3, r4, r5) := by rw [if_pos rfl] at H; exact H
       clear H
       have H := H1
       clear H1
       have H' := am_ H
       clear H
       have hnb68 := NB182_178.out
       have hnc68 := NB178_182.out
       have hnb69 := NB182_179.out
       have hnc69 := NB179_182.out
       have hnb70 := NB182_180.out
       have hnc70 := NB180_182.out
       have hnb71 := NB182_181.out
       have hnc71 := NB181_182.out
       have hnb72 := NB182_183.out
       have hnc72 := NB183_182.out
       have hcz73_0 : w65.cell? ⟨gb182, 0, none⟩ = some (.int .i64 a7_0) := (blk_cell BK182.out 0).trans rfl
       have hcz73_1 : w65.cell? ⟨gb182, 1, none⟩ = some (.int .i64 a7_1) := (blk_cell BK182.out 1).trans rfl
       have hcz73_2 : w65.cell? ⟨gb182, 2, none⟩ = some (.int .i64 a7_2) := (blk_cell BK182.out 2).trans rfl
       have hcz73_3 : w65.cell? ⟨gb182, 3, none⟩ = some (.int .i64 a7_3) := (blk_cell BK182.out 3).trans rfl
       have hfz73_0 := blk_frozen BK182.out 0
       have hfz73_1 := blk_frozen BK182.out 1
       have hfz73_2 := blk_frozen BK182.out 2
       have hfz73_3 := blk_frozen BK182.out 3
       go_wp2_with (first | ((with_reducible refine gate_callee (f := 41) rfl ?_); refine goesL_ (some 53) rfl rfl Try.func41 (by kernel_rfl) rfl #[.agg #[.int .i64 a7_0, .int .i64 a7_1, .int .i64 a7_2, .int .i64 a7_3]] rfl q117_ ?_; (with_reducible refine (rect_Empty.calls a7_0 a7_1 a7_2 a7_3 true _ A66.out).mono ?_); rintro e w74 ⟨rfl, hb⟩; refine ⟨_, rfl, ?_⟩; have n0_ := am_ (blk_below (g := gb178) (o := .cells #[.int .i64 a0_0, .int .i64 a0_1, .int .i64 a0_2, .slice A0_3 l0_3.length c0_3] 35 (0, 0)) q133_ hb); have n1_ := am_ (blk_below (g := gb179) (o := .cells #[.int .i64 a1_0, .int .i64 a1_1] 38 (0, 0)) q134_ hb); have n2_ := am_ (blk_below (g := gb180) (o := .cells #[.slice A2 l2.length c2] 22 (0, 0)) q135_ hb); have n3_ := am_ (blk_below (g := gb181) (o := .cells #[.int .i64 a4] 3 (0, 0)) q136_ hb); have n4_ := am_ (blk_below (g := gb182) (o := .cells #[.int .i64 a7_0, .int .i64 a7_1, .int .i64 a7_2, .int .i64 a7_3] 33 (0, 0)) q137_ hb); have n5_ := am_ (blk_below (g := gb183) (o := .cells #[.int .i64 0, .int .i64 0, .int .i64 0, .slice none 0 0] 35 (0, 0)) q138_ hb); have n6_ := am_ (below_step q4_ hb); clear BK178; clear BK179; clear BK180; clear BK181; clear BK182; clear BK183; clear HB; have BK178 := n0_; have BK179 := n1_; have BK180 := n2_; have BK181 := n3_; have BK182 := n4_; have BK183 := n5_; have HB := n6_; clear n0_ n1_ n2_ n3_ n4_ n5_ n6_))
       go_meet
       case rel => exact ⟨_, (true), q185_, H', ⟨by have := HJ8.out; first | omega | exact Nat.le_refl _⟩, ⟨q133_⟩, ⟨q134_⟩, ⟨q135_⟩, ⟨q136_⟩, ⟨q137_⟩, ⟨q138_⟩, ⟨q4_⟩⟩
      ·replace c67 := Bool.eq_false_iff.mpr c67
       subst c67
       have H1 : ((rect_Inside.f kj8 a7_0 a7_1 a7_2 a7_3 0 0 a0_0 a0_1).bind fun t188 => (separable_Tile.j1 kj8 l3 a5 a6 (!t188) a0_0 a0_1 a0_2 l0_3 a1_0 a1_1 l2 a4 a7_0 a7_1 a7_2 a7_3)) = some (r1, r2, r3, r4, r5) := by rw [if_neg (show ¬ (false = true) by decide)] at H; exact H
       clear H
       have H := H1
       clear H1
       replace H := Option.bind_eq_some_iff.mp H
       obtain ⟨t188, A750, H⟩ := H
       replace H : (separable_Tile.j1 kj8 l3 a5 a6 (!t188) a0_0 a0_1 a0_2 l0_3 a1_0 a1_1 l2 a4 a7_0 a7_1 a7_2 a7_3) = some (r1, r2, r3, r4, r5) := H
       have A75 := am_ A750
       clear A750
       have H' := am_ H
       clear H
       have hnb76 := NB182_178.out
       have hnc76 := NB178_182.out
       have hnb77 := NB182_179.out
       have hnc77 := NB179_182.out
       have hnb78 := NB182_180.out
       have hnc78 := NB180_182.out
       have hnb79 := NB182_181.out
       have hnc79 := NB181_182.out
       have hnb80 := NB182_183.out
       have hnc80 := NB183_182.out
       have hcz81_0 : w65.cell? ⟨gb182, 0, none⟩ = some (.int .i64 a7_0) := (blk_cell BK182.out 0).trans rfl
       have hcz81_1 : w65.cell? ⟨gb182, 1, none⟩ = some (.int .i64 a7_1) := (blk_cell BK182.out 1).trans rfl
       have hcz81_2 : w65.cell? ⟨gb182, 2, none⟩ = some (.int .i64 a7_2) := (blk_cell BK182.out 2).trans rfl
       have hcz81_3 : w65.cell? ⟨gb182, 3, none⟩ = some (.int .i64 a7_3) := (blk_cell BK182.out 3).trans rfl
       have hfz81_0 := blk_frozen BK182.out 0
       have hfz81_1 := blk_frozen BK182.out 1
       have hfz81_2 := blk_frozen BK182.out 2
       have hfz81_3 := blk_frozen BK182.out 3
       go_wp2_with (first | ((with_reducible refine gate_callee (f := 41) rfl ?_); refine goesL_ (some 53) rfl rfl Try.func41 (by kernel_rfl) rfl #[.agg #[.int .i64 a7_0, .int .i64 a7_1, .int .i64 a7_2, .int .i64 a7_3]] rfl q117_ ?_; (with_reducible refine (rect_Empty.calls a7_0 a7_1 a7_2 a7_3 false _ A66.out).mono ?_); rintro e w82 ⟨rfl, hb⟩; refine ⟨_, rfl, ?_⟩; have n0_ := am_ (blk_below (g := gb178) (o := .cells #[.int .i64 a0_0, .int .i64 a0_1, .int .i64 a0_2, .slice A0_3 l0_3.length c0_3] 35 (0, 0)) q133_ hb); have n1_ := am_ (blk_below (g := gb179) (o := .cells #[.int .i64 a1_0, .int .i64 a1_1] 38 (0, 0)) q134_ hb); have n2_ := am_ (blk_below (g := gb180) (o := .cells #[.slice A2 l2.length c2] 22 (0, 0)) q135_ hb); have n3_ := am_ (blk_below (g := gb181) (o := .cells #[.int .i64 a4] 3 (0, 0)) q136_ hb); have n4_ := am_ (blk_below (g := gb182) (o := .cells #[.int .i64 a7_0, .int .i64 a7_1, .int .i64 a7_2, .int .i64 a7_3] 33 (0, 0)) q137_ hb); have n5_ := am_ (blk_below (g := gb183) (o := .cells #[.int .i64 0, .int .i64 0, .int .i64 0, .slice none 0 0] 35 (0, 0)) q138_ hb); have n6_ := am_ (below_step q4_ hb); clear BK178; clear BK179; clear BK180; clear BK181; clear BK182; clear BK183; clear HB; have BK178 := n0_; have BK179 := n1_; have BK180 := n2_; have BK181 := n3_; have BK182 := n4_; have BK183 := n5_; have HB := n6_; clear n0_ n1_ n2_ n3_ n4_ n5_ n6_; have hcz83_0 : w82.cell? ⟨gb182, 0, none⟩ = some (.int .i64 a7_0) := (blk_cell BK182.out 0).trans rfl; have hcz83_1 : w82.cell? ⟨gb182, 1, none⟩ = some (.int .i64 a7_1) := (blk_cell BK182.out 1).trans rfl; have hcz83_2 : w82.cell? ⟨gb182, 2, none⟩ = some (.int .i64 a7_2) := (blk_cell BK182.out 2).trans rfl; have hcz83_3 : w82.cell? ⟨gb182, 3, none⟩ = some (.int .i64 a7_3) := (blk_cell BK182.out 3).trans rfl; have hfz83_0 := blk_frozen BK182.out 0; have hfz83_1 := blk_frozen BK182.out 1; have hfz83_2 := blk_frozen BK182.out 2; have hfz83_3 := blk_frozen BK182.out 3; have hnb84 := NB178_179.out; have hnc84 := NB179_178.out; have hnb85 := NB178_180.out; have hnc85 := NB180_178.out; have hnb86 := NB178_181.out; have hnc86 := NB181_178.out; have hnb87 := NB178_183.out; have hnc87 := NB183_178.out; have hcz88_0 : w82.cell? ⟨gb178, 0, none⟩ = some (.int .i64 a0_0) := (blk_cell BK178.out 0).trans rfl; have hcz88_1 : w82.cell? ⟨gb178, 1, none⟩ = some (.int .i64 a0_1) := (blk_cell BK178.out 1).trans rfl; have hcz88_2 : w82.cell? ⟨gb178, 2, none⟩ = some (.int .i64 a0_2) := (blk_cell BK178.out 2).trans rfl; have hcz88_3 : w82.cell? ⟨gb178, 3, none⟩ = some (.slice A0_3 l0_3.length c0_3) := (blk_cell BK178.out 3).trans rfl; have hfz88_0 := blk_frozen BK178.out 0; have hfz88_1 := blk_frozen BK178.out 1; have hfz88_2 := blk_frozen BK178.out 2; have hfz88_3 := blk_frozen BK178.out 3) | (go_at_call 42; (with_reducible refine (rect_Inside.calls kj8 a7_0 a7_1 a7_2 a7_3 0 0 a0_0 a0_1 t188 _ A75.out).mono ?_); rintro e w89 ⟨rfl, hb⟩; have n0_ := am_ (blk_below (g := gb178) (o := .cells #[.int .i64 a0_0, .int .i64 a0_1, .int .i64 a0_2, .slice A0_3 l0_3.length c0_3] 35 (0, 0)) q133_ hb); have n1_ := am_ (blk_below (g := gb179) (o := .cells #[.int .i64 a1_0, .int .i64 a1_1] 38 (0, 0)) q134_ hb); have n2_ := am_ (blk_below (g := gb180) (o := .cells #[.slice A2 l2.length c2] 22 (0, 0)) q135_ hb); have n3_ := am_ (blk_below (g := gb181) (o := .cells #[.int .i64 a4] 3 (0, 0)) q136_ hb); have n4_ := am_ (blk_below (g := gb182) (o := .cells #[.int .i64 a7_0, .int .i64 a7_1, .int .i64 a7_2, .int .i64 a7_3] 33 (0, 0)) q137_ hb); have n5_ := am_ (blk_below (g := gb183) (o := .cells #[.int .i64 0, .int .i64 0, .int .i64 0, .slice none 0 0] 35 (0, 0)) q138_ hb); have n6_ := am_ (below_step q4_ hb); clear BK178; clear BK179; clear BK180; clear BK181; clear BK182; clear BK183; clear HB; have BK178 := n0_; have BK179 := n1_; have BK180 := n2_; have BK181 := n3_; have BK182 := n4_; have BK183 := n5_; have HB := n6_; clear n0_ n1_ n2_ n3_ n4_ n5_ n6_))
       go_meet
       case rel => exact ⟨_, (!t188), q185_, H', ⟨by have := HJ8.out; first | omega | exact Nat.le_refl _⟩, ⟨q133_⟩, ⟨q134_⟩, ⟨q135_⟩, ⟨q136_⟩, ⟨q137_⟩, ⟨q138_⟩, ⟨q4_⟩⟩
     case rest =>
      clear HC49
      try clear c1
      try clear c2
      try clear p2
      try clear c3
      try clear c4
      try clear c5
      try clear c6
      try clear c7
      try clear c8
      try clear c12
      try clear c17
      try clear c19
      try clear c20
      try clear c21
      try clear c22
      try clear c23
      try clear c26
      try clear c27
      try clear c28
      try clear c29
      try clear c33
      try clear c34
      try clear c35
      try clear c36
      try clear c37
      try clear c39
      try clear c40
      try clear c41
      try clear c42
      try clear c43
      try clear c44
      try clear c45
      try clear c48
      try clear c48b0
      try clear c48b1
      try clear c50
      try clear c51
      try clear c52
      try clear c53
      try clear c54
      try clear c56
      try clear c57
      try clear c58
      try clear c59
      try clear c61
      try clear c62
      try clear c63
      try clear c67
      try clear c68
      try clear c69
      try clear c70
      try clear c71
      try clear c72
      try clear c76
      try clear c77
      try clear c78
      try clear c79
      try clear c80
      try clear c84
      try clear c85
      try clear c86
      try clear c87
      try clear hcz24_0
      try clear hcz24_1
      try clear hcz24_2
      try clear hcz24_3
      try clear hcz30_0
      try clear hcz30_1
      try clear hcz31_0
      try clear hcz31_1
      try clear hcz31_2
      try clear hcz31_3
      try clear hcz38_0
      try clear hcz38_1
      try clear hcz38_2
      try clear hcz38_3
      try clear hcz46_0
      try clear hcz46_1
      try clear hcz46_2
      try clear hcz46_3
      try clear hcz55_0
      try clear hcz55_1
      try clear hcz55_2
      try clear hcz55_3
      try clear hcz60_0
      try clear hcz64_0
      try clear hcz73_0
      try clear hcz73_1
      try clear hcz73_2
      try clear hcz73_3
      try clear hcz81_0
      try clear hcz81_1
      try clear hcz81_2
      try clear hcz81_3
      try clear hcz83_0
      try clear hcz83_1
      try clear hcz83_2
      try clear hcz83_3
      try clear hcz88_0
      try clear hcz88_1
      try clear hcz88_2
      try clear hcz88_3
      try clear hfz24_0
      try clear hfz24_1
      try clear hfz24_2
      try clear hfz24_3
      try clear hfz30_0
      try clear hfz30_1
      try clear hfz31_0
      try clear hfz31_1
      try clear hfz31_2
      try clear hfz31_3
      try clear hfz38_0
      try clear hfz38_1
      try clear hfz38_2
      try clear hfz38_3
      try clear hfz46_0
      try clear hfz46_1
      try clear hfz46_2
      try clear hfz46_3
      try clear hfz55_0
      try clear hfz55_1
      try clear hfz55_2
      try clear hfz55_3
      try clear hfz60_0
      try clear hfz64_0
      try clear hfz73_0
      try clear hfz73_1
      try clear hfz73_2
      try clear hfz73_3
      try clear hfz81_0
      try clear hfz81_1
      try clear hfz81_2
      try clear hfz81_3
      try clear hfz83_0
      try clear hfz83_1
      try clear hfz83_2
      try clear hfz83_3
      try clear hfz88_0
      try clear hfz88_1
      try clear hfz88_2
      try clear hfz88_3
      try clear p2
      obtain ⟨kq, x63_48, rfl, HA, HJ48, BK178, BK179, BK180, BK181, BK182, BK183, HB⟩ := hcut
      cases kq with
      | zero => exact absurd HA.out (by simp [separable_Tile.j1])
      | succ kj48 =>
       have H := HA.out
       clear HA
       simp only [separable_Tile.j1] at H
       by_cases c90 : x63_48 = true
       ·subst c90
        have H1 : (some (0, 0, 0, ([] : List Int), 8)) = some (r1, r2, r3, r4, r5) := by rw [if_pos rfl] at H; exact H
        clear H
        have H := H1
        clear H1
        simp only [Option.some.injEq, Prod.mk.injEq] at H
        obtain ⟨rfl, rfl, rfl, rfl, rfl⟩ := H
        have hnb91 := NB183_178.out
        have hnc91 := NB178_183.out
        have hnb92 := NB183_179.out
        have hnc92 := NB179_183.out
        have hnb93 := NB183_180.out
        have hnc93 := NB180_183.out
        have hnb94 := NB183_181.out
        have hnc94 := NB181_183.out
        have hnb95 := NB183_182.out
        have hnc95 := NB182_183.out
        have hcz96_0 : wc.cell? ⟨gb183, 0, none⟩ = some (.int .i64 0) := (blk_cell BK183.out 0).trans rfl
        have hcz96_1 : wc.cell? ⟨gb183, 1, none⟩ = some (.int .i64 0) := (blk_cell BK183.out 1).trans rfl
        have hcz96_2 : wc.cell? ⟨gb183, 2, none⟩ = some (.int .i64 0) := (blk_cell BK183.out 2).trans rfl
        have hcz96_3 : wc.cell? ⟨gb183, 3, none⟩ = some (.slice none 0 0) := (blk_cell BK183.out 3).trans rfl
        have hfz96_0 := blk_frozen BK183.out 0
        have hfz96_1 := blk_frozen BK183.out 1
        have hfz96_2 := blk_frozen BK183.out 2
        have hfz96_3 := blk_frozen BK183.out 3
        go_wp2
        refine bodyPost_ret (results_ct rfl _ _ gb183 35 #[.int .i64 0, .int .i64 0, .int .i64 0, .slice none 0 0] (0, 0) _ rfl q0_ Try.underlying35 rfl (by kernel_rfl)) rfl ?_
        exact ⟨_, q179_, q116_, q4_⟩
       ·replace c90 := Bool.eq_false_iff.mpr c90
        subst c90
        have H1 : (if 0 ≤ (l3.length : Int) then (if ((l3.length : Int) : Int).toNat ≤ 11728124029610 then (separable_Tile.l0 kj48 l3 a5 a6 (wrap64 (a7_1 - (wrap64 ((l3.length : Int) / 2)))) (List.replicate ((l3.length : Int) : Int).toNat []) (wrap64 ((l3.length : Int) - 1)) 0 a0_0 a0_1 a0_2 l0_3 a1_0 a1_1 l2 a4 a7_0 a7_1 a7_2 a7_3 (wrap64 (a7_2 - a7_0)) (wrap64 (a7_3 - a7_1)) a6) else (none)) else (none)) = some (r1, r2, r3, r4, r5) := by rw [if_neg (show ¬ (false = true) by decide)] at H; exact H
        clear H
        have H := H1
        clear H1
        by_cases c97 : 0 ≤ (l3.length : Int)
        ·rw [if_pos c97] at H
         have c97b0 := eq_true c97
         have c97b1 : decide (0 ≤ (l3.length : Int)) = true := decide_eq_true c97
         clear c97
         by_cases c98 : ((l3.length : Int) : Int).toNat ≤ 11728124029610
         ·rw [if_pos c98] at H
          have c98b0 := eq_true c98
          have c98b1 : decide (((l3.length : Int) : Int).toNat ≤ 11728124029610) = true := decide_eq_true c98
          clear c98
          obtain ⟨y190, hy190⟩ : ∃ y_ : List (List Int), y_ = (List.replicate ((l3.length : Int) : Int).toNat []) := ⟨_, rfl⟩
          replace H : (separable_Tile.l0 kj48 l3 a5 a6 (wrap64 (a7_1 - (wrap64 ((l3.length : Int) / 2)))) y190 (wrap64 ((l3.length : Int) - 1)) 0 a0_0 a0_1 a0_2 l0_3 a1_0 a1_1 l2 a4 a7_0 a7_1 a7_2 a7_3 (wrap64 (a7_2 - a7_0)) (wrap64 (a7_3 - a7_1)) a6) = some (r1, r2, r3, r4, r5) := by first | (rw [hy190]; with_reducible exact H) | (have H2_ := (Option.bind_some _ _).symm.trans H; rw [hy190]; with_reducible exact H2_) | (have H2_ := (Option.bind_some _ _).symm.trans H; with_reducible exact H2_) | with_reducible exact H | (rw [hy190]; exact H) | exact H
          have Ny190 := am_ hy190
          clear hy190
          have H' := am_ H
          clear H
          have hnb99 := NB182_178.out
          have hnc99 := NB178_182.out
          have hnb100 := NB182_179.out
          have hnc100 := NB179_182.out
          have hnb101 := NB182_180.out
          have hnc101 := NB180_182.out
          have hnb102 := NB182_181.out
          have hnc102 := NB181_182.out
          have hnb103 := NB182_183.out
          have hnc103 := NB183_182.out
          have hcz104_0 : wc.cell? ⟨gb182, 0, none⟩ = some (.int .i64 a7_0) := (blk_cell BK182.out 0).trans rfl
          have hcz104_1 : wc.cell? ⟨gb182, 1, none⟩ = some (.int .i64 a7_1) := (blk_cell BK182.out 1).trans rfl
          have hcz104_2 : wc.cell? ⟨gb182, 2, none⟩ = some (.int .i64 a7_2) := (blk_cell BK182.out 2).trans rfl
          have hcz104_3 : wc.cell? ⟨gb182, 3, none⟩ = some (.int .i64 a7_3) := (blk_cell BK182.out 3).trans rfl
          have hfz104_0 := blk_frozen BK182.out 0
          have hfz104_1 := blk_frozen BK182.out 1
          have hfz104_2 := blk_frozen BK182.out 2
          have hfz104_3 := blk_frozen BK182.out 3
          go_wp2_with (first | ((with_reducible refine gate_dst (N := 20) rfl ?_); refine box_event ?hg (N := 20) ?hd (cs := #[.int .i64 0, .int .i64 0, .int .i64 0, .slice none 0 0]) (t := 35) ?hr ?_; (case hd => rfl); (case hg => rfl); (case hr => first | (go_simp; done) | (go_simp; rfl)); intro gb189 hg w105 hbox hb; have n0_ := am_ (blk_below (g := gb178) (o := .cells #[.int .i64 a0_0, .int .i64 a0_1, .int .i64 a0_2, .slice A0_3 l0_3.length c0_3] 35 (0, 0)) q133_ hb); have n1_ := am_ (blk_below (g := gb179) (o := .cells #[.int .i64 a1_0, .int .i64 a1_1] 38 (0, 0)) q134_ hb); have n2_ := am_ (blk_below (g := gb180) (o := .cells #[.slice A2 l2.length c2] 22 (0, 0)) q135_ hb); have n3_ := am_ (blk_below (g := gb181) (o := .cells #[.int .i64 a4] 3 (0, 0)) q136_ hb); have n4_ := am_ (blk_below (g := gb182) (o := .cells #[.int .i64 a7_0, .int .i64 a7_1, .int .i64 a7_2, .int .i64 a7_3] 33 (0, 0)) q137_ hb); have n5_ := am_ (blk_below (g := gb183) (o := .cells #[.int .i64 0, .int .i64 0, .int .i64 0, .slice none 0 0] 35 (0, 0)) q138_ hb); have n6_ := am_ (below_step q4_ hb); have n7_ := am_ (hbox); have n8_ := am_ ((by rw [hg]; exact (below_size q4_) : w.heap.size ≤ gb189)); have n9_ := am_ ((by rw [hg]; exact (below_size q4_) : w.heap.size ≤ gb189)); have n10_ := am_ ((q15_ : gb178 ≠ gb189)); have n11_ := am_ ((q16_ : gb189 ≠ gb178)); have n12_ := am_ ((q48_ : gb179 ≠ gb189)); have n13_ := am_ ((q49_ : gb189 ≠ gb179)); have n14_ := am_ ((q59_ : gb180 ≠ gb189)); have n15_ := am_ ((q60_ : gb189 ≠ gb180)); have n16_ := am_ ((q65_ : gb181 ≠ gb189)); have n17_ := am_ ((q66_ : gb189 ≠ gb181)); have n18_ := am_ ((by rw [hg]; exact Nat.ne_of_lt (blk_lt (g := gb182) (o := .cells #[.int .i64 a7_0, .int .i64 a7_1, .int .i64 a7_2, .int .i64 a7_3] 33 (0, 0)) q137_) : gb182 ≠ gb189)); have n19_ := am_ ((by rw [hg]; exact Nat.ne_of_gt (blk_lt (g := gb182) (o := .cells #[.int .i64 a7_0, .int .i64 a7_1, .int .i64 a7_2, .int .i64 a7_3] 33 (0, 0)) q137_) : gb189 ≠ gb182)); have n20_ := am_ ((by rw [hg]; exact Nat.ne_of_lt (blk_lt (g := gb183) (o := .cells #[.int .i64 0, .int .i64 0, .int .i64 0, .slice none 0 0] 35 (0, 0)) q138_) : gb183 ≠ gb189)); have n21_ := am_ ((by rw [hg]; exact Nat.ne_of_gt (blk_lt (g := gb183) (o := .cells #[.int .i64 0, .int .i64 0, .int .i64 0, .slice none 0 0] 35 (0, 0)) q138_) : gb189 ≠ gb183)); clear BK178; clear BK179; clear BK180; clear BK181; clear BK182; clear BK183; clear HB; have BK178 := n0_; have BK179 := n1_; have BK180 := n2_; have BK181 := n3_; have BK182 := n4_; have BK183 := n5_; have HB := n6_; have BK189 := n7_; have GW189 := n8_; have GE189 := n9_; have NB178_189 := n10_; have NB189_178 := n11_; have NB179_189 := n12_; have NB189_179 := n13_; have NB180_189 := n14_; have NB189_180 := n15_; have NB181_189 := n16_; have NB189_181 := n17_; have NB182_189 := n18_; have NB189_182 := n19_; have NB183_189 := n20_; have NB189_183 := n21_; clear n0_ n1_ n2_ n3_ n4_ n5_ n6_ n7_ n8_ n9_ n10_ n11_ n12_ n13_ n14_ n15_ n16_ n17_ n18_ n19_ n20_ n21_; clear hb hbox hg; have hnb106 := NB189_178.out; have hnc106 := NB178_189.out; have hnb107 := NB189_179.out; have hnc107 := NB179_189.out; have hnb108 := NB189_180.out; have hnc108 := NB180_189.out; have hnb109 := NB189_181.out; have hnc109 := NB181_189.out; have hnb110 := NB189_182.out; have hnc110 := NB182_189.out; have hnb111 := NB189_183.out; have hnc111 := NB183_189.out; have hcz112_0 : w105.cell? ⟨gb189, 0, none⟩ = some (.int .i64 0) := (blk_cell BK189.out 0).trans rfl; have hcz112_1 : w105.cell? ⟨gb189, 1, none⟩ = some (.int .i64 0) := (blk_cell BK189.out 1).trans rfl; have hcz112_2 : w105.cell? ⟨gb189, 2, none⟩ = some (.int .i64 0) := (blk_cell BK189.out 2).trans rfl; have hcz112_3 : w105.cell? ⟨gb189, 3, none⟩ = some (.slice none 0 0) := (blk_cell BK189.out 3).trans rfl; have hfz112_0 := blk_frozen BK189.out 0; have hfz112_1 := blk_frozen BK189.out 1; have hfz112_2 := blk_frozen BK189.out 2; have hfz112_3 := blk_frozen BK189.out 3; have hcz113_0 : w105.cell? ⟨gb182, 0, none⟩ = some (.int .i64 a7_0) := (blk_cell BK182.out 0).trans rfl; have hcz113_1 : w105.cell? ⟨gb182, 1, none⟩ = some (.int .i64 a7_1) := (blk_cell BK182.out 1).trans rfl; have hcz113_2 : w105.cell? ⟨gb182, 2, none⟩ = some (.int .i64 a7_2) := (blk_cell BK182.out 2).trans rfl; have hcz113_3 : w105.cell? ⟨gb182, 3, none⟩ = some (.int .i64 a7_3) := (blk_cell BK182.out 3).trans rfl; have hfz113_0 := blk_frozen BK182.out 0; have hfz113_1 := blk_frozen BK182.out 1; have hfz113_2 := blk_frozen BK182.out 2; have hfz113_3 := blk_frozen BK182.out 3) | ((with_reducible refine gate_dst (N := 86) rfl ?_); refine Kd.N_make (Kd.slice 3 (Kd.int .i64)) _ 22 rfl (N' := 86) rfl 67 _ _ rfl (l3.length : Int) rfl rfl Try.underlying67 (.slice none 0 0) 24 info22 rfl (by decide) (by omega) [] (ok := fun k_ => w105.heap.size ≤ k_) (okp := fun _ => False) (Kd.FK_slice_mk (Nat.le_refl _) (Kd.F_nil _ _ _)) (fun _ hk => hk.elim) (by first | exact Nat.le_refl _ | (simp [World.setCell]; done)) (of_decide_eq_true q184_) (Nat.le_trans (Nat.mul_le_mul_right _ (of_decide_eq_true q184_ : (l3.length : Int).toNat ≤ 11728124029610)) (by omega)) (Below.refl _ _) (Nat.le_refl _) ?_; intro v191 w114 ho115 hb hg_ hnew_; clear hg_ hnew_; (first | rw [← Ny190.out] at ho115 | (simp only [Int.reduceToNat] at ho115; rw [← Ny190.out] at ho115)); have n0_ := am_ (Kd.N_lower (Kd.N_mono (ok' := fun k_ => k_ ≠ gb178 ∧ k_ ≠ gb179 ∧ k_ ≠ gb180 ∧ k_ ≠ gb181 ∧ k_ ≠ gb182 ∧ k_ ≠ gb183 ∧ k_ ≠ gb189) ho115 (fun k_ hk_ => ⟨(Kd.freshB (g := gb178) (by first | exact BK178.out | ((with_reducible repeat (first | refine blk_drewN ?_ _ | refine blk_drew ?_ | refine blk_alloc ?_ _)); refine blk_far ?_ NB178_189.out _; (with_reducible repeat (first | refine blk_drewN ?_ _ | refine blk_drew ?_ | refine blk_alloc ?_ _)); refine blk_far ?_ NB178_189.out _; (with_reducible repeat (first | refine blk_drewN ?_ _ | refine blk_drew ?_ | refine blk_alloc ?_ _)); refine blk_far ?_ NB178_189.out _; (with_reducible repeat (first | refine blk_drewN ?_ _ | refine blk_drew ?_ | refine blk_alloc ?_ _)); refine blk_far ?_ NB178_189.out _; (with_reducible repeat (first | refine blk_drewN ?_ _ | refine blk_drew ?_ | refine blk_alloc ?_ _)); exact BK178.out)) k_ hk_), (Kd.freshB (g := gb179) (by first | exact BK179.out | ((with_reducible repeat (first | refine blk_drewN ?_ _ | refine blk_drew ?_ | refine blk_alloc ?_ _)); refine blk_far ?_ NB179_189.out _; (with_reducible repeat (first | refine blk_drewN ?_ _ | refine blk_drew ?_ | refine blk_alloc ?_ _)); refine blk_far ?_ NB179_189.out _; (with_reducible repeat (first | refine blk_drewN ?_ _ | refine blk_drew ?_ | refine blk_alloc ?_ _)); refine blk_far ?_ NB179_189.out _; (with_reducible repeat (first | refine blk_drewN ?_ _ | refine blk_drew ?_ | refine blk_alloc ?_ _)); refine blk_far ?_ NB179_189.out _; (with_reducible repeat (first | refine blk_drewN ?_ _ | refine blk_drew ?_ | refine blk_alloc ?_ _)); exact BK179.out)) k_ hk_), (Kd.freshB (g := gb180) (by first | exact BK180.out | ((with_reducible repeat (first | refine blk_drewN ?_ _ | refine blk_drew ?_ | refine blk_alloc ?_ _)); refine blk_far ?_ NB180_189.out _; (with_reducible repeat (first | refine blk_drewN ?_ _ | refine blk_drew ?_ | refine blk_alloc ?_ _)); refine blk_far ?_ NB180_189.out _; (with_reducible repeat (first | refine blk_drewN ?_ _ | refine blk_drew ?_ | refine blk_alloc ?_ _)); refine blk_far ?_ NB180_189.out _; (with_reducible repeat (first | refine blk_drewN ?_ _ | refine blk_drew ?_ | refine blk_alloc ?_ _)); refine blk_far ?_ NB180_189.out _; (with_reducible repeat (first | refine blk_drewN ?_ _ | refine blk_drew ?_ | refine blk_alloc ?_ _)); exact BK180.out)) k_ hk_), (Kd.freshB (g := gb181) (by first | exact BK181.out | ((with_reducible repeat (first | refine blk_drewN ?_ _ | refine blk_drew ?_ | refine blk_alloc ?_ _)); refine blk_far ?_ NB181_189.out _; (with_reducible repeat (first | refine blk_drewN ?_ _ | refine blk_drew ?_ | refine blk_alloc ?_ _)); refine blk_far ?_ NB181_189.out _; (with_reducible repeat (first | refine blk_drewN ?_ _ | refine blk_drew ?_ | refine blk_alloc ?_ _)); refine blk_far ?_ NB181_189.out _; (with_reducible repeat (first | refine blk_drewN ?_ _ | refine blk_drew ?_ | refine blk_alloc ?_ _)); refine blk_far ?_ NB181_189.out _; (with_reducible repeat (first | refine blk_drewN ?_ _ | refine blk_drew ?_ | refine blk_alloc ?_ _)); exact BK181.out)) k_ hk_), (Kd.freshB (g := gb182) (by first | exact BK182.out | ((with_reducible repeat (first | refine blk_drewN ?_ _ | refine blk_drew ?_ | refine blk_alloc ?_ _)); refine blk_far ?_ NB182_189.out _; (with_reducible repeat (first | refine blk_drewN ?_ _ | refine blk_drew ?_ | refine blk_alloc ?_ _)); refine blk_far ?_ NB182_189.out _; (with_reducible repeat (first | refine blk_drewN ?_ _ | refine blk_drew ?_ | refine blk_alloc ?_ _)); refine blk_far ?_ NB182_189.out _; (with_reducible repeat (first | refine blk_drewN ?_ _ | refine blk_drew ?_ | refine blk_alloc ?_ _)); refine blk_far ?_ NB182_189.out _; (with_reducible repeat (first | refine blk_drewN ?_ _ | refine blk_drew ?_ | refine blk_alloc ?_ _)); exact BK182.out)) k_ hk_), (Kd.freshB (g := gb183) (by first | exact BK183.out | ((with_reducible repeat (first | refine blk_drewN ?_ _ | refine blk_drew ?_ | refine blk_alloc ?_ _)); refine blk_far ?_ NB183_189.out _; (with_reducible repeat (first | refine blk_drewN ?_ _ | refine blk_drew ?_ | refine blk_alloc ?_ _)); refine blk_far ?_ NB183_189.out _; (with_reducible repeat (first | refine blk_drewN ?_ _ | refine blk_drew ?_ | refine blk_alloc ?_ _)); refine blk_far ?_ NB183_189.out _; (with_reducible repeat (first | refine blk_drewN ?_ _ | refine blk_drew ?_ | refine blk_alloc ?_ _)); refine blk_far ?_ NB183_189.out _; (with_reducible repeat (first | refine blk_drewN ?_ _ | refine blk_drew ?_ | refine blk_alloc ?_ _)); exact BK183.out)) k_ hk_), (Kd.freshB (g := gb189) (by first | exact BK189.out | ((with_reducible repeat (first | refine blk_drewN ?_ _ | refine blk_drew ?_ | refine blk_alloc ?_ _)); refine blk_put (cs := #[.int .i64 (wrap64 (a7_2 - a7_0)), .int .i64 (wrap64 (a7_3 - a7_1)), .int .i64 a6, .slice none 0 0]) ?_ 3 _ rfl; (with_reducible repeat (first | refine blk_drewN ?_ _ | refine blk_drew ?_ | refine blk_alloc ?_ _)); refine blk_put (cs := #[.int .i64 (wrap64 (a7_2 - a7_0)), .int .i64 (wrap64 (a7_3 - a7_1)), .int .i64 0, .slice none 0 0]) ?_ 2 _ rfl; (with_reducible repeat (first | refine blk_drewN ?_ _ | refine blk_drew ?_ | refine blk_alloc ?_ _)); refine blk_put (cs := #[.int .i64 (wrap64 (a7_2 - a7_0)), .int .i64 0, .int .i64 0, .slice none 0 0]) ?_ 1 _ rfl; (with_reducible repeat (first | refine blk_drewN ?_ _ | refine blk_drew ?_ | refine blk_alloc ?_ _)); refine blk_put (cs := #[.int .i64 0, .int .i64 0, .int .i64 0, .slice none 0 0]) ?_ 0 _ rfl; (with_reducible repeat (first | refine blk_drewN ?_ _ | refine blk_drew ?_ | refine blk_alloc ?_ _)); exact BK189.out)) k_ hk_)⟩)) (below_size q1_)); have n1_ := am_ (blk_below (g := gb178) (o := .cells #[.int .i64 a0_0, .int .i64 a0_1, .int .i64 a0_2, .slice A0_3 l0_3.length c0_3] 35 (0, 0)) (by (with_reducible repeat (first | refine blk_drewN ?_ _ | refine blk_drew ?_ | refine blk_alloc ?_ _)); refine blk_far ?_ NB178_189.out _; (with_reducible repeat (first | refine blk_drewN ?_ _ | refine blk_drew ?_ | refine blk_alloc ?_ _)); refine blk_far ?_ NB178_189.out _; (with_reducible repeat (first | refine blk_drewN ?_ _ | refine blk_drew ?_ | refine blk_alloc ?_ _)); refine blk_far ?_ NB178_189.out _; (with_reducible repeat (first | refine blk_drewN ?_ _ | refine blk_drew ?_ | refine blk_alloc ?_ _)); refine blk_far ?_ NB178_189.out _; (with_reducible repeat (first | refine blk_drewN ?_ _ | refine blk_drew ?_ | refine blk_alloc ?_ _)); exact BK178.out) hb); have n2_ := am_ (blk_below (g := gb179) (o := .cells #[.int .i64 a1_0, .int .i64 a1_1] 38 (0, 0)) (by (with_reducible repeat (first | refine blk_drewN ?_ _ | refine blk_drew ?_ | refine blk_alloc ?_ _)); refine blk_far ?_ NB179_189.out _; (with_reducible repeat (first | refine blk_drewN ?_ _ | refine blk_drew ?_ | refine blk_alloc ?_ _)); refine blk_far ?_ NB179_189.out _; (with_reducible repeat (first | refine blk_drewN ?_ _ | refine blk_drew ?_ | refine blk_alloc ?_ _)); refine blk_far ?_ NB179_189.out _; (with_reducible repeat (first | refine blk_drewN ?_ _ | refine blk_drew ?_ | refine blk_alloc ?_ _)); refine blk_far ?_ NB179_189.out _; (with_reducible repeat (first | refine blk_drewN ?_ _ | refine blk_drew ?_ | refine blk_alloc ?_ _)); exact BK179.out) hb); have n3_ := am_ (blk_below (g := gb180) (o := .cells #[.slice A2 l2.length c2] 22 (0, 0)) (by (with_reducible repeat (first | refine blk_drewN ?_ _ | refine blk_drew ?_ | refine blk_alloc ?_ _)); refine blk_far ?_ NB180_189.out _; (with_reducible repeat (first | refine blk_drewN ?_ _ | refine blk_drew ?_ | refine blk_alloc ?_ _)); refine blk_far ?_ NB180_189.out _; (with_reducible repeat (first | refine blk_drewN ?_ _ | refine blk_drew ?_ | refine blk_alloc ?_ _)); refine blk_far ?_ NB180_189.out _; (with_reducible repeat (first | refine blk_drewN ?_ _ | refine blk_drew ?_ | refine blk_alloc ?_ _)); refine blk_far ?_ NB180_189.out _; (with_reducible repeat (first | refine blk_drewN ?_ _ | refine blk_drew ?_ | refine blk_alloc ?_ _)); exact BK180.out) hb); have n4_ := am_ (blk_below (g := gb181) (o := .cells #[.int .i64 a4] 3 (0, 0)) (by (with_reducible repeat (first | refine blk_drewN ?_ _ | refine blk_drew ?_ | refine blk_alloc ?_ _)); refine blk_far ?_ NB181_189.out _; (with_reducible repeat (first | refine blk_drewN ?_ _ | refine blk_drew ?_ | refine blk_alloc ?_ _)); refine blk_far ?_ NB181_189.out _; (with_reducible repeat (first | refine blk_drewN ?_ _ | refine blk_drew ?_ | refine blk_alloc ?_ _)); refine blk_far ?_ NB181_189.out _; (with_reducible repeat (first | refine blk_drewN ?_ _ | refine blk_drew ?_ | refine blk_alloc ?_ _)); refine blk_far ?_ NB181_189.out _; (with_reducible repeat (first | refine blk_drewN ?_ _ | refine blk_drew ?_ | refine blk_alloc ?_ _)); exact BK181.out) hb); have n5_ := am_ (blk_below (g := gb182) (o := .cells #[.int .i64 a7_0, .int .i64 a7_1, .int .i64 a7_2, .int .i64 a7_3] 33 (0, 0)) (by (with_reducible repeat (first | refine blk_drewN ?_ _ | refine blk_drew ?_ | refine blk_alloc ?_ _)); refine blk_far ?_ NB182_189.out _; (with_reducible repeat (first | refine blk_drewN ?_ _ | refine blk_drew ?_ | refine blk_alloc ?_ _)); refine blk_far ?_ NB182_189.out _; (with_reducible repeat (first | refine blk_drewN ?_ _ | refine blk_drew ?_ | refine blk_alloc ?_ _)); refine blk_far ?_ NB182_189.out _; (with_reducible repeat (first | refine blk_drewN ?_ _ | refine blk_drew ?_ | refine blk_alloc ?_ _)); refine blk_far ?_ NB182_189.out _; (with_reducible repeat (first | refine blk_drewN ?_ _ | refine blk_drew ?_ | refine blk_alloc ?_ _)); exact BK182.out) hb); have n6_ := am_ (blk_below (g := gb183) (o := .cells #[.int .i64 0, .int .i64 0, .int .i64 0, .slice none 0 0] 35 (0, 0)) (by (with_reducible repeat (first | refine blk_drewN ?_ _ | refine blk_drew ?_ | refine blk_alloc ?_ _)); refine blk_far ?_ NB183_189.out _; (with_reducible repeat (first | refine blk_drewN ?_ _ | refine blk_drew ?_ | refine blk_alloc ?_ _)); refine blk_far ?_ NB183_189.out _; (with_reducible repeat (first | refine blk_drewN ?_ _ | refine blk_drew ?_ | refine blk_alloc ?_ _)); refine blk_far ?_ NB183_189.out _; (with_reducible repeat (first | refine blk_drewN ?_ _ | refine blk_drew ?_ | refine blk_alloc ?_ _)); refine blk_far ?_ NB183_189.out _; (with_reducible repeat (first | refine blk_drewN ?_ _ | refine blk_drew ?_ | refine blk_alloc ?_ _)); exact BK183.out) hb); have n7_ := am_ (blk_below (g := gb189) (o := .cells #[.int .i64 (wrap64 (a7_2 - a7_0)), .int .i64 (wrap64 (a7_3 - a7_1)), .int .i64 a6, .slice none 0 0] 35 (0, 0)) (by (with_reducible repeat (first | refine blk_drewN ?_ _ | refine blk_drew ?_ | refine blk_alloc ?_ _)); refine blk_put (cs := #[.int .i64 (wrap64 (a7_2 - a7_0)), .int .i64 (wrap64 (a7_3 - a7_1)), .int .i64 a6, .slice none 0 0]) ?_ 3 _ rfl; (with_reducible repeat (first | refine blk_drewN ?_ _ | refine blk_drew ?_ | refine blk_alloc ?_ _)); refine blk_put (cs := #[.int .i64 (wrap64 (a7_2 - a7_0)), .int .i64 (wrap64 (a7_3 - a7_1)), .int .i64 0, .slice none 0 0]) ?_ 2 _ rfl; (with_reducible repeat (first | refine blk_drewN ?_ _ | refine blk_drew ?_ | refine blk_alloc ?_ _)); refine blk_put (cs := #[.int .i64 (wrap64 (a7_2 - a7_0)), .int .i64 0, .int .i64 0, .slice none 0 0]) ?_ 1 _ rfl; (with_reducible repeat (first | refine blk_drewN ?_ _ | refine blk_drew ?_ | refine blk_alloc ?_ _)); refine blk_put (cs := #[.int .i64 0, .int .i64 0, .int .i64 0, .slice none 0 0]) ?_ 0 _ rfl; (with_reducible repeat (first | refine blk_drewN ?_ _ | refine blk_drew ?_ | refine blk_alloc ?_ _)); exact BK189.out) hb); have n8_ := am_ (below_step q1_ hb); clear BK178; clear BK179; clear BK180; clear BK181; clear BK182; clear BK183; clear BK189; clear HB; have HO192 := n0_; have BK178 := n1_; have BK179 := n2_; have BK180 := n3_; have BK181 := n4_; have BK182 := n5_; have BK183 := n6_; have BK189 := n7_; have HB := n8_; clear n0_ n1_ n2_ n3_ n4_ n5_ n6_ n7_ n8_; clear hb ho115))
          go_loopg [90] kj48 (fun kq v90 w' => ∃ (x22_3 : List (List Int)) (x90_3 : Int), v90 = .int .i64 x90_3 ∧ Aside0 (separable_Tile.l0 kq l3 a5 a6 (wrap64 (a7_1 - (wrap64 ((l3.length : Int) / 2)))) x22_3 (wrap64 ((l3.length : Int) - 1)) x90_3 a0_0 a0_1 a0_2 l0_3 a1_0 a1_1 l2 a4 a7_0 a7_1 a7_2 a7_3 (wrap64 (a7_2 - a7_0)) (wrap64 (a7_3 - a7_1)) a6 = some (r1, r2, r3, r4, r5)) ∧ Aside0 (kq ≤ kj48) ∧ Aside0 (Kd.N (Kd.slice 3 (Kd.int .i64)) 22 w' w.heap.size (fun k_ => k_ ≠ gb178 ∧ k_ ≠ gb179 ∧ k_ ≠ gb180 ∧ k_ ≠ gb181 ∧ k_ ≠ gb182 ∧ k_ ≠ gb183 ∧ k_ ≠ gb189) v191 x22_3) ∧ Aside0 (w'.heap[gb178]? = some (.cells #[.int .i64 a0_0, .int .i64 a0_1, .int .i64 a0_2, (.slice A0_3 l0_3.length c0_3)] 35 (0, 0))) ∧ Aside0 (w'.heap[gb179]? = some (.cells #[.int .i64 a1_0, .int .i64 a1_1] 38 (0, 0))) ∧ Aside0 (w'.heap[gb180]? = some (.cells #[(.slice A2 l2.length c2)] 22 (0, 0))) ∧ Aside0 (w'.heap[gb181]? = some (.cells #[.int .i64 a4] 3 (0, 0))) ∧ Aside0 (w'.heap[gb182]? = some (.cells #[.int .i64 a7_0, .int .i64 a7_1, .int .i64 a7_2, .int .i64 a7_3] 33 (0, 0))) ∧ Aside0 (w'.heap[gb183]? = some (.cells #[.int .i64 0, .int .i64 0, .int .i64 0, (.slice none 0 0)] 35 (0, 0))) ∧ Aside0 (w'.heap[gb189]? = some (.cells #[.int .i64 (wrap64 (a7_2 - a7_0)), .int .i64 (wrap64 (a7_3 - a7_1)), .int .i64 a6, (.slice none 0 0)] 35 (0, 0))) ∧ Aside0 (Below w.heap.size w w'))
          case atStart => exact ⟨(y190), (0), q185_, H', ⟨Nat.le_refl _⟩, ⟨by (with_reducible repeat (first | apply Kd.N_alloc | apply Kd.N_drewN | apply Kd.N_drew)); exact HO192.out⟩, ⟨q133_⟩, ⟨q134_⟩, ⟨q135_⟩, ⟨q136_⟩, ⟨q137_⟩, ⟨q138_⟩, ⟨q139_⟩, ⟨q1_⟩⟩
          case round =>
           clear H'
           try clear c1
           try clear c2
           try clear p2
           try clear c3
           try clear c4
           try clear c5
           try clear c6
           try clear p6
           try clear c7
           try clear c8
           try clear c9
           try clear c10
           try clear c11
           try clear c12
           try clear c17
           try clear c19
           try clear c20
           try clear c21
           try clear c22
           try clear c23
           try clear c26
           try clear c27
           try clear c28
           try clear c29
           try clear c33
           try clear c34
           try clear c35
           try clear c36
           try clear c37
           try clear c39
           try clear c40
           try clear c41
           try clear c42
           try clear c43
           try clear c44
           try clear c45
           try clear c48
           try clear c48b0
           try clear c48b1
           try clear c50
           try clear c51
           try clear c52
           try clear c53
           try clear c54
           try clear c56
           try clear c57
           try clear c58
           try clear c59
           try clear c61
           try clear c62
           try clear c63
           try clear p64
           try clear c67
           try clear c68
           try clear c69
           try clear c70
           try clear c71
           try clear c72
           try clear c76
           try clear c77
           try clear c78
           try clear c79
           try clear c80
           try clear c84
           try clear c85
           try clear c86
           try clear c87
           try clear c90
           try clear c91
           try clear c92
           try clear c93
           try clear c94
           try clear c95
           try clear c97
           try clear c97b0
           try clear c97b1
           try clear c98
           try clear c98b0
           try clear c98b1
           try clear c99
           try clear c100
           try clear c101
           try clear c102
           try clear c103
           try clear c106
           try clear c107
           try clear c108
           try clear c109
           try clear c110
           try clear c111
           try clear hcz104_0
           try clear hcz104_1
           try clear hcz104_2
           try clear hcz104_3
           try clear hcz112_0
           try clear hcz112_1
           try clear hcz112_2
           try clear hcz112_3
           try clear hcz113_0
           try clear hcz113_1
           try clear hcz113_2
           try clear hcz113_3
           try clear hcz24_0
           try clear hcz24_1
           try clear hcz24_2
           try clear hcz24_3
           try clear hcz30_0
           try clear hcz30_1
           try clear hcz31_0
           try clear hcz31_1
           try clear hcz31_2
           try clear hcz31_3
           try clear hcz38_0
           try clear hcz38_1
           try clear hcz38_2
           try clear hcz38_3
           try clear hcz46_0
           try clear hcz46_1
           try clear hcz46_2
           try clear hcz46_3
           try clear hcz55_0
           try clear hcz55_1
           try clear hcz55_2
           try clear hcz55_3
           try clear hcz60_0
           try clear hcz64_0
           try clear hcz73_0
           try clear hcz73_1
           try clear hcz73_2
           try clear hcz73_3
           try clear hcz81_0
           try clear hcz81_1
           try clear hcz81_2
           try clear hcz81_3
           try clear hcz83_0
           try clear hcz83_1
           try clear hcz83_2
           try clear hcz83_3
           try clear hcz88_0
           try clear hcz88_1
           try clear hcz88_2
           try clear hcz88_3
           try clear hcz96_0
           try clear hcz96_1
           try clear hcz96_2
           try clear hcz96_3
           try clear hfz104_0
           try clear hfz104_1
           try clear hfz104_2
           try clear hfz104_3
           try clear hfz112_0
           try clear hfz112_1
           try clear hfz112_2
           try clear hfz112_3
           try clear hfz113_0
           try clear hfz113_1
           try clear hfz113_2
           try clear hfz113_3
           try clear hfz24_0
           try clear hfz24_1
           try clear hfz24_2
           try clear hfz24_3
           try clear hfz30_0
           try clear hfz30_1
           try clear hfz31_0
           try clear hfz31_1
           try clear hfz31_2
           try clear hfz31_3
           try clear hfz38_0
           try clear hfz38_1
           try clear hfz38_2
           try clear hfz38_3
           try clear hfz46_0
           try clear hfz46_1
           try clear hfz46_2
           try clear hfz46_3
           try clear hfz55_0
           try clear hfz55_1
           try clear hfz55_2
           try clear hfz55_3
           try clear hfz60_0
           try clear hfz64_0
           try clear hfz73_0
           try clear hfz73_1
           try clear hfz73_2
           try clear hfz73_3
           try clear hfz81_0
           try clear hfz81_1
           try clear hfz81_2
           try clear hfz81_3
           try clear hfz83_0
           try clear hfz83_1
           try clear hfz83_2
           try clear hfz83_3
           try clear hfz88_0
           try clear hfz88_1
           try clear hfz88_2
           try clear hfz88_3
           try clear hfz96_0
           try clear hfz96_1
           try clear hfz96_2
           try clear hfz96_3
           try clear p2
           obtain ⟨x22_3, x90_3, rfl, HA, HK3, HO_22, BK178, BK179, BK180, BK181, BK182, BK183, BK189, HB⟩ := hrel
           cases gk with
           | zero => exact absurd HA.out (by simp [separable_Tile.l0])
           | succ k3 =>
            have H := HA.out
            clear HA
            simp only [separable_Tile.l0] at H
            by_cases c116 : x90_3 < (wrap64 ((l3.length : Int) - 1))
            ·rw [if_pos c116] at H
             have c116b0 : decide (x90_3 < (wrap64 ((l3.length : Int) - 1))) = true := decide_eq_true c116
             clear c116
             replace H := Option.bind_eq_some_iff.mp H
             obtain ⟨t193, A1170, H⟩ := H
             replace H : (if 0 ≤ x90_3 then (if x90_3 < (x22_3.length : Int) then (separable_Tile.l0 k3 l3 a5 a6 (wrap64 (a7_1 - (wrap64 ((l3.length : Int) / 2)))) (x22_3.set (x90_3 : Int).toNat t193) (wrap64 ((l3.length : Int) - 1)) (wrap64 (x90_3 + 1)) a0_0 a0_1 a0_2 l0_3 a1_0 a1_1 l2 a4 a7_0 a7_1 a7_2 a7_3 (wrap64 (a7_2 - a7_0)) (wrap64 (a7_3 - a7_1)) a6) else (none)) else (none)) = some (r1, r2, r3, r4, r5) := H
             have A117 := am_ A1170
             clear A1170
             by_cases c118 : 0 ≤ x90_3
             ·rw [if_pos c118] at H
              have c118b0 : decide (0 ≤ x90_3) = true := decide_eq_true c118
              clear c118
              by_cases c119 : x90_3 < (x22_3.length : Int)
              ·rw [if_pos c119] at H
               have c119b0 : decide (x90_3 < (x22_3.length : Int)) = true := decide_eq_true c119
               clear c119
               obtain ⟨y196, hy196⟩ : ∃ y_ : List (List Int), y_ = (x22_3.set (x90_3 : Int).toNat t193) := ⟨_, rfl⟩
               replace H : (separable_Tile.l0 k3 l3 a5 a6 (wrap64 (a7_1 - (wrap64 ((l3.length : Int) / 2)))) y196 (wrap64 ((l3.length : Int) - 1)) (wrap64 (x90_3 + 1)) a0_0 a0_1 a0_2 l0_3 a1_0 a1_1 l2 a4 a7_0 a7_1 a7_2 a7_3 (wrap64 (a7_2 - a7_0)) (wrap64 (a7_3 - a7_1)) a6) = some (r1, r2, r3, r4, r5) := by first | (rw [hy196]; with_reducible exact H) | (have H2_ := (Option.bind_some _ _).symm.trans H; rw [hy196]; with_reducible exact H2_) | (have H2_ := (Option.bind_some _ _).symm.trans H; with_reducible exact H2_) | with_reducible exact H | (rw [hy196]; exact H) | exact H
               have Ny196 := am_ hy196
               clear hy196
               have H' := am_ H
               clear H
               go_wp2_with (first | (go_at_call 43; refine calls_of_args (args' := #[.int .i64 (wrap64 ((wrap64 (a7_1 - (wrap64 ((l3.length : Int) / 2)))) + x90_3)), .pointer (some ⟨gb182, 0, none⟩), .pointer (some ⟨gb180, 0, none⟩), .pointer (some ⟨gb178, 0, none⟩), .pointer (some ⟨gb179, 0, none⟩), .pointer (some ⟨gb181, 0, none⟩)]) (by first | rfl | rfl) ?_; (with_reducible refine (separable_Tile_1.calls k3 (wrap64 ((wrap64 (a7_1 - (wrap64 ((l3.length : Int) / 2)))) + x90_3)) gb182 a7_0 a7_1 a7_2 a7_3 gb180 A2 c2 l2 gb178 a0_0 a0_1 a0_2 A0_3 c0_3 l0_3 gb179 a1_0 a1_1 gb181 a4 t193 _ ?side1 ?side2 ?side3 ?side4 ?side5 ?side6 ?side7 ?side8 ?side9 ?side10 ?side11 ?side12 ?side13 ?side14 ?side15 ?side16 ?side17 ?side18 ?side19 A117.out).mono ?_); (case side1 => exact q137_); (case side2 => repeat (first | exact (Kd.C_below HR2.out HB.out) | (with_reducible refine Kd.C_alloc ?_ _) | (with_reducible refine Kd.C_drewN ?_ _) | (with_reducible refine Kd.C_drew ?_))); (case side3 => exact HC2.out); (case side4 => exact q135_); (case side5 => exact NB182_180.out); (case side6 => repeat (first | exact (Kd.C_below HR0_3.out HB.out) | (with_reducible refine Kd.C_alloc ?_ _) | (with_reducible refine Kd.C_drewN ?_ _) | (with_reducible refine Kd.C_drew ?_))); (case side7 => exact HC0_3.out); (case side8 => exact q133_); (case side9 => exact NB182_178.out); (case side10 => exact NB180_178.out); (case side11 => exact q134_); (case side12 => exact NB182_179.out); (case side13 => exact NB180_179.out); (case side14 => exact NB178_179.out); (case side15 => exact q136_); (case side16 => exact NB182_181.out); (case side17 => exact NB180_181.out); (case side18 => exact NB178_181.out); (case side19 => exact NB179_181.out); rintro e w121 ⟨v194, rfl, ho0, hb⟩; have n0_ := am_ (Kd.N_elder' q161_ (Kd.R_base ho0) hb); have n1_ := am_ (Kd.R_lower (Kd.R_newB ho0 (g := gb181) (o := .cells #[.int .i64 a4] 3 (0, 0)) q136_) (below_size q1_)); have n2_ := am_ (blk_below (g := gb178) (o := .cells #[.int .i64 a0_0, .int .i64 a0_1, .int .i64 a0_2, .slice A0_3 l0_3.length c0_3] 35 (0, 0)) q133_ hb); have n3_ := am_ (blk_below (g := gb179) (o := .cells #[.int .i64 a1_0, .int .i64 a1_1] 38 (0, 0)) q134_ hb); have n4_ := am_ (blk_below (g := gb180) (o := .cells #[.slice A2 l2.length c2] 22 (0, 0)) q135_ hb); have n5_ := am_ (blk_below (g := gb181) (o := .cells #[.int .i64 a4] 3 (0, 0)) q136_ hb); have n6_ := am_ (blk_below (g := gb182) (o := .cells #[.int .i64 a7_0, .int .i64 a7_1, .int .i64 a7_2, .int .i64 a7_3] 33 (0, 0)) q137_ hb); have n7_ := am_ (blk_below (g := gb183) (o := .cells #[.int .i64 0, .int .i64 0, .int .i64 0, .slice none 0 0] 35 (0, 0)) q138_ hb); have n8_ := am_ (blk_below (g := gb189) (o := .cells #[.int .i64 (wrap64 (a7_2 - a7_0)), .int .i64 (wrap64 (a7_3 - a7_1)), .int .i64 a6, .slice none 0 0] 35 (0, 0)) q139_ hb); have n9_ := am_ (below_step q1_ hb); clear HO_22; clear BK178; clear BK179; clear BK180; clear BK181; clear BK182; clear BK183; clear BK189; clear HB; have HO_22 := n0_; have HO195 := n1_; have BK178 := n2_; have BK179 := n3_; have BK180 := n4_; have BK181 := n5_; have BK182 := n6_; have BK183 := n7_; have BK189 := n8_; have HB := n9_; clear n0_ n1_ n2_ n3_ n4_ n5_ n6_ n7_ n8_ n9_; obtain ⟨Av194, cv194, ev194⟩ := Kd.R_slice HO195.out; subst ev194; (try clear ho0); have p120 : 0 ≤ (x90_3 : Int) := of_decide_eq_true q184_; have q120 : (x90_3 : Int) < ((x22_3.length : Int) : Int) := of_decide_eq_true q184_; obtain ⟨go120, co120, eo120, gb120, gl120, cl120, HG120⟩ := Kd.N_form HO_22.out (by omega); (first | cases eo120 | (injection eo120 with ea_ en_ ec_; (first | subst ea_ | (injection ea_ with ea_; subst ea_)); subst ec_; clear en_)); have GB120 := am_ gb120; have GG120 := am_ HG120; clear gb120 gl120 HG120; obtain ⟨ce120, hcl120, hM120, hcc120, hfr120⟩ := Kd.N_elem HO_22.out [] (x90_3 : Int) p120 q120; obtain ⟨ua120_0, uc120_0, rfl, ul120_0, ge120_0⟩ := Kd.FK_slice_open hM120; have hx120_0 := hcc120 0 _ rfl; have hf120_0 := hfr120 0; (try simp only [show ((Kd.slice 3 (Kd.int .i64))).sz = 1 from rfl, Nat.mul_one, Nat.add_zero] at hx120_0); (try simp only [show ((Kd.slice 3 (Kd.int .i64))).sz = 1 from rfl, Nat.mul_one, Nat.add_zero] at hf120_0); clear hcl120 hcc120 hfr120 hM120; replace p120 := eq_true p120; replace q120 := eq_true q120; have n_ := am_ (Kd.N_mono (ok' := (fun k_ => some k_ ≠ ((.slice Av194 t193.length cv194) : Value).ownBlock ∧ k_ ≠ gb178 ∧ k_ ≠ gb179 ∧ k_ ≠ gb180 ∧ k_ ≠ gb181 ∧ k_ ≠ gb182 ∧ k_ ≠ gb183 ∧ k_ ≠ gb189)) HO_22.out (fun k_ hk => ⟨hk.2, ⟨hk.1.1, ⟨hk.1.2.1, ⟨hk.1.2.2.1, ⟨hk.1.2.2.2.1, ⟨hk.1.2.2.2.2.1, ⟨hk.1.2.2.2.2.2.1, hk.1.2.2.2.2.2.2⟩⟩⟩⟩⟩⟩⟩)); clear HO_22; have HO_22 := n_; clear n_; have HX122 := am_ (show Kd.N (Kd.slice 3 (Kd.int .i64)) 22 w121 w.heap.size (fun k_ => k_ ≠ gb178 ∧ k_ ≠ gb179 ∧ k_ ≠ gb180 ∧ k_ ≠ gb181 ∧ k_ ≠ gb182 ∧ k_ ≠ gb183 ∧ k_ ≠ gb189) (.slice (some ⟨go120, 0, none⟩) x22_3.length co120) x22_3 from (by (with_reducible repeat (first | apply Kd.N_alloc | apply Kd.N_drewN | apply Kd.N_drew)); exact Kd.N_mono HO_22.out (fun _ hk => ⟨hk.2.1, ⟨hk.2.2.1, ⟨hk.2.2.2.1, ⟨hk.2.2.2.2.1, ⟨hk.2.2.2.2.2.1, ⟨hk.2.2.2.2.2.2.1, hk.2.2.2.2.2.2.2⟩⟩⟩⟩⟩⟩))); obtain ⟨ce122, hcl122, hM122, hcc122, hfr122⟩ := Kd.N_elem HX122.out [] (x90_3 : Int) (of_decide_eq_true q184_) (by have h_ : (x90_3 : Int) < ((x22_3.length : Int) : Int) := of_decide_eq_true q184_; first | exact h_ | (have e_ := (Kd.N_reads' HO_22.out).1; omega) | simpa using h_); obtain ⟨ua122_0, uc122_0, rfl, ul122_0, ge122_0⟩ := Kd.FK_slice_open hM122; have HP122 := Kd.N_seg HX122.out (x90_3 : Int) (of_decide_eq_true q184_) (by have h_ : (x90_3 : Int) < ((x22_3.length : Int) : Int) := of_decide_eq_true q184_; first | exact h_ | (have e_ := (Kd.N_reads' HO_22.out).1; omega) | simpa using h_) (seg := [(.slice Av194 t193.length cv194)]) (j := 0) hcl122 hcc122 (show 1 ≤ 1 from by decide) (x' := t193) (Kd.FK_slice_mk (Kd.R_reads' (Kd.R_mono (ok' := (fun k_ => ((fun k_ => k_ ≠ gb178 ∧ k_ ≠ gb179 ∧ k_ ≠ gb180 ∧ k_ ≠ gb181 ∧ k_ ≠ gb182 ∧ k_ ≠ gb183 ∧ k_ ≠ gb189)) k_ ∧ k_ ≠ go120)) (Kd.R_types (Kd.R_types (Kd.R_types (Kd.R_types (Kd.R_types (Kd.R_types (Kd.R_apart' (HO195.out) (Kd.N_typed HO_22.out) (by decide)) BK178.out (by decide)) BK179.out (by decide)) BK180.out (by decide)) BK182.out (by decide)) BK183.out (by decide)) BK189.out (by decide)) (fun k_ hk => ⟨⟨hk.1.1.1.1.1.2, ⟨hk.1.1.1.1.2, ⟨hk.1.1.1.2, ⟨hk.1.1.1.1.1.1.1.2, ⟨hk.1.1.2, ⟨hk.1.2, hk.2⟩⟩⟩⟩⟩⟩, fun e_ => (hk.1.1.1.1.1.1.2) (by rw [e_]; rfl)⟩))).2.1 (Kd.R_F (Kd.R_mono (ok' := (fun k_ => ((fun k_ => k_ ≠ gb178 ∧ k_ ≠ gb179 ∧ k_ ≠ gb180 ∧ k_ ≠ gb181 ∧ k_ ≠ gb182 ∧ k_ ≠ gb183 ∧ k_ ≠ gb189)) k_ ∧ k_ ≠ go120)) (Kd.R_types (Kd.R_types (Kd.R_types (Kd.R_types (Kd.R_types (Kd.R_types (Kd.R_apart' (HO195.out) (Kd.N_typed HO_22.out) (by decide)) BK178.out (by decide)) BK179.out (by decide)) BK180.out (by decide)) BK182.out (by decide)) BK183.out (by decide)) BK189.out (by decide)) (fun k_ hk => ⟨⟨hk.1.1.1.1.1.2, ⟨hk.1.1.1.1.2, ⟨hk.1.1.1.2, ⟨hk.1.1.1.1.1.1.1.2, ⟨hk.1.1.2, ⟨hk.1.2, hk.2⟩⟩⟩⟩⟩⟩, fun e_ => (hk.1.1.1.1.1.1.2) (by rw [e_]; rfl)⟩)))) (fun _ hk => hk); have hx122_0 := hcc122 0 _ rfl; (try simp only [show ((Kd.slice 3 (Kd.int .i64))).sz = 1 from rfl, Nat.mul_one, Nat.add_zero] at hx122_0); have hf122_0 := hfr122 0; (try simp only [show ((Kd.slice 3 (Kd.int .i64))).sz = 1 from rfl, Nat.mul_one, Nat.add_zero] at hf122_0); clear hcl122 hcc122 hfr122 hM122; (try simp only [show ((Kd.slice 3 (Kd.int .i64))).sz = 1 from rfl, Nat.mul_one, Nat.add_zero] at HP122); (try simp only [show ((Kd.slice 3 (Kd.int .i64))).sz = 1 from rfl, Nat.mul_one, Nat.add_zero] at HP122)) | ((with_reducible refine gate_store (t := 22) (p := 100) rfl ?_); refine store_event (t := 22) (p := 100) (v := ?vo_w123) (w1 := (w121.setCell ⟨go120, (x90_3 : Int).toNat, none⟩ ((.slice Av194 t193.length cv194)))) ?hg ?ho ?hn ?hr ?_; (case ho => rfl); (case hg => rfl); (case hn => rfl); (case hr => first | (go_simp; done) | (go_simp; rfl)); intro w123 hw; have hg : w121.grownBy w123 (some go120) := (by rw [hw]; exact HP122.2); have hp_ : Kd.N (Kd.slice 3 (Kd.int .i64)) 22 w123 w.heap.size (fun k_ => k_ ≠ gb178 ∧ k_ ≠ gb179 ∧ k_ ≠ gb180 ∧ k_ ≠ gb181 ∧ k_ ≠ gb182 ∧ k_ ≠ gb183 ∧ k_ ≠ gb189) (.slice (some ⟨go120, 0, none⟩) x22_3.length co120) y196 := (by rw [hw, Ny196.out]; exact HP122.1); clear HP122; have n0_ := am_ (hp_); have n1_ := am_ (blk_grown (g := gb178) (o := .cells #[.int .i64 a0_0, .int .i64 a0_1, .int .i64 a0_2, .slice A0_3 l0_3.length c0_3] 35 (0, 0)) q133_ hg (Kd.N_ne HO_22.out BK178.out (by decide))); have n2_ := am_ (blk_grown (g := gb179) (o := .cells #[.int .i64 a1_0, .int .i64 a1_1] 38 (0, 0)) q134_ hg (Kd.N_ne HO_22.out BK179.out (by decide))); have n3_ := am_ (blk_grown (g := gb180) (o := .cells #[.slice A2 l2.length c2] 22 (0, 0)) q135_ hg (Kd.N_away HO_22.out (fun _ hk => hk.2.2.2.1))); have n4_ := am_ (blk_grown (g := gb181) (o := .cells #[.int .i64 a4] 3 (0, 0)) q136_ hg (Kd.N_ne HO_22.out BK181.out (by decide))); have n5_ := am_ (blk_grown (g := gb182) (o := .cells #[.int .i64 a7_0, .int .i64 a7_1, .int .i64 a7_2, .int .i64 a7_3] 33 (0, 0)) q137_ hg (Kd.N_ne HO_22.out BK182.out (by decide))); have n6_ := am_ (blk_grown (g := gb183) (o := .cells #[.int .i64 0, .int .i64 0, .int .i64 0, .slice none 0 0] 35 (0, 0)) q138_ hg (Kd.N_ne HO_22.out BK183.out (by decide))); have n7_ := am_ (blk_grown (g := gb189) (o := .cells #[.int .i64 (wrap64 (a7_2 - a7_0)), .int .i64 (wrap64 (a7_3 - a7_1)), .int .i64 a6, .slice none 0 0] 35 (0, 0)) q139_ hg (Kd.N_ne HO_22.out BK189.out (by decide))); have n8_ := am_ ((by rw [hw]; exact below_set (HB.out) GB120.out : Below w.heap.size w w123)); clear HO_22; clear BK178; clear BK179; clear BK180; clear BK181; clear BK182; clear BK183; clear BK189; clear HB; clear HO195; have HO_22 := n0_; have BK178 := n1_; have BK179 := n2_; have BK180 := n3_; have BK181 := n4_; have BK182 := n5_; have BK183 := n6_; have BK189 := n7_; have HB := n8_; clear n0_ n1_ n2_ n3_ n4_ n5_ n6_ n7_ n8_; clear hg hw hp_))
               go_roundg k3
               case measure => have := HJ8.out; have := HJ48.out; have := HK3.out; omega
               case rel => exact ⟨(y196), (wrap64 (x90_3 + 1)), q185_, H', ⟨by have := HJ8.out; have := HJ48.out; have := HK3.out; omega⟩, ⟨q161_⟩, ⟨q133_⟩, ⟨q134_⟩, ⟨q135_⟩, ⟨q136_⟩, ⟨q137_⟩, ⟨q138_⟩, ⟨q139_⟩, ⟨q1_⟩⟩
              ·rw [if_neg c119] at H
               exact absurd H (by simp)
             ·rw [if_neg c118] at H
              exact absurd H (by simp)
            ·rw [if_neg c116] at H
             have c116b0 : decide (x90_3 < (wrap64 ((l3.length : Int) - 1))) = false := decide_eq_false c116
             clear c116
             have H' := am_ H
             clear H
             have hnb124 := NB189_178.out
             have hnc124 := NB178_189.out
             have hnb125 := NB189_179.out
             have hnc125 := NB179_189.out
             have hnb126 := NB189_180.out
             have hnc126 := NB180_189.out
             have hnb127 := NB189_181.out
             have hnc127 := NB181_189.out
             have hnb128 := NB189_182.out
             have hnc128 := NB182_189.out
             have hnb129 := NB189_183.out
             have hnc129 := NB183_189.out
             have hcz130_0 : wr.cell? ⟨gb189, 0, none⟩ = some (.int .i64 (wrap64 (a7_2 - a7_0))) := (blk_cell BK189.out 0).trans rfl
             have hcz130_1 : wr.cell? ⟨gb189, 1, none⟩ = some (.int .i64 (wrap64 (a7_3 - a7_1))) := (blk_cell BK189.out 1).trans rfl
             have hcz130_2 : wr.cell? ⟨gb189, 2, none⟩ = some (.int .i64 a6) := (blk_cell BK189.out 2).trans rfl
             have hcz130_3 : wr.cell? ⟨gb189, 3, none⟩ = some (.slice none 0 0) := (blk_cell BK189.out 3).trans rfl
             have hfz130_0 := blk_frozen BK189.out 0
             have hfz130_1 := blk_frozen BK189.out 1
             have hfz130_2 := blk_frozen BK189.out 2
             have hfz130_3 := blk_frozen BK189.out 3
             go_wp2
             go_loopg [104] k3 (fun kq v104 w' => ∃ (x22_4 : List (List Int)) (x104_4 : Int) (x190003_4 : List Int) (u190003 : Value), v104 = .int .i64 x104_4 ∧ Aside0 (separable_Tile.l1 kq l3 a5 a6 (wrap64 (a7_1 - (wrap64 ((l3.length : Int) / 2)))) x22_4 (wrap64 (a7_3 - a7_1)) x104_4 a0_0 a0_1 a0_2 l0_3 a1_0 a1_1 l2 a4 a7_0 a7_1 a7_2 a7_3 (wrap64 (a7_2 - a7_0)) (wrap64 (a7_3 - a7_1)) a6 x190003_4 = some (r1, r2, r3, r4, r5)) ∧ Aside0 (kq ≤ k3) ∧ Aside0 (Kd.N (Kd.slice 3 (Kd.int .i64)) 22 w' w.heap.size (fun k_ => some k_ ≠ (u190003 : Value).ownBlock ∧ k_ ≠ gb178 ∧ k_ ≠ gb179 ∧ k_ ≠ gb180 ∧ k_ ≠ gb181 ∧ k_ ≠ gb182 ∧ k_ ≠ gb183 ∧ k_ ≠ gb189) v191 x22_4) ∧ Aside0 (Kd.R (Kd.int .i64) 3 w' w.heap.size (fun k_ => k_ ≠ gb181) u190003 x190003_4) ∧ Aside0 (w'.heap[gb178]? = some (.cells #[.int .i64 a0_0, .int .i64 a0_1, .int .i64 a0_2, (.slice A0_3 l0_3.length c0_3)] 35 (0, 0))) ∧ Aside0 (w'.heap[gb179]? = some (.cells #[.int .i64 a1_0, .int .i64 a1_1] 38 (0, 0))) ∧ Aside0 (w'.heap[gb180]? = some (.cells #[(.slice A2 l2.length c2)] 22 (0, 0))) ∧ Aside0 (w'.heap[gb181]? = some (.cells #[.int .i64 a4] 3 (0, 0))) ∧ Aside0 (w'.heap[gb182]? = some (.cells #[.int .i64 a7_0, .int .i64 a7_1, .int .i64 a7_2, .int .i64 a7_3] 33 (0, 0))) ∧ Aside0 (w'.heap[gb183]? = some (.cells #[.int .i64 0, .int .i64 0, .int .i64 0, (.slice none 0 0)] 35 (0, 0))) ∧ Aside0 (w'.heap[gb189]? = some (.cells #[.int .i64 (wrap64 (a7_2 - a7_0)), .int .i64 (wrap64 (a7_3 - a7_1)), .int .i64 a6, u190003] 35 (0, 0))) ∧ Aside0 (Below w.heap.size w w'))
             case atStart => exact ⟨(x22_3), (0), (([] : List Int)), (.slice none 0 0), q185_, H', ⟨Nat.le_refl _⟩, ⟨by (with_reducible repeat (first | apply Kd.N_alloc | apply Kd.N_drewN | apply Kd.N_drew)); exact Kd.N_mono HO_22.out (fun _ hk => ⟨(by simp [Value.ownBlock]), ⟨hk.1, ⟨hk.2.1, ⟨hk.2.2.1, ⟨hk.2.2.2.1, ⟨hk.2.2.2.2.1, ⟨hk.2.2.2.2.2.1, hk.2.2.2.2.2.2⟩⟩⟩⟩⟩⟩⟩)⟩, ⟨q116_⟩, ⟨q133_⟩, ⟨q134_⟩, ⟨q135_⟩, ⟨q136_⟩, ⟨q137_⟩, ⟨q138_⟩, ⟨q139_⟩, ⟨q1_⟩⟩
             case round =>
              clear H'
              try clear c1
              try clear p1
              try clear q1
              try clear hx1
              try clear c2
              try clear p2
              try clear c3
              try clear c4
              try clear c5
              try clear c6
              try clear p6
              try clear c7
              try clear c8
              try clear c9
              try clear c10
              try clear c11
              try clear c12
              try clear p12
              try clear q12
              try clear hx12
              try clear hf12
              try clear c17
              try clear c19
              try clear c20
              try clear c21
              try clear c22
              try clear c23
              try clear c26
              try clear c27
              try clear c28
              try clear c29
              try clear c33
              try clear c34
              try clear c35
              try clear c36
              try clear c37
              try clear c39
              try clear c40
              try clear c41
              try clear c42
              try clear c43
              try clear c44
              try clear c45
              try clear c48
              try clear c48b0
              try clear c48b1
              try clear c50
              try clear c51
              try clear c52
              try clear c53
              try clear c54
              try clear c56
              try clear c57
              try clear c58
              try clear c59
              try clear c61
              try clear c62
              try clear c63
              try clear p64
              try clear c67
              try clear c68
              try clear c69
              try clear c70
              try clear c71
              try clear c72
              try clear c76
              try clear c77
              try clear c78
              try clear c79
              try clear c80
              try clear c84
              try clear c85
              try clear c86
              try clear c87
              try clear c90
              try clear c91
              try clear c92
              try clear c93
              try clear c94
              try clear c95
              try clear c97
              try clear c97b0
              try clear c97b1
              try clear c98
              try clear c98b0
              try clear c98b1
              try clear c99
              try clear c100
              try clear c101
              try clear c102
              try clear c103
              try clear c106
              try clear c107
              try clear c108
              try clear c109
              try clear c110
              try clear c111
              try clear c116
              try clear c116b0
              try clear c118
              try clear c118b0
              try clear c119
              try clear c119b0
              try clear c120
              try clear p120
              try clear q120
              try clear hx120
              try clear hf120
              try clear c122
              try clear hx122
              try clear hf122
              try clear c124
              try clear c125
              try clear c126
              try clear c127
              try clear c128
              try clear c129
              try clear hcz104_0
              try clear hcz104_1
              try clear hcz104_2
              try clear hcz104_3
              try clear hcz112_0
              try clear hcz112_1
              try clear hcz112_2
              try clear hcz112_3
              try clear hcz113_0
              try clear hcz113_1
              try clear hcz113_2
              try clear hcz113_3
              try clear hcz130_0
              try clear hcz130_1
              try clear hcz130_2
              try clear hcz130_3
              try clear hcz24_0
              try clear hcz24_1
              try clear hcz24_2
              try clear hcz24_3
              try clear hcz30_0
              try clear hcz30_1
              try clear hcz31_0
              try clear hcz31_1
              try clear hcz31_2
              try clear hcz31_3
              try clear hcz38_0
              try clear hcz38_1
              try clear hcz38_2
              try clear hcz38_3
              try clear hcz46_0
              try clear hcz46_1
              try clear hcz46_2
              try clear hcz46_3
              try clear hcz55_0
              try clear hcz55_1
              try clear hcz55_2
              try clear hcz55_3
              try clear hcz60_0
              try clear hcz64_0
              try clear hcz73_0
              try clear hcz73_1
              try clear hcz73_2
              try clear hcz73_3
              try clear hcz81_0
              try clear hcz81_1
              try clear hcz81_2
              try clear hcz81_3
              try clear hcz83_0
              try clear hcz83_1
              try clear hcz83_2
              try clear hcz83_3
              try clear hcz88_0
              try clear hcz88_1
              try clear hcz88_2
              try clear hcz88_3
              try clear hcz96_0
              try clear hcz96_1
              try clear hcz96_2
              try clear hcz96_3
              try clear hfz104_0
              try clear hfz104_1
              try clear hfz104_2
              try clear hfz104_3
              try clear hfz112_0
              try clear hfz112_1
              try clear hfz112_2
              try clear hfz112_3
              try clear hfz113_0
              try clear hfz113_1
              try clear hfz113_2
              try clear hfz113_3
              try clear hfz130_0
              try clear hfz130_1
              try clear hfz130_2
              try clear hfz130_3
              try clear hfz24_0
              try clear hfz24_1
              try clear hfz24_2
              try clear hfz24_3
              try clear hfz30_0
              try clear hfz30_1
              try clear hfz31_0
              try clear hfz31_1
              try clear hfz31_2
              try clear hfz31_3
              try clear hfz38_0
              try clear hfz38_1
              try clear hfz38_2
              try clear hfz38_3
              try clear hfz46_0
              try clear hfz46_1
              try clear hfz46_2
              try clear hfz46_3
              try clear hfz55_0
              try clear hfz55_1
              try clear hfz55_2
              try clear hfz55_3
              try clear hfz60_0
              try clear hfz64_0
              try clear hfz73_0
              try clear hfz73_1
              try clear hfz73_2
              try clear hfz73_3
              try clear hfz81_0
              try clear hfz81_1
              try clear hfz81_2
              try clear hfz81_3
              try clear hfz83_0
              try clear hfz83_1
              try clear hfz83_2
              try clear hfz83_3
              try clear hfz88_0
              try clear hfz88_1
              try clear hfz88_2
              try clear hfz88_3
              try clear hfz96_0
              try clear hfz96_1
              try clear hfz96_2
              try clear hfz96_3
              try clear hx120_0
              try clear hx122_0
              try clear p120
              try clear p2
              try clear p6
              try clear p64
              try clear q120
              obtain ⟨x22_4, x104_4, x190003_4, u190003, rfl, HA, HK4, HO_22, HO_190003, BK178, BK179, BK180, BK181, BK182, BK183, BK189, HB⟩ := hrel
              cases gk with
              | zero => exact absurd HA.out (by simp [separable_Tile.l1])
              | succ k4 =>
               have H := HA.out
               clear HA
               simp only [separable_Tile.l1] at H
               by_cases c131 : x104_4 < (wrap64 (a7_3 - a7_1))
               ·rw [if_pos c131] at H
                have c131b0 : decide (x104_4 < (wrap64 (a7_3 - a7_1))) = true := decide_eq_true c131
                clear c131
                by_cases c132 : (l3.length : Int) = 0
                ·rw [if_pos c132] at H
                 exact absurd H (by simp)
                ·rw [if_neg c132] at H
                 have c132b0 : ((l3.length : Int) == 0) = false := beq_eq_false_iff_ne.mpr c132
                 have c132b1 : ((l3.length : Int) != 0) = true := bne_iff_ne.mpr c132
                 have c132b2 : ¬ (l3 = []) := fun h_ => c132 (by rw [h_]; rfl)
                 replace H := Option.bind_eq_some_iff.mp H
                 obtain ⟨t197, A1330, H⟩ := H
                 replace H : (if 0 ≤ (Int.tmod (wrap64 ((wrap64 (x104_4 + (l3.length : Int))) - 1)) (l3.length : Int)) then (if (Int.tmod (wrap64 ((wrap64 (x104_4 + (l3.length : Int))) - 1)) (l3.length : Int)) < (x22_4.length : Int) then (separable_Tile.l2 k4 l3 a5 a6 (wrap64 (a7_1 - (wrap64 ((l3.length : Int) / 2)))) (x22_4.set ((Int.tmod (wrap64 ((wrap64 (x104_4 + (l3.length : Int))) - 1)) (l3.length : Int)) : Int).toNat t197) x104_4 (wrap64 (a7_3 - a7_1)) x104_4 (wrap64 (a7_2 - a7_0)) 0 a0_0 a0_1 a0_2 l0_3 a1_0 a1_1 l2 a4 a7_0 a7_1 a7_2 a7_3 (wrap64 (a7_2 - a7_0)) (wrap64 (a7_3 - a7_1)) a6 x190003_4) else (none)) else (none)) = some (r1, r2, r3, r4, r5) := H
                 have A133 := am_ A1330
                 clear A1330
                 obtain ⟨ji134, hji134⟩ : ∃ j_ : Int, (Int.tmod (wrap64 ((wrap64 (x104_4 + (l3.length : Int))) - 1)) (l3.length : Int)) = j_ := ⟨_, rfl⟩
                 replace H : (if 0 ≤ (ji134) then (if (ji134) < (x22_4.length : Int) then (separable_Tile.l2 k4 l3 a5 a6 (wrap64 (a7_1 - (wrap64 ((l3.length : Int) / 2)))) (x22_4.set ((ji134) : Int).toNat t197) x104_4 (wrap64 (a7_3 - a7_1)) x104_4 (wrap64 (a7_2 - a7_0)) 0 a0_0 a0_1 a0_2 l0_3 a1_0 a1_1 l2 a4 a7_0 a7_1 a7_2 a7_3 (wrap64 (a7_2 - a7_0)) (wrap64 (a7_3 - a7_1)) a6 x190003_4) else (none)) else (none)) = some (r1, r2, r3, r4, r5) := by first | (rw [hji134] at H; exact H) | (simp only [hji134] at H ⊢; exact H)
                 (try rw [hji134] at A133)
                 by_cases c135 : 0 ≤ (ji134)
                 ·rw [if_pos c135] at H
                  have c135b0 : decide (0 ≤ (ji134)) = true := decide_eq_true c135
                  clear c135
                  by_cases c136 : (ji134) < (x22_4.length : Int)
                  ·rw [if_pos c136] at H
                   have c136b0 : decide ((ji134) < (x22_4.length : Int)) = true := decide_eq_true c136
                   clear c136
                   obtain ⟨y200, hy200⟩ : ∃ y_ : List (List Int), y_ = (x22_4.set ((ji134) : Int).toNat t197) := ⟨_, rfl⟩
                   replace H : (separable_Tile.l2 k4 l3 a5 a6 (wrap64 (a7_1 - (wrap64 ((l3.length : Int) / 2)))) y200 x104_4 (wrap64 (a7_3 - a7_1)) x104_4 (wrap64 (a7_2 - a7_0)) 0 a0_0 a0_1 a0_2 l0_3 a1_0 a1_1 l2 a4 a7_0 a7_1 a7_2 a7_3 (wrap64 (a7_2 - a7_0)) (wrap64 (a7_3 - a7_1)) a6 x190003_4) = some (r1, r2, r3, r4, r5) := by first | (rw [hy200]; with_reducible exact H) | (have H2_ := (Option.bind_some _ _).symm.trans H; rw [hy200]; with_reducible exact H2_) | (have H2_ := (Option.bind_some _ _).symm.trans H; with_reducible exact H2_) | with_reducible exact H | (rw [hy200]; exact H) | exact H
                   have Ny200 := am_ hy200
                   clear hy200
                   have H' := am_ H
                   clear H
                   try go_wp2
                   have n0_ := am_ (Kd.N_drew HO_22.out)
                   have n1_ := am_ (Kd.R_drew HO_190003.out)
                   have n2_ := am_ (blk_drew BK178.out)
                   have n3_ := am_ (blk_drew BK179.out)
                   have n4_ := am_ (blk_drew BK180.out)
                   have n5_ := am_ (blk_drew BK181.out)
                   have n6_ := am_ (blk_drew BK182.out)
                   have n7_ := am_ (blk_drew BK183.out)
                   have n8_ := am_ (blk_drew BK189.out)
                   have n9_ := am_ (below_drew1 HB.out)
                   clear HO_22
                   clear HO_190003
                   clear BK178
                   clear BK179
                   clear BK180
                   clear BK181
                   clear BK182
                   clear BK183
                   clear BK189
                   clear HB
                   have HO_22 := n0_
                   have HO_190003 := n1_
                   have BK178 := n2_
                   have BK179 := n3_
                   have BK180 := n4_
                   have BK181 := n5_
                   have BK182 := n6_
                   have BK183 := n7_
                   have BK189 := n8_
                   have HB := n9_
                   clear n0_ n1_ n2_ n3_ n4_ n5_ n6_ n7_ n8_ n9_
                   refine start_ (n := 20) (S := fun w' => True) (ds := [19]) #[false, false, false, false, false, false, false, false, false, false, false, false, false, false, false, false, false, false, false, false] (by kernel_rfl) rfl rfl trivial (fun hHeld => ?_); refine with_tabW separable_Tile.tab20 separable_Tile.bits20 (fun HT_ HW_ => ?_)
                   generalize wr.drew = w138 at HO_22 HO_190003 BK178 BK179 BK180 BK181 BK182 BK183 BK189 HB hHeld ⊢
                   refine pure_ (i := 0) (N := some 107) (v := ?_) (a' := ?_) #[true, false, false, false, false, false, false, false, false, false, false, false, false, false, false, false, false, false, false, false] rfl rfl (any_of HT_.out (by kernel_rfl)) (fun _ _ _ h => h) (Or.inl ⟨by rfl, ?_⟩) ?_ ?_
                   rotate_left
                   ·intro w'
                    go_simp
                    with_reducible rfl
                   rotate_left
                   ·simp only [Act.put, List.setIfInBounds_toArray, List.set_cons_zero, List.set_cons_succ, i64_w, i32_w]
                    rfl
                   refine pure_ (i := 1) (N := some 108) (v := ?_) (a' := ?_) #[true, true, false, false, false, false, false, false, false, false, false, false, false, false, false, false, false, false, false, false] rfl rfl (any_of HT_.out (by kernel_rfl)) (fun _ _ _ h => h) (Or.inl ⟨by rfl, ?_⟩) ?_ ?_
                   rotate_left
                   ·intro w'
                    go_simp
                    with_reducible rfl
                   rotate_left
                   ·simp only [Act.put, List.setIfInBounds_toArray, List.set_cons_zero, List.set_cons_succ, i64_w, i32_w]
                    rfl
                   refine pure_ (i := 2) (N := some 109) (v := ?_) (a' := ?_) #[true, true, true, false, false, false, false, false, false, false, false, false, false, false, false, false, false, false, false, false] rfl rfl (any_of HT_.out (by kernel_rfl)) (fun _ _ _ h => h) (Or.inl ⟨by rfl, ?_⟩) ?_ ?_
                   rotate_left
                   ·intro w'
                    go_simp
                    with_reducible rfl
                   rotate_left
                   ·simp only [Act.put, List.setIfInBounds_toArray, List.set_cons_zero, List.set_cons_succ, i64_w, i32_w]
                    rfl
                   refine pure_ (i := 3) (N := some 110) (v := ?_) (a' := ?_) #[true, true, true, true, false, false, false, false, false, false, false, false, false, false, false, false, false, false, false, false] rfl rfl (any_of HT_.out (by kernel_rfl)) (fun _ _ _ h => h) (Or.inl ⟨by rfl, ?_⟩) ?_ ?_
                   rotate_left
                   ·intro w'
                    go_simp
                    with_reducible rfl
                   rotate_left
                   ·simp only [Act.put, List.setIfInBounds_toArray, List.set_cons_zero, List.set_cons_succ, i64_w, i32_w]
                    rfl
                   refine pure_ (i := 4) (N := some 111) (v := ?_) (a' := ?_) #[true, true, true, true, true, false, false, false, false, false, false, false, false, false, false, false, false, false, false, false] rfl rfl (any_of HT_.out (by kernel_rfl)) (fun _ _ _ h => h) (Or.inl ⟨by rfl, ?_⟩) ?_ ?_
                   rotate_left
                   ·intro w'
                    go_simp
                    with_reducible rfl
                   rotate_left
                   ·simp only [Act.put, List.setIfInBounds_toArray, List.set_cons_zero, List.set_cons_succ, i64_w, i32_w]
                    rfl
                   refine pure_ (i := 5) (N := some 112) (v := ?_) (a' := ?_) #[true, true, true, true, true, true, false, false, false, false, false, false, false, false, false, false, false, false, false, false] rfl rfl (any_of HT_.out (by kernel_rfl)) (fun _ _ _ h => h) (Or.inl ⟨by rfl, ?_⟩) ?_ ?_
                   rotate_left
                   ·intro w'
                    go_simp
                    with_reducible rfl
                   rotate_left
                   ·simp only [Act.put, List.setIfInBounds_toArray, List.set_cons_zero, List.set_cons_succ, i64_w, i32_w]
                    rfl
                   refine pure_ (i := 6) (N := some 113) (v := ?_) (a' := ?_) #[true, true, true, true, true, true, true, false, false, false, false, false, false, false, false, false, false, false, false, false] rfl rfl (any_of HT_.out (by kernel_rfl)) (fun _ _ _ h => h) (Or.inl ⟨by rfl, ?_⟩) ?_ ?_
                   rotate_left
                   ·intro w'
                    go_simp
                    with_reducible rfl
                   rotate_left
                   ·simp only [Act.put, List.setIfInBounds_toArray, List.set_cons_zero, List.set_cons_succ, i64_w, i32_w]
                    rfl
                   refine pure_ (i := 7) (N := some 114) (v := ?_) (a' := ?_) #[true, true, true, true, true, true, true, true, false, false, false, false, false, false, false, false, false, false, false, false] rfl rfl (any_of HT_.out (by kernel_rfl)) (fun _ _ _ h => h) (Or.inl ⟨by rfl, ?_⟩) ?_ ?_
                   rotate_left
                   ·intro w'
                    go_simp
                    with_reducible rfl
                   rotate_left
                   ·simp only [Act.put, List.setIfInBounds_toArray, List.set_cons_zero, List.set_cons_succ, i64_w, i32_w]
                    rfl
                   refine pure_ (i := 8) (N := some 115) (v := ?_) (a' := ?_) #[true, true, true, true, true, true, true, true, true, false, false, false, false, false, false, false, false, false, false, false] rfl rfl (any_of HT_.out (by kernel_rfl)) (fun _ _ _ h => h) (Or.inl ⟨by rfl, ?_⟩) ?_ ?_
                   rotate_left
                   ·intro w'
                    go_simp
                    with_reducible rfl
                   rotate_left
                   ·simp only [Act.put, List.setIfInBounds_toArray, List.set_cons_zero, List.set_cons_succ, i64_w, i32_w]
                    rfl
                   refine pure_ (i := 9) (N := some 116) (v := ?_) (a' := ?_) #[true, true, true, true, true, true, true, true, true, true, false, false, false, false, false, false, false, false, false, false] rfl rfl (any_of HT_.out (by kernel_rfl)) (fun _ _ _ h => h) (Or.inl ⟨by rfl, ?_⟩) ?_ ?_
                   rotate_left
                   ·intro w'
                    go_simp
                    with_reducible rfl
                   rotate_left
                   ·simp only [Act.put, List.setIfInBounds_toArray, List.set_cons_zero, List.set_cons_succ, i64_w, i32_w]
                    rfl
                   refine pure_ (i := 10) (N := some 117) (v := ?_) (a' := ?_) #[true, true, true, true, true, true, true, true, true, true, true, false, false, false, false, false, false, false, false, false] rfl rfl (any_of HT_.out (by kernel_rfl)) (fun _ _ _ h => h) (Or.inl ⟨by rfl, ?_⟩) ?_ ?_
                   rotate_left
                   ·intro w'
                    go_simp
                    with_reducible rfl
                   rotate_left
                   ·simp only [Act.put, List.setIfInBounds_toArray, List.set_cons_zero, List.set_cons_succ, i64_w, i32_w]
                    rfl
                   refine pure_ (i := 11) (N := some 118) (v := ?_) (a' := ?_) #[true, true, true, true, true, true, true, true, true, true, true, true, false, false, false, false, false, false, false, false] rfl rfl (any_of HT_.out (by kernel_rfl)) (fun _ _ _ h => h) (Or.inl ⟨by rfl, ?_⟩) ?_ ?_
                   rotate_left
                   ·intro w'
                    go_simp
                    with_reducible rfl
                   rotate_left
                   ·simp only [Act.put, List.setIfInBounds_toArray, List.set_cons_zero, List.set_cons_succ, i64_w, i32_w]
                    rfl
                   refine pure_ (i := 12) (N := some 119) (v := ?_) (a' := ?_) #[true, true, true, true, true, true, true, true, true, true, true, true, true, false, false, false, false, false, false, false] rfl rfl (any_of HT_.out (by kernel_rfl)) (fun _ _ _ h => h) (Or.inl ⟨by rfl, ?_⟩) ?_ ?_
                   rotate_left
                   ·intro w'
                    go_simp
                    with_reducible rfl
                   rotate_left
                   ·simp only [Act.put, List.setIfInBounds_toArray, List.set_cons_zero, List.set_cons_succ, i64_w, i32_w]
                    rfl
                   refine pure_ (i := 13) (N := some 120) (v := ?_) (a' := ?_) #[true, true, true, true, true, true, true, true, true, true, true, true, true, true, false, false, false, false, false, false] rfl rfl (any_of HT_.out (by kernel_rfl)) (fun _ _ _ h => h) (Or.inl ⟨by rfl, ?_⟩) ?_ ?_
                   rotate_left
                   ·intro w'
                    go_simp
                    with_reducible rfl
                   rotate_left
                   ·simp only [Act.put, List.setIfInBounds_toArray, List.set_cons_zero, List.set_cons_succ, i64_w, i32_w]
                    rfl
                   refine pure_ (i := 14) (N := some 121) (v := ?_) (a' := ?_) #[true, true, true, true, true, true, true, true, true, true, true, true, true, true, true, false, false, false, false, false] rfl rfl (any_of HT_.out (by kernel_rfl)) (fun _ _ _ h => h) (Or.inl ⟨by rfl, ?_⟩) ?_ ?_
                   rotate_left
                   ·intro w'
                    go_simp
                    with_reducible rfl
                   rotate_left
                   ·simp only [Act.put, List.setIfInBounds_toArray, List.set_cons_zero, List.set_cons_succ, i64_w, i32_w]
                    rfl
                   refine pure_ (i := 15) (N := some 122) (v := ?_) (a' := ?_) #[true, true, true, true, true, true, true, true, true, true, true, true, true, true, true, true, false, false, false, false] rfl rfl (any_of HT_.out (by kernel_rfl)) (fun _ _ _ h => h) (Or.inl ⟨by rfl, ?_⟩) ?_ ?_
                   rotate_left
                   ·intro w'
                    go_simp
                    with_reducible rfl
                   rotate_left
                   ·simp only [Act.put, List.setIfInBounds_toArray, List.set_cons_zero, List.set_cons_succ, i64_w, i32_w]
                    rfl
                   refine pure_ (i := 16) (N := some 123) (v := ?_) (a' := ?_) #[true, true, true, true, true, true, true, true, true, true, true, true, true, true, true, true, true, false, false, false] rfl rfl (any_of HT_.out (by kernel_rfl)) (fun _ _ _ h => h) (Or.inl ⟨by rfl, ?_⟩) ?_ ?_
                   rotate_left
                   ·intro w'
                    go_simp
                    with_reducible rfl
                   rotate_left
                   ·simp only [Act.put, List.setIfInBounds_toArray, List.set_cons_zero, List.set_cons_succ, i64_w, i32_w]
                    rfl
                   refine one_ (i := 17) (N := some 124) #[true, true, true, true, true, true, true, true, true, true, true, true, true, true, true, true, true, true, false, false] rfl rfl (one_of HT_.out (by kernel_rfl)) (by decide) (fun K hK => ?_)
                   refine goesR_ Try.func43 (by kernel_rfl) rfl #[.int .i64 (wrap64 ((wrap64 ((wrap64 ((wrap64 (a7_1 - (wrap64 ((l3.length : Int) / 2)))) + x104_4)) + (l3.length : Int))) - 1))] #[.pointer (some ⟨gb182, 0, none⟩), .pointer (some ⟨gb180, 0, none⟩), .pointer (some ⟨gb178, 0, none⟩), .pointer (some ⟨gb179, 0, none⟩), .pointer (some ⟨gb181, 0, none⟩)] #[.int .i64 (wrap64 ((wrap64 ((wrap64 ((wrap64 (a7_1 - (wrap64 ((l3.length : Int) / 2)))) + x104_4)) + (l3.length : Int))) - 1)), .pointer (some ⟨gb182, 0, none⟩), .pointer (some ⟨gb180, 0, none⟩), .pointer (some ⟨gb178, 0, none⟩), .pointer (some ⟨gb179, 0, none⟩), .pointer (some ⟨gb181, 0, none⟩)] (by rfl) rfl rfl (by first | rfl | (go_simp; rfl)) q117_ (by first | rfl | simp) ?_
                   with_reducible refine (separable_Tile_1.calls k4 (wrap64 ((wrap64 ((wrap64 ((wrap64 (a7_1 - (wrap64 ((l3.length : Int) / 2)))) + x104_4)) + (l3.length : Int))) - 1)) gb182 a7_0 a7_1 a7_2 a7_3 gb180 A2 c2 l2 gb178 a0_0 a0_1 a0_2 A0_3 c0_3 l0_3 gb179 a1_0 a1_1 gb181 a4 t197 _ ?side1 ?side2 ?side3 ?side4 ?side5 ?side6 ?side7 ?side8 ?side9 ?side10 ?side11 ?side12 ?side13 ?side14 ?side15 ?side16 ?side17 ?side18 ?side19 A133.out).mono ?_
                   (case side1 => exact q137_)
                   (case side2 => repeat (first | exact (Kd.C_below HR2.out HB.out) | (with_reducible refine Kd.C_alloc ?_ _) | (with_reducible refine Kd.C_drewN ?_ _) | (with_reducible refine Kd.C_drew ?_)))
                   (case side3 => exact HC2.out)
                   (case side4 => exact q135_)
                   (case side5 => exact NB182_180.out)
                   (case side6 => repeat (first | exact (Kd.C_below HR0_3.out HB.out) | (with_reducible refine Kd.C_alloc ?_ _) | (with_reducible refine Kd.C_drewN ?_ _) | (with_reducible refine Kd.C_drew ?_)))
                   (case side7 => exact HC0_3.out)
                   (case side8 => exact q133_)
                   (case side9 => exact NB182_178.out)
                   (case side10 => exact NB180_178.out)
                   (case side11 => exact q134_)
                   (case side12 => exact NB182_179.out)
                   (case side13 => exact NB180_179.out)
                   (case side14 => exact NB178_179.out)
                   (case side15 => exact q136_)
                   (case side16 => exact NB182_181.out)
                   (case side17 => exact NB180_181.out)
                   (case side18 => exact NB178_181.out)
                   (case side19 => exact NB179_181.out)
                   rintro e w139 ⟨v198, rfl, ho0, hb⟩
                   refine ⟨_, rfl, ?_⟩
                   have n0_ := am_ (Kd.N_elder' q161_ (Kd.R_base ho0) hb)
                   have n1_ := am_ (Kd.R_elder' q158_ (Kd.R_base ho0) hb)
                   have n2_ := am_ (Kd.R_lower (Kd.R_newB (Kd.R_new' ho0 (Kd.R_lt q158_)) (g := gb181) (o := .cells #[.int .i64 a4] 3 (0, 0)) q136_) (below_size q1_))
                   have n3_ := am_ (blk_below (g := gb178) (o := .cells #[.int .i64 a0_0, .int .i64 a0_1, .int .i64 a0_2, .slice A0_3 l0_3.length c0_3] 35 (0, 0)) q133_ hb)
                   have n4_ := am_ (blk_below (g := gb179) (o := .cells #[.int .i64 a1_0, .int .i64 a1_1] 38 (0, 0)) q134_ hb)
                   have n5_ := am_ (blk_below (g := gb180) (o := .cells #[.slice A2 l2.length c2] 22 (0, 0)) q135_ hb)
                   have n6_ := am_ (blk_below (g := gb181) (o := .cells #[.int .i64 a4] 3 (0, 0)) q136_ hb)
                   have n7_ := am_ (blk_below (g := gb182) (o := .cells #[.int .i64 a7_0, .int .i64 a7_1, .int .i64 a7_2, .int .i64 a7_3] 33 (0, 0)) q137_ hb)
                   have n8_ := am_ (blk_below (g := gb183) (o := .cells #[.int .i64 0, .int .i64 0, .int .i64 0, .slice none 0 0] 35 (0, 0)) q138_ hb)
                   have n9_ := am_ (blk_below (g := gb189) (o := .cells #[.int .i64 (wrap64 (a7_2 - a7_0)), .int .i64 (wrap64 (a7_3 - a7_1)), .int .i64 a6, u190003] 35 (0, 0)) q139_ hb)
                   have n10_ := am_ (below_step q1_ hb)
                   clear HO_22
                   clear HO_190003
                   clear BK178
                   clear BK179
                   clear BK180
                   clear BK181
                   clear BK182
                   clear BK183
                   clear BK189
                   clear HB
                   have HO_22 := n0_
                   have HO_190003 := n1_
                   have HO199 := n2_
                   have BK178 := n3_
                   have BK179 := n4_
                   have BK180 := n5_
                   have BK181 := n6_
                   have BK182 := n7_
                   have BK183 := n8_
                   have BK189 := n9_
                   have HB := n10_
                   clear n0_ n1_ n2_ n3_ n4_ n5_ n6_ n7_ n8_ n9_ n10_
                   (try clear hb)
                   (try clear hb2)
                   (try clear hk)
                   (try clear hi)
                   (try clear ho0)
                   have p137 : 0 ≤ ((ji134) : Int) := of_decide_eq_true q184_
                   have q137 : ((ji134) : Int) < ((x22_4.length : Int) : Int) := of_decide_eq_true q184_
                   obtain ⟨go137, co137, eo137, gb137, gl137, cl137, HG137⟩ := Kd.N_form HO_22.out (by omega)
                   (first | cases eo137 | (injection eo137 with ea_ en_ ec_; (first | subst ea_ | (injection ea_ with ea_; subst ea_)); subst ec_; clear en_))
                   have GB137 := am_ gb137
                   have GG137 := am_ HG137
                   clear gb137 gl137 HG137
                   obtain ⟨ce137, hcl137, hM137, hcc137, hfr137⟩ := Kd.N_elem HO_22.out [] ((ji134) : Int) p137 q137
                   obtain ⟨ua137_0, uc137_0, rfl, ul137_0, ge137_0⟩ := Kd.FK_slice_open hM137
                   have hx137_0 := hcc137 0 _ rfl
                   have hf137_0 := hfr137 0
                   (try simp only [show ((Kd.slice 3 (Kd.int .i64))).sz = 1 from rfl, Nat.mul_one, Nat.add_zero] at hx137_0)
                   (try simp only [show ((Kd.slice 3 (Kd.int .i64))).sz = 1 from rfl, Nat.mul_one, Nat.add_zero] at hf137_0)
                   clear hcl137 hcc137 hfr137 hM137
                   replace p137 := eq_true p137
                   replace q137 := eq_true q137
                   obtain ⟨Av198, cv198, ev198⟩ := Kd.R_slice HO199.out
                   subst ev198
                   have HX140 := am_ (show Kd.N (Kd.slice 3 (Kd.int .i64)) 22 _ w.heap.size (fun k_ => some k_ ≠ (u190003 : Value).ownBlock ∧ some k_ ≠ ((.slice Av198 t197.length cv198) : Value).ownBlock ∧ k_ ≠ gb178 ∧ k_ ≠ gb179 ∧ k_ ≠ gb180 ∧ k_ ≠ gb181 ∧ k_ ≠ gb182 ∧ k_ ≠ gb183 ∧ k_ ≠ gb189) (.slice (some ⟨go137, 0, none⟩) x22_4.length co137) x22_4 from (Kd.N_mono (HO_22.out) (fun k_ hk => ⟨hk.1.1, ⟨hk.2, ⟨hk.1.2.1, ⟨hk.1.2.2.1, ⟨hk.1.2.2.2.1, ⟨hk.1.2.2.2.2.1, ⟨hk.1.2.2.2.2.2.1, ⟨hk.1.2.2.2.2.2.2.1, hk.1.2.2.2.2.2.2.2⟩⟩⟩⟩⟩⟩⟩⟩)))
                   replace HX140 := am_ (show Kd.N (Kd.slice 3 (Kd.int .i64)) 22 _ w.heap.size (fun k_ => some k_ ≠ (u190003 : Value).ownBlock ∧ k_ ≠ gb178 ∧ k_ ≠ gb179 ∧ k_ ≠ gb180 ∧ k_ ≠ gb181 ∧ k_ ≠ gb182 ∧ k_ ≠ gb183 ∧ k_ ≠ gb189) (.slice (some ⟨go137, 0, none⟩) x22_4.length co137) x22_4 from Kd.N_mono HX140.out (fun k_ hk => ⟨hk.1, ⟨hk.2.2.1, ⟨hk.2.2.2.1, ⟨hk.2.2.2.2.1, ⟨hk.2.2.2.2.2.1, ⟨hk.2.2.2.2.2.2.1, ⟨hk.2.2.2.2.2.2.2.1, hk.2.2.2.2.2.2.2.2⟩⟩⟩⟩⟩⟩⟩))
                   have HO_22 := HX140
                   obtain ⟨ce140, hcl140, hM140, hcc140, hfr140⟩ := Kd.N_elem HX140.out [] ((ji134) : Int) (of_decide_eq_true q184_) (by have h_ : ((ji134) : Int) < ((x22_4.length : Int) : Int) := of_decide_eq_true q184_; first | exact h_ | (have e_ := (Kd.N_reads' HO_22.out).1; omega) | simpa using h_)
                   obtain ⟨ua140_0, uc140_0, rfl, ul140_0, ge140_0⟩ := Kd.FK_slice_open hM140
                   have HP140 := (Kd.N_seg HX140.out ((ji134) : Int) (of_decide_eq_true q184_) (by have h_ : ((ji134) : Int) < ((x22_4.length : Int) : Int) := of_decide_eq_true q184_; first | exact h_ | (have e_ := (Kd.N_reads' HO_22.out).1; omega) | simpa using h_) (seg := [(.slice Av198 t197.length cv198)]) (j := 0) hcl140 hcc140 (show 1 ≤ 1 from by decide) (x' := t197) (Kd.FK_slice_mk (Kd.R_reads' (Kd.R_mono (ok' := (fun k_ => ((fun k_ => some k_ ≠ (u190003 : Value).ownBlock ∧ k_ ≠ gb178 ∧ k_ ≠ gb179 ∧ k_ ≠ gb180 ∧ k_ ≠ gb181 ∧ k_ ≠ gb182 ∧ k_ ≠ gb183 ∧ k_ ≠ gb189)) k_ ∧ k_ ≠ go137)) (Kd.R_types (Kd.R_types (Kd.R_types (Kd.R_types (Kd.R_types (Kd.R_types (Kd.R_apart' (HO199.out) (Kd.N_typed HO_22.out) (by decide)) BK178.out (by decide)) BK179.out (by decide)) BK180.out (by decide)) BK182.out (by decide)) BK183.out (by decide)) BK189.out (by decide)) (fun k_ hk => ⟨⟨hk.1.1.1.1.1.1.1.1.2, ⟨hk.1.1.1.1.1.2, ⟨hk.1.1.1.1.2, ⟨hk.1.1.1.2, ⟨hk.1.1.1.1.1.1.1.2, ⟨hk.1.1.2, ⟨hk.1.2, hk.2⟩⟩⟩⟩⟩⟩⟩, fun e_ => (hk.1.1.1.1.1.1.2) (by rw [e_]; rfl)⟩))).2.1 (Kd.R_F (Kd.R_mono (ok' := (fun k_ => ((fun k_ => some k_ ≠ (u190003 : Value).ownBlock ∧ k_ ≠ gb178 ∧ k_ ≠ gb179 ∧ k_ ≠ gb180 ∧ k_ ≠ gb181 ∧ k_ ≠ gb182 ∧ k_ ≠ gb183 ∧ k_ ≠ gb189)) k_ ∧ k_ ≠ go137)) (Kd.R_types (Kd.R_types (Kd.R_types (Kd.R_types (Kd.R_types (Kd.R_types (Kd.R_apart' (HO199.out) (Kd.N_typed HO_22.out) (by decide)) BK178.out (by decide)) BK179.out (by decide)) BK180.out (by decide)) BK182.out (by decide)) BK183.out (by decide)) BK189.out (by decide)) (fun k_ hk => ⟨⟨hk.1.1.1.1.1.1.1.1.2, ⟨hk.1.1.1.1.1.2, ⟨hk.1.1.1.1.2, ⟨hk.1.1.1.2, ⟨hk.1.1.1.1.1.1.1.2, ⟨hk.1.1.2, ⟨hk.1.2, hk.2⟩⟩⟩⟩⟩⟩⟩, fun e_ => (hk.1.1.1.1.1.1.2) (by rw [e_]; rfl)⟩)))) (fun _ hk => hk)).1
                   (try simp only [show ((Kd.slice 3 (Kd.int .i64))).sz = 1 from rfl, Nat.mul_one, Nat.add_zero] at HP140)
                   rw [← Ny200.out] at HP140
                   have HQ140 := am_ HP140
                   clear hcl140 hcc140 hfr140 hM140 HP140
                   refine hK.out _ _ trivial (fun hHeld => ?_)
                   clear hK K
                   refine norm_ (a' := ?_) ?_ ?_
                   rotate_left
                   ·show Act.put _ (some 124) _ = _
                    simp only [Act.put, List.setIfInBounds_toArray, List.set_cons_zero, List.set_cons_succ, i64_w, i32_w]
                    rfl
                   refine pure_ (i := 18) (N := some 125) (v := ?_) (a' := ?_) #[true, true, true, true, true, true, true, true, true, true, true, true, true, true, true, true, true, true, true, false] rfl rfl (any_of HT_.out (by kernel_rfl)) (fun _ _ _ h => h) (Or.inl ⟨by rfl, ?_⟩) ?_ ?_
                   rotate_left
                   ·intro w'
                    go_simp
                    with_reducible rfl
                   rotate_left
                   ·simp only [Act.put, List.setIfInBounds_toArray, List.set_cons_zero, List.set_cons_succ, i64_w, i32_w]
                    rfl
                   refine last_ (i := 19) (N := none) #[true, true, true, true, true, true, true, true, true, true, true, true, true, true, true, true, true, true, true, true] rfl rfl (one_of HT_.out (by kernel_rfl)) (by decide) (fun K hK => ?_)
                   refine skip_ (w1 := ?_) (by rfl) rfl ?_ ?_
                   rotate_left
                   ·go_simp
                    rfl
                   refine hK.out _ _ ?_
                   clear hK K
                   refine done_ (done_of HT_.out (by kernel_rfl)) ?_
                   have hnb141 := NB189_178.out
                   have hnc141 := NB178_189.out
                   have hnb142 := NB189_179.out
                   have hnc142 := NB179_189.out
                   have hnb143 := NB189_180.out
                   have hnc143 := NB180_189.out
                   have hnb144 := NB189_181.out
                   have hnc144 := NB181_189.out
                   have hnb145 := NB189_182.out
                   have hnc145 := NB182_189.out
                   have hnb146 := NB189_183.out
                   have hnc146 := NB183_189.out
                   have hcz147_0 : w139.cell? ⟨gb189, 0, none⟩ = some (.int .i64 (wrap64 (a7_2 - a7_0))) := (blk_cell BK189.out 0).trans rfl
                   have hcz147_1 : w139.cell? ⟨gb189, 1, none⟩ = some (.int .i64 (wrap64 (a7_3 - a7_1))) := (blk_cell BK189.out 1).trans rfl
                   have hcz147_2 : w139.cell? ⟨gb189, 2, none⟩ = some (.int .i64 a6) := (blk_cell BK189.out 2).trans rfl
                   have hcz147_3 : w139.cell? ⟨gb189, 3, none⟩ = some (u190003) := (blk_cell BK189.out 3).trans rfl
                   have hfz147_0 := blk_frozen BK189.out 0
                   have hfz147_1 := blk_frozen BK189.out 1
                   have hfz147_2 := blk_frozen BK189.out 2
                   have hfz147_3 := blk_frozen BK189.out 3
                   have hny_gb189 : gb189 ≠ go137 := (by have h_ := Kd.N_away HO_22.out (fun _ hk => hk.2.2.2.2.2.2.2); intro e_; exact h_ (by rw [e_]; rfl))
                   have hnz_gb189 := hny_gb189.symm
                   try go_wp2
                   go_loopg [128] k4 (fun kq v128 w' => ∃ (x128_5 : Int) (x190003_5 : List Int) (u190003 : Value), v128 = .int .i64 x128_5 ∧ Aside0 (separable_Tile.l2 kq l3 a5 a6 (wrap64 (a7_1 - (wrap64 ((l3.length : Int) / 2)))) y200 x104_4 (wrap64 (a7_3 - a7_1)) x104_4 (wrap64 (a7_2 - a7_0)) x128_5 a0_0 a0_1 a0_2 l0_3 a1_0 a1_1 l2 a4 a7_0 a7_1 a7_2 a7_3 (wrap64 (a7_2 - a7_0)) (wrap64 (a7_3 - a7_1)) a6 x190003_5 = some (r1, r2, r3, r4, r5)) ∧ Aside0 (kq ≤ k4) ∧ Aside0 (Kd.N (Kd.slice 3 (Kd.int .i64)) 22 w' w.heap.size (fun k_ => some k_ ≠ (u190003 : Value).ownBlock ∧ k_ ≠ gb178 ∧ k_ ≠ gb179 ∧ k_ ≠ gb180 ∧ k_ ≠ gb181 ∧ k_ ≠ gb182 ∧ k_ ≠ gb183 ∧ k_ ≠ gb189) (.slice (some ⟨go137, 0, none⟩) x22_4.length co137) y200) ∧ Aside0 (Kd.R (Kd.int .i64) 3 w' w.heap.size (fun k_ => k_ ≠ gb181) u190003 x190003_5) ∧ Aside0 (w'.heap[gb178]? = some (.cells #[.int .i64 a0_0, .int .i64 a0_1, .int .i64 a0_2, (.slice A0_3 l0_3.length c0_3)] 35 (0, 0))) ∧ Aside0 (w'.heap[gb179]? = some (.cells #[.int .i64 a1_0, .int .i64 a1_1] 38 (0, 0))) ∧ Aside0 (w'.heap[gb180]? = some (.cells #[(.slice A2 l2.length c2)] 22 (0, 0))) ∧ Aside0 (w'.heap[gb181]? = some (.cells #[.int .i64 a4] 3 (0, 0))) ∧ Aside0 (w'.heap[gb182]? = some (.cells #[.int .i64 a7_0, .int .i64 a7_1, .int .i64 a7_2, .int .i64 a7_3] 33 (0, 0))) ∧ Aside0 (w'.heap[gb183]? = some (.cells #[.int .i64 0, .int .i64 0, .int .i64 0, (.slice none 0 0)] 35 (0, 0))) ∧ Aside0 (w'.heap[gb189]? = some (.cells #[.int .i64 (wrap64 (a7_2 - a7_0)), .int .i64 (wrap64 (a7_3 - a7_1)), .int .i64 a6, u190003] 35 (0, 0))) ∧ Aside0 (Below w.heap.size w w'))
                   case atStart => exact ⟨(0), (x190003_4), (u190003), q185_, H', ⟨Nat.le_refl _⟩, ⟨by (with_reducible repeat (first | apply Kd.N_alloc | apply Kd.N_drewN | apply Kd.N_drew)); exact HQ140.out⟩, ⟨by (with_reducible repeat (first | apply Kd.R_alloc | apply Kd.R_drewN | apply Kd.R_drew)); exact Kd.R_mono (Kd.R_far (p := ⟨go137, ((ji134) : Int).toNat, none⟩) (Kd.R_types HO_190003.out GG137.out (by decide)) (fun _ hk => hk.2) ((.slice Av198 t197.length cv198))) (fun _ hk => hk.1.1)⟩, ⟨by (with_reducible repeat (first | refine blk_drewN ?_ _ | refine blk_drew ?_ | refine blk_alloc ?_ _)); refine blk_far ?_ (by have h_ := Kd.N_away HO_22.out (fun _ hk => hk.2.1); intro e_; exact h_ (by rw [e_]; rfl)) _; (with_reducible repeat (first | refine blk_drewN ?_ _ | refine blk_drew ?_ | refine blk_alloc ?_ _)); exact BK178.out⟩, ⟨by (with_reducible repeat (first | refine blk_drewN ?_ _ | refine blk_drew ?_ | refine blk_alloc ?_ _)); refine blk_far ?_ (by have h_ := Kd.N_away HO_22.out (fun _ hk => hk.2.2.1); intro e_; exact h_ (by rw [e_]; rfl)) _; (with_reducible repeat (first | refine blk_drewN ?_ _ | refine blk_drew ?_ | refine blk_alloc ?_ _)); exact BK179.out⟩, ⟨by (with_reducible repeat (first | refine blk_drewN ?_ _ | refine blk_drew ?_ | refine blk_alloc ?_ _)); refine blk_far ?_ (by have h_ := Kd.N_away HO_22.out (fun _ hk => hk.2.2.2.1); intro e_; exact h_ (by rw [e_]; rfl)) _; (with_reducible repeat (first | refine blk_drewN ?_ _ | refine blk_drew ?_ | refine blk_alloc ?_ _)); exact BK180.out⟩, ⟨by (with_reducible repeat (first | refine blk_drewN ?_ _ | refine blk_drew ?_ | refine blk_alloc ?_ _)); refine blk_far ?_ (by have h_ := Kd.N_away HO_22.out (fun _ hk => hk.2.2.2.2.1); intro e_; exact h_ (by rw [e_]; rfl)) _; (with_reducible repeat (first | refine blk_drewN ?_ _ | refine blk_drew ?_ | refine blk_alloc ?_ _)); exact BK181.out⟩, ⟨by (with_reducible repeat (first | refine blk_drewN ?_ _ | refine blk_drew ?_ | refine blk_alloc ?_ _)); refine blk_far ?_ (by have h_ := Kd.N_away HO_22.out (fun _ hk => hk.2.2.2.2.2.1); intro e_; exact h_ (by rw [e_]; rfl)) _; (with_reducible repeat (first | refine blk_drewN ?_ _ | refine blk_drew ?_ | refine blk_alloc ?_ _)); exact BK182.out⟩, ⟨by (with_reducible repeat (first | refine blk_drewN ?_ _ | refine blk_drew ?_ | refine blk_alloc ?_ _)); refine blk_far ?_ (by have h_ := Kd.N_away HO_22.out (fun _ hk => hk.2.2.2.2.2.2.1); intro e_; exact h_ (by rw [e_]; rfl)) _; (with_reducible repeat (first | refine blk_drewN ?_ _ | refine blk_drew ?_ | refine blk_alloc ?_ _)); exact BK183.out⟩, ⟨by (with_reducible repeat (first | refine blk_drewN ?_ _ | refine blk_drew ?_ | refine blk_alloc ?_ _)); refine blk_far ?_ (by have h_ := Kd.N_away HO_22.out (fun _ hk => hk.2.2.2.2.2.2.2); intro e_; exact h_ (by rw [e_]; rfl)) _; (with_reducible repeat (first | refine blk_drewN ?_ _ | refine blk_drew ?_ | refine blk_alloc ?_ _)); exact BK189.out⟩, ⟨by repeat (first | (with_reducible first | exact HB.out | apply below_alloc | apply pw_below_drewN | apply below_drew1 | refine below_set ?_ GB137.out | refine below_set ?_ GE178.out | refine below_set ?_ GE179.out | refine below_set ?_ GE180.out | refine below_set ?_ GE181.out | refine below_set ?_ GE182.out | refine below_set ?_ GE183.out | refine below_set ?_ GE189.out) | exact HB.out)⟩⟩
                   case round =>
                    clear H'
                    try clear c1
                    try clear p1
                    try clear q1
                    try clear hx1
                    try clear c2
                    try clear p2
                    try clear c3
                    try clear c4
                    try clear c5
                    try clear c6
                    try clear p6
                    try clear c7
                    try clear c8
                    try clear c9
                    try clear c10
                    try clear c11
                    try clear c12
                    try clear p12
                    try clear q12
                    try clear hx12
                    try clear hf12
                    try clear c13
                    try clear p13
                    try clear q13
                    try clear hx13
                    try clear hf13
                    try clear c14
                    try clear c17
                    try clear c19
                    try clear c20
                    try clear c21
                    try clear c22
                    try clear c23
                    try clear c26
                    try clear c27
                    try clear c28
                    try clear c29
                    try clear c33
                    try clear c34
                    try clear c35
                    try clear c36
                    try clear c37
                    try clear c39
                    try clear c40
                    try clear c41
                    try clear c42
                    try clear c43
                    try clear c44
                    try clear c45
                    try clear c48
                    try clear c48b0
                    try clear c48b1
                    try clear c50
                    try clear c51
                    try clear c52
                    try clear c53
                    try clear c54
                    try clear c56
                    try clear c57
                    try clear c58
                    try clear c59
                    try clear c61
                    try clear c62
                    try clear c63
                    try clear p64
                    try clear c67
                    try clear c68
                    try clear c69
                    try clear c70
                    try clear c71
                    try clear c72
                    try clear c76
                    try clear c77
                    try clear c78
                    try clear c79
                    try clear c80
                    try clear c84
                    try clear c85
                    try clear c86
                    try clear c87
                    try clear c90
                    try clear c91
                    try clear c92
                    try clear c93
                    try clear c94
                    try clear c95
                    try clear c97
                    try clear c97b0
                    try clear c97b1
                    try clear c98
                    try clear c98b0
                    try clear c98b1
                    try clear c99
                    try clear c100
                    try clear c101
                    try clear c102
                    try clear c103
                    try clear c106
                    try clear c107
                    try clear c108
                    try clear c109
                    try clear c110
                    try clear c111
                    try clear c116
                    try clear c116b0
                    try clear c118
                    try clear c118b0
                    try clear c119
                    try clear c119b0
                    try clear c120
                    try clear p120
                    try clear q120
                    try clear hx120
                    try clear hf120
                    try clear c122
                    try clear hx122
                    try clear hf122
                    try clear c124
                    try clear c125
                    try clear c126
                    try clear c127
                    try clear c128
                    try clear c129
                    try clear c131
                    try clear c131b0
                    try clear c132
                    try clear c132b0
                    try clear c132b1
                    try clear c132b2
                    try clear c135
                    try clear c135b0
                    try clear c136
                    try clear c136b0
                    try clear c137
                    try clear p137
                    try clear q137
                    try clear hx137
                    try clear hf137
                    try clear c140
                    try clear c141
                    try clear c142
                    try clear c143
                    try clear c144
                    try clear c145
                    try clear c146
                    try clear hcz104_0
                    try clear hcz104_1
                    try clear hcz104_2
                    try clear hcz104_3
                    try clear hcz112_0
                    try clear hcz112_1
                    try clear hcz112_2
                    try clear hcz112_3
                    try clear hcz113_0
                    try clear hcz113_1
                    try clear hcz113_2
                    try clear hcz113_3
                    try clear hcz130_0
                    try clear hcz130_1
                    try clear hcz130_2
                    try clear hcz130_3
                    try clear hcz147_0
                    try clear hcz147_1
                    try clear hcz147_2
                    try clear hcz147_3
                    try clear hcz24_0
                    try clear hcz24_1
                    try clear hcz24_2
                    try clear hcz24_3
                    try clear hcz30_0
                    try clear hcz30_1
                    try clear hcz31_0
                    try clear hcz31_1
                    try clear hcz31_2
                    try clear hcz31_3
                    try clear hcz38_0
                    try clear hcz38_1
                    try clear hcz38_2
                    try clear hcz38_3
                    try clear hcz46_0
                    try clear hcz46_1
                    try clear hcz46_2
                    try clear hcz46_3
                    try clear hcz55_0
                    try clear hcz55_1
                    try clear hcz55_2
                    try clear hcz55_3
                    try clear hcz60_0
                    try clear hcz64_0
                    try clear hcz73_0
                    try clear hcz73_1
                    try clear hcz73_2
                    try clear hcz73_3
                    try clear hcz81_0
                    try clear hcz81_1
                    try clear hcz81_2
                    try clear hcz81_3
                    try clear hcz83_0
                    try clear hcz83_1
                    try clear hcz83_2
                    try clear hcz83_3
                    try clear hcz88_0
                    try clear hcz88_1
                    try clear hcz88_2
                    try clear hcz88_3
                    try clear hcz96_0
                    try clear hcz96_1
                    try clear hcz96_2
                    try clear hcz96_3
                    try clear hfz104_0
                    try clear hfz104_1
                    try clear hfz104_2
                    try clear hfz104_3
                    try clear hfz112_0
                    try clear hfz112_1
                    try clear hfz112_2
                    try clear hfz112_3
                    try clear hfz113_0
                    try clear hfz113_1
                    try clear hfz113_2
                    try clear hfz113_3
                    try clear hfz130_0
                    try clear hfz130_1
                    try clear hfz130_2
                    try clear hfz130_3
                    try clear hfz147_0
                    try clear hfz147_1
                    try clear hfz147_2
                    try clear hfz147_3
                    try clear hfz24_0
                    try clear hfz24_1
                    try clear hfz24_2
                    try clear hfz24_3
                    try clear hfz30_0
                    try clear hfz30_1
                    try clear hfz31_0
                    try clear hfz31_1
                    try clear hfz31_2
                    try clear hfz31_3
                    try clear hfz38_0
                    try clear hfz38_1
                    try clear hfz38_2
                    try clear hfz38_3
                    try clear hfz46_0
                    try clear hfz46_1
                    try clear hfz46_2
                    try clear hfz46_3
                    try clear hfz55_0
                    try clear hfz55_1
                    try clear hfz55_2
                    try clear hfz55_3
                    try clear hfz60_0
                    try clear hfz64_0
                    try clear hfz73_0
                    try clear hfz73_1
                    try clear hfz73_2
                    try clear hfz73_3
                    try clear hfz81_0
                    try clear hfz81_1
                    try clear hfz81_2
                    try clear hfz81_3
                    try clear hfz83_0
                    try clear hfz83_1
                    try clear hfz83_2
                    try clear hfz83_3
                    try clear hfz88_0
                    try clear hfz88_1
                    try clear hfz88_2
                    try clear hfz88_3
                    try clear hfz96_0
                    try clear hfz96_1
                    try clear hfz96_2
                    try clear hfz96_3
                    try clear hx120_0
                    try clear hx122_0
                    try clear hx137_0
                    try clear p1
                    try clear p12
                    try clear p120
                    try clear p137
                    try clear p2
                    try clear p6
                    try clear p64
                    try clear q1
                    try clear q12
                    try clear q120
                    try clear q137
                    obtain ⟨x128_5, x190003_5, u190003, rfl, HA, HK5, HO_22, HO_190003, BK178, BK179, BK180, BK181, BK182, BK183, BK189, HB⟩ := hrel
                    have hl22_5 := (Kd.N_reads' HO_22.out).1
                    rw [hl22_5] at HO_22
                    (try simp only [hl22_5])
                    (try simp only [hl22_5] at BK178)
                    (try simp only [hl22_5] at BK179)
                    (try simp only [hl22_5] at BK180)
                    (try simp only [hl22_5] at BK181)
                    (try simp only [hl22_5] at BK182)
                    (try simp only [hl22_5] at BK183)
                    (try simp only [hl22_5] at BK189)
                    (try simp only [hl22_5] at HO_190003)
                    cases gk with
                    | zero => exact absurd HA.out (by simp [separable_Tile.l2])
                    | succ k5 =>
                     have H := HA.out
                     clear HA
                     simp only [separable_Tile.l2] at H
                     by_cases c148 : x128_5 < (wrap64 (a7_2 - a7_0))
                     ·rw [if_pos c148] at H
                      have c148b0 : decide (x128_5 < (wrap64 (a7_2 - a7_0))) = true := decide_eq_true c148
                      clear c148
                      have H' := am_ H
                      clear H
                      go_wp2
                      go_loopg [26, 133] k5 (fun kq v26 v133 w' => ∃ (x26_6 : Int) (x133_6 : Int), v26 = .int .i64 x26_6 ∧ v133 = .int .i64 x133_6 ∧ Aside0 (separable_Tile.l3 kq l3 a5 a6 (wrap64 (a7_1 - (wrap64 ((l3.length : Int) / 2)))) y200 x104_4 x128_5 x26_6 (wrap64 (a7_3 - a7_1)) x104_4 (wrap64 (a7_2 - a7_0)) x128_5 l3 (l3.length : Int) x133_6 a0_0 a0_1 a0_2 l0_3 a1_0 a1_1 l2 a4 a7_0 a7_1 a7_2 a7_3 (wrap64 (a7_2 - a7_0)) (wrap64 (a7_3 - a7_1)) a6 x190003_5 = some (r1, r2, r3, r4, r5)) ∧ Aside0 (kq ≤ k5) ∧ Aside0 (Kd.N (Kd.slice 3 (Kd.int .i64)) 22 w' w.heap.size (fun k_ => some k_ ≠ (u190003 : Value).ownBlock ∧ k_ ≠ gb178 ∧ k_ ≠ gb179 ∧ k_ ≠ gb180 ∧ k_ ≠ gb181 ∧ k_ ≠ gb182 ∧ k_ ≠ gb183 ∧ k_ ≠ gb189) (.slice (some ⟨go137, 0, none⟩) y200.length co137) y200) ∧ Aside0 (Kd.R (Kd.int .i64) 3 w' w.heap.size (fun k_ => k_ ≠ gb181) u190003 x190003_5) ∧ Aside0 (w'.heap[gb178]? = some (.cells #[.int .i64 a0_0, .int .i64 a0_1, .int .i64 a0_2, (.slice A0_3 l0_3.length c0_3)] 35 (0, 0))) ∧ Aside0 (w'.heap[gb179]? = some (.cells #[.int .i64 a1_0, .int .i64 a1_1] 38 (0, 0))) ∧ Aside0 (w'.heap[gb180]? = some (.cells #[(.slice A2 l2.length c2)] 22 (0, 0))) ∧ Aside0 (w'.heap[gb181]? = some (.cells #[.int .i64 a4] 3 (0, 0))) ∧ Aside0 (w'.heap[gb182]? = some (.cells #[.int .i64 a7_0, .int .i64 a7_1, .int .i64 a7_2, .int .i64 a7_3] 33 (0, 0))) ∧ Aside0 (w'.heap[gb183]? = some (.cells #[.int .i64 0, .int .i64 0, .int .i64 0, (.slice none 0 0)] 35 (0, 0))) ∧ Aside0 (w'.heap[gb189]? = some (.cells #[.int .i64 (wrap64 (a7_2 - a7_0)), .int .i64 (wrap64 (a7_3 - a7_1)), .int .i64 a6, u190003] 35 (0, 0))) ∧ Aside0 (Below w.heap.size w w'))
                      case atStart => exact ⟨(0), (0), q185_, q185_, H', ⟨Nat.le_refl _⟩, ⟨q122_⟩, ⟨q118_⟩, ⟨q109_⟩, ⟨q110_⟩, ⟨q111_⟩, ⟨q112_⟩, ⟨q113_⟩, ⟨q114_⟩, ⟨q115_⟩, ⟨q1_⟩⟩
                      case round =>
                       clear H'
                       try clear c1
                       try clear p1
                       try clear q1
                       try clear hx1
                       try clear c2
                       try clear p2
                       try clear c3
                       try clear c4
                       try clear c5
                       try clear c6
                       try clear p6
                       try clear c7
                       try clear c8
                       try clear c9
                       try clear c10
                       try clear c11
                       try clear c12
                       try clear p12
                       try clear q12
                       try clear hx12
                       try clear hf12
                       try clear c13
                       try clear p13
                       try clear q13
                       try clear hx13
                       try clear hf13
                       try clear c14
                       try clear c17
                       try clear c19
                       try clear c20
                       try clear c21
                       try clear c22
                       try clear c23
                       try clear c26
                       try clear c27
                       try clear c28
                       try clear c29
                       try clear c33
                       try clear c34
                       try clear c35
                       try clear c36
                       try clear c37
                       try clear c39
                       try clear c40
                       try clear c41
                       try clear c42
                       try clear c43
                       try clear c44
                       try clear c45
                       try clear c48
                       try clear c48b0
                       try clear c48b1
                       try clear c50
                       try clear c51
                       try clear c52
                       try clear c53
                       try clear c54
                       try clear c56
                       try clear c57
                       try clear c58
                       try clear c59
                       try clear c61
                       try clear c62
                       try clear c63
                       try clear p64
                       try clear c67
                       try clear c68
                       try clear c69
                       try clear c70
                       try clear c71
                       try clear c72
                       try clear c76
                       try clear c77
                       try clear c78
                       try clear c79
                       try clear c80
                       try clear c84
                       try clear c85
                       try clear c86
                       try clear c87
                       try clear c90
                       try clear c91
                       try clear c92
                       try clear c93
                       try clear c94
                       try clear c95
                       try clear c97
                       try clear c97b0
                       try clear c97b1
                       try clear c98
                       try clear c98b0
                       try clear c98b1
                       try clear c99
                       try clear c100
                       try clear c101
                       try clear c102
                       try clear c103
                       try clear c106
                       try clear c107
                       try clear c108
                       try clear c109
                       try clear c110
                       try clear c111
                       try clear c116
                       try clear c116b0
                       try clear c118
                       try clear c118b0
                       try clear c119
                       try clear c119b0
                       try clear c120
                       try clear p120
                       try clear q120
                       try clear hx120
                       try clear hf120
                       try clear c122
                       try clear hx122
                       try clear hf122
                       try clear c124
                       try clear c125
                       try clear c126
                       try clear c127
                       try clear c128
                       try clear c129
                       try clear c131
                       try clear c131b0
                       try clear c132
                       try clear c132b0
                       try clear c132b1
                       try clear c132b2
                       try clear c135
                       try clear c135b0
                       try clear c136
                       try clear c136b0
                       try clear c137
                       try clear p137
                       try clear q137
                       try clear hx137
                       try clear hf137
                       try clear c140
                       try clear c141
                       try clear c142
                       try clear c143
                       try clear c144
                       try clear c145
                       try clear c146
                       try clear c148
                       try clear c148b0
                       try clear hcz104_0
                       try clear hcz104_1
                       try clear hcz104_2
                       try clear hcz104_3
                       try clear hcz112_0
                       try clear hcz112_1
                       try clear hcz112_2
                       try clear hcz112_3
                       try clear hcz113_0
                       try clear hcz113_1
                       try clear hcz113_2
                       try clear hcz113_3
                       try clear hcz130_0
                       try clear hcz130_1
                       try clear hcz130_2
                       try clear hcz130_3
                       try clear hcz147_0
                       try clear hcz147_1
                       try clear hcz147_2
                       try clear hcz147_3
                       try clear hcz24_0
                       try clear hcz24_1
                       try clear hcz24_2
                       try clear hcz24_3
                       try clear hcz30_0
                       try clear hcz30_1
                       try clear hcz31_0
                       try clear hcz31_1
                       try clear hcz31_2
                       try clear hcz31_3
                       try clear hcz38_0
                       try clear hcz38_1
                       try clear hcz38_2
                       try clear hcz38_3
                       try clear hcz46_0
                       try clear hcz46_1
                       try clear hcz46_2
                       try clear hcz46_3
                       try clear hcz55_0
                       try clear hcz55_1
                       try clear hcz55_2
                       try clear hcz55_3
                       try clear hcz60_0
                       try clear hcz64_0
                       try clear hcz73_0
                       try clear hcz73_1
                       try clear hcz73_2
                       try clear hcz73_3
                       try clear hcz81_0
                       try clear hcz81_1
                       try clear hcz81_2
                       try clear hcz81_3
                       try clear hcz83_0
                       try clear hcz83_1
                       try clear hcz83_2
                       try clear hcz83_3
                       try clear hcz88_0
                       try clear hcz88_1
                       try clear hcz88_2
                       try clear hcz88_3
                       try clear hcz96_0
                       try clear hcz96_1
                       try clear hcz96_2
                       try clear hcz96_3
                       try clear hfz104_0
                       try clear hfz104_1
                       try clear hfz104_2
                       try clear hfz104_3
                       try clear hfz112_0
                       try clear hfz112_1
                       try clear hfz112_2
                       try clear hfz112_3
                       try clear hfz113_0
                       try clear hfz113_1
                       try clear hfz113_2
                       try clear hfz113_3
                       try clear hfz130_0
                       try clear hfz130_1
                       try clear hfz130_2
                       try clear hfz130_3
                       try clear hfz147_0
                       try clear hfz147_1
                       try clear hfz147_2
                       try clear hfz147_3
                       try clear hfz24_0
                       try clear hfz24_1
                       try clear hfz24_2
                       try clear hfz24_3
                       try clear hfz30_0
                       try clear hfz30_1
                       try clear hfz31_0
                       try clear hfz31_1
                       try clear hfz31_2
                       try clear hfz31_3
                       try clear hfz38_0
                       try clear hfz38_1
                       try clear hfz38_2
                       try clear hfz38_3
                       try clear hfz46_0
                       try clear hfz46_1
                       try clear hfz46_2
                       try clear hfz46_3
                       try clear hfz55_0
                       try clear hfz55_1
                       try clear hfz55_2
                       try clear hfz55_3
                       try clear hfz60_0
                       try clear hfz64_0
                       try clear hfz73_0
                       try clear hfz73_1
                       try clear hfz73_2
                       try clear hfz73_3
                       try clear hfz81_0
                       try clear hfz81_1
                       try clear hfz81_2
                       try clear hfz81_3
                       try clear hfz83_0
                       try clear hfz83_1
                       try clear hfz83_2
                       try clear hfz83_3
                       try clear hfz88_0
                       try clear hfz88_1
                       try clear hfz88_2
                       try clear hfz88_3
                       try clear hfz96_0
                       try clear hfz96_1
                       try clear hfz96_2
                       try clear hfz96_3
                       try clear hx120_0
                       try clear hx122_0
                       try clear hx137_0
                       try clear p1
                       try clear p12
                       try clear p120
                       try clear p13
                       try clear p137
                       try clear p2
                       try clear p6
                       try clear p64
                       try clear q1
                       try clear q12
                       try clear q120
                       try clear q13
                       try clear q137
                       obtain ⟨x26_6, x133_6, rfl, rfl, HA, HK6, HO_22, HO_190003, BK178, BK179, BK180, BK181, BK182, BK183, BK189, HB⟩ := hrel
                       cases gk with
                       | zero => exact absurd HA.out (by simp [separable_Tile.l3])
                       | succ k6 =>
                        have H := HA.out
                        clear HA
                        simp only [separable_Tile.l3] at H
                        by_cases c149 : x133_6 < (l3.length : Int)
                        ·rw [if_pos c149] at H
                         have c149b0 : decide (x133_6 < (l3.length : Int)) = true := decide_eq_true c149
                         clear c149
                         by_cases c150 : 0 ≤ x133_6
                         ·rw [if_pos c150] at H
                          have c150b0 : decide (0 ≤ x133_6) = true := decide_eq_true c150
                          clear c150
                          by_cases c151 : x133_6 < (l3.length : Int)
                          ·rw [if_pos c151] at H
                           have c151b0 : decide (x133_6 < (l3.length : Int)) = true := decide_eq_true c151
                           clear c151
                           by_cases c152 : (l3.length : Int) = 0
                           ·rw [if_pos c152] at H
                            exact absurd H (by simp)
                           ·rw [if_neg c152] at H
                            have c152b0 : ((l3.length : Int) == 0) = false := beq_eq_false_iff_ne.mpr c152
                            have c152b1 : ((l3.length : Int) != 0) = true := bne_iff_ne.mpr c152
                            have c152b2 : ¬ (l3 = []) := fun h_ => c152 (by rw [h_]; rfl)
                            obtain ⟨ji153, hji153⟩ : ∃ j_ : Int, (Int.tmod (wrap64 (x104_4 + x133_6)) (l3.length : Int)) = j_ := ⟨_, rfl⟩
                            replace H : (if 0 ≤ (ji153) then (if (ji153) < (y200.length : Int) then (if 0 ≤ x128_5 then (if x128_5 < ((rd_L1 y200 (ji153)).length : Int) then (separable_Tile.l3 k6 l3 a5 a6 (wrap64 (a7_1 - (wrap64 ((l3.length : Int) / 2)))) y200 x104_4 x128_5 (wrap64 (x26_6 + (wrap64 ((rd l3 x133_6) * (rd (rd_L1 y200 (ji153)) x128_5))))) (wrap64 (a7_3 - a7_1)) x104_4 (wrap64 (a7_2 - a7_0)) x128_5 l3 (l3.length : Int) (wrap64 (x133_6 + 1)) a0_0 a0_1 a0_2 l0_3 a1_0 a1_1 l2 a4 a7_0 a7_1 a7_2 a7_3 (wrap64 (a7_2 - a7_0)) (wrap64 (a7_3 - a7_1)) a6 x190003_5) else (none)) else (none)) else (none)) else (none)) = some (r1, r2, r3, r4, r5) := by first | (rw [hji153] at H; exact H) | (simp only [hji153] at H ⊢; exact H)
                            by_cases c154 : 0 ≤ (ji153)
                            ·rw [if_pos c154] at H
                             have c154b0 : decide (0 ≤ (ji153)) = true := decide_eq_true c154
                             clear c154
                             by_cases c155 : (ji153) < (y200.length : Int)
                             ·rw [if_pos c155] at H
                              have c155b0 : decide ((ji153) < (y200.length : Int)) = true := decide_eq_true c155
                              clear c155
                              by_cases c156 : 0 ≤ x128_5
                              ·rw [if_pos c156] at H
                               have c156b0 : decide (0 ≤ x128_5) = true := decide_eq_true c156
                               clear c156
                               by_cases c157 : x128_5 < ((rd_L1 y200 (ji153)).length : Int)
                               ·rw [if_pos c157] at H
                                have c157b0 : decide (x128_5 < ((rd_L1 y200 (ji153)).length : Int)) = true := decide_eq_true c157
                                clear c157
                                have H' := am_ H
                                clear H
                                have p201 : 0 ≤ (x133_6 : Int) := of_decide_eq_true q184_
                                have q201 : x133_6 < (l3.length : Int) := of_decide_eq_true q184_
                                obtain ⟨ad201, e201, hx201_0⟩ := Kd.at_int HR3.out x133_6 p201 q201
                                cases e201
                                replace hx201_0 := (HB.out.cell (World.block_lt_of_cell? w _ hx201_0)).trans hx201_0
                                replace p201 := eq_true p201
                                replace q201 := eq_true q201
                                have p202 : 0 ≤ ((ji153) : Int) := of_decide_eq_true q184_
                                have q202 : (ji153) < (y200.length : Int) := of_decide_eq_true q184_
                                obtain ⟨ad202, A202_0, c202_0, e202, hx202_0, hl202_0, hi202_0⟩ := at_L1 (Kd.N_reads' HO_22.out).2.2 (ji153) p202 q202
                                obtain rfl : (⟨go137, 0, none⟩ : Addr) = ad202 := (by injection e202)
                                obtain ⟨ce202, hce202, hMe202, hcc202⟩ := Kd.N_get HO_22.out [] (ji153) p202 (by first | exact q202 | exact of_decide_eq_true q184_ | (have e_ := (Kd.N_reads' HO_22.out).1; omega))
                                obtain ⟨ua202_0, uc202_0, rfl, ul202_0, ge202_0⟩ := Kd.FK_slice_open hMe202
                                have hv202_0 := hcc202 0 _ rfl
                                rw [Nat.add_zero, show ((Kd.slice 3 (Kd.int .i64))).sz = 1 from rfl, Nat.mul_one] at hv202_0
                                replace hv202_0 := Option.some.inj (hv202_0.symm.trans hx202_0)
                                injection hv202_0 with hva_ hvn_ hvc_
                                rw [hva_] at ge202_0
                                rw [hvc_] at ul202_0
                                have HL202_0 := am_ (show Kd.V (Kd.int .i64) 3 _ w.heap.size _ _ (rd_L1 y200 (ji153)) from Kd.V_mk ul202_0 ge202_0)
                                clear hva_ hvn_ hvc_ ge202_0 ul202_0
                                clear hcc202 hce202
                                (first | simp only [add_plain] at hx202_0 | simp only [add_at] at hx202_0 | simp only [Addr.add, Nat.zero_add] at hx202_0 | skip)
                                have HR202_0 := am_ hi202_0
                                have HC202_0 := am_ hl202_0
                                clear hi202_0 hl202_0
                                replace p202 := eq_true p202
                                replace q202 := eq_true q202
                                have p203 : 0 ≤ (x128_5 : Int) := of_decide_eq_true q184_
                                have q203 : x128_5 < ((rd_L1 y200 (ji153)).length : Int) := of_decide_eq_true q184_
                                obtain ⟨ad203, e203, hx203_0⟩ := Kd.at_int (by repeat (first | (with_reducible exact HR202_0.out) | (with_reducible refine Kd.C_alloc ?_ _) | (with_reducible refine Kd.C_drewN ?_ _) | (with_reducible refine Kd.C_drew ?_) | exact HR202_0.out)) x128_5 p203 q203
                                cases e203
                                replace p203 := eq_true p203
                                replace q203 := eq_true q203
                                go_wp2
                                go_roundg k6
                                case measure => have := HJ8.out; have := HJ48.out; have := HK3.out; have := HK4.out; have := HK5.out; have := HK6.out; omega
                                case rel => exact ⟨(wrap64 (x26_6 + (wrap64 ((rd l3 x133_6) * (rd (rd_L1 y200 (ji153)) x128_5))))), (wrap64 (x133_6 + 1)), (by first | rfl | (simp; done) | (simp only [← hji153] <;> (first | rfl | simp)) | (simp [*]; done)), q185_, q181_, ⟨by have := HJ8.out; have := HJ48.out; have := HK3.out; have := HK4.out; have := HK5.out; have := HK6.out; omega⟩, ⟨q122_⟩, ⟨q118_⟩, ⟨q109_⟩, ⟨q110_⟩, ⟨q111_⟩, ⟨q112_⟩, ⟨q113_⟩, ⟨q114_⟩, ⟨q115_⟩, ⟨q1_⟩⟩
                               ·rw [if_neg c157] at H
                                exact absurd H (by simp)
                              ·rw [if_neg c156] at H
                               exact absurd H (by simp)
                             ·rw [if_neg c155] at H
                              exact absurd H (by simp)
                            ·rw [if_neg c154] at H
                             exact absurd H (by simp)
                          ·rw [if_neg c151] at H
                           exact absurd H (by simp)
                         ·rw [if_neg c150] at H
                          exact absurd H (by simp)
                        ·rw [if_neg c149] at H
                         have c149b0 : decide (x133_6 < (l3.length : Int)) = false := decide_eq_false c149
                         clear c149
                         replace H := Option.bind_eq_some_iff.mp H
                         obtain ⟨t204, A1580, H⟩ := H
                         replace H : ((fixed_Clamp.f t204 a6).bind fun t205 => (if x190003_5.length < 17592186044416 then (separable_Tile.l2 k6 l3 a5 a6 (wrap64 (a7_1 - (wrap64 ((l3.length : Int) / 2)))) y200 x104_4 (wrap64 (a7_3 - a7_1)) x104_4 (wrap64 (a7_2 - a7_0)) (wrap64 (x128_5 + 1)) a0_0 a0_1 a0_2 l0_3 a1_0 a1_1 l2 a4 a7_0 a7_1 a7_2 a7_3 (wrap64 (a7_2 - a7_0)) (wrap64 (a7_3 - a7_1)) a6 (x190003_5 ++ [t205])) else (none))) = some (r1, r2, r3, r4, r5) := H
                         have A158 := am_ A1580
                         clear A1580
                         replace H := Option.bind_eq_some_iff.mp H
                         obtain ⟨t205, A1590, H⟩ := H
                         replace H : (if x190003_5.length < 17592186044416 then (separable_Tile.l2 k6 l3 a5 a6 (wrap64 (a7_1 - (wrap64 ((l3.length : Int) / 2)))) y200 x104_4 (wrap64 (a7_3 - a7_1)) x104_4 (wrap64 (a7_2 - a7_0)) (wrap64 (x128_5 + 1)) a0_0 a0_1 a0_2 l0_3 a1_0 a1_1 l2 a4 a7_0 a7_1 a7_2 a7_3 (wrap64 (a7_2 - a7_0)) (wrap64 (a7_3 - a7_1)) a6 (x190003_5 ++ [t205])) else (none)) = some (r1, r2, r3, r4, r5) := H
                         have A159 := am_ A1590
                         clear A1590
                         by_cases c160 : x190003_5.length < 17592186044416
                         ·rw [if_pos c160] at H
                          have LMc160 := am_ c160
                          clear c160
                          obtain ⟨y206, hy206⟩ : ∃ y_ : List Int, y_ = (x190003_5 ++ [t205]) := ⟨_, rfl⟩
                          replace H : (separable_Tile.l2 k6 l3 a5 a6 (wrap64 (a7_1 - (wrap64 ((l3.length : Int) / 2)))) y200 x104_4 (wrap64 (a7_3 - a7_1)) x104_4 (wrap64 (a7_2 - a7_0)) (wrap64 (x128_5 + 1)) a0_0 a0_1 a0_2 l0_3 a1_0 a1_1 l2 a4 a7_0 a7_1 a7_2 a7_3 (wrap64 (a7_2 - a7_0)) (wrap64 (a7_3 - a7_1)) a6 y206) = some (r1, r2, r3, r4, r5) := by first | (rw [hy206]; with_reducible exact H) | (have H2_ := (Option.bind_some _ _).symm.trans H; rw [hy206]; with_reducible exact H2_) | (have H2_ := (Option.bind_some _ _).symm.trans H; with_reducible exact H2_) | with_reducible exact H | (rw [hy206]; exact H) | exact H
                          have Ny206 := am_ hy206
                          clear hy206
                          have H' := am_ H
                          clear H
                          try go_wp2
                          have n0_ := am_ (Kd.N_drew HO_22.out)
                          have n1_ := am_ (Kd.R_drew HO_190003.out)
                          have n2_ := am_ (blk_drew BK178.out)
                          have n3_ := am_ (blk_drew BK179.out)
                          have n4_ := am_ (blk_drew BK180.out)
                          have n5_ := am_ (blk_drew BK181.out)
                          have n6_ := am_ (blk_drew BK182.out)
                          have n7_ := am_ (blk_drew BK183.out)
                          have n8_ := am_ (blk_drew BK189.out)
                          have n9_ := am_ (below_drew1 HB.out)
                          clear HO_22
                          clear HO_190003
                          clear BK178
                          clear BK179
                          clear BK180
                          clear BK181
                          clear BK182
                          clear BK183
                          clear BK189
                          clear HB
                          have HO_22 := n0_
                          have HO_190003 := n1_
                          have BK178 := n2_
                          have BK179 := n3_
                          have BK180 := n4_
                          have BK181 := n5_
                          have BK182 := n6_
                          have BK183 := n7_
                          have BK189 := n8_
                          have HB := n9_
                          clear n0_ n1_ n2_ n3_ n4_ n5_ n6_ n7_ n8_ n9_
                          refine start_ (n := 11) (S := fun w' => w'.cell? ⟨gb189, 0, none⟩ = some (.int .i64 (wrap64 (a7_2 - a7_0))) ∧ w'.cell? ⟨gb189, 1, none⟩ = some (.int .i64 (wrap64 (a7_3 - a7_1))) ∧ w'.cell? ⟨gb189, 2, none⟩ = some (.int .i64 a6) ∧ w'.cell? ⟨gb189, 3, none⟩ = some (u190003)) (ds := [10]) #[false, false, false, false, false, false, false, false, false, false, false] (by kernel_rfl) rfl rfl ⟨(blk_cell BK189.out 0).trans rfl, (blk_cell BK189.out 1).trans rfl, (blk_cell BK189.out 2).trans rfl, (blk_cell BK189.out 3).trans rfl⟩ (fun hHeld => ?_); refine with_tabW separable_Tile.tab30 separable_Tile.bits30 (fun HT_ HW_ => ?_)
                          generalize wr.drew = w161 at HO_22 HO_190003 BK178 BK179 BK180 BK181 BK182 BK183 BK189 HB hHeld ⊢
                          refine pure_ (i := 0) (N := some 155) (v := ?_) (a' := ?_) #[true, false, false, false, false, false, false, false, false, false, false] rfl rfl (any_of HT_.out (by kernel_rfl)) (fun _ _ _ h => h) (Or.inl ⟨by rfl, ?_⟩) ?_ ?_
                          rotate_left
                          ·intro w'
                           go_simp
                           with_reducible rfl
                          rotate_left
                          ·simp only [Act.put, List.setIfInBounds_toArray, List.set_cons_zero, List.set_cons_succ, i64_w, i32_w]
                           rfl
                          refine pure_ (i := 2) (N := some 157) (v := ?_) (a' := ?_) #[true, false, true, false, false, false, false, false, false, false, false] rfl rfl (any_of HT_.out (by kernel_rfl)) (fun _ _ _ h => h) (Or.inl ⟨by rfl, ?_⟩) ?_ ?_
                          rotate_left
                          ·intro w'
                           go_simp
                           with_reducible rfl
                          rotate_left
                          ·simp only [Act.put, List.setIfInBounds_toArray, List.set_cons_zero, List.set_cons_succ, i64_w, i32_w]
                           rfl
                          refine pure_ (i := 3) (N := some 158) (v := ?_) (a' := ?_) #[true, false, true, true, false, false, false, false, false, false, false] rfl rfl (any_of HT_.out (by kernel_rfl)) (fun _ _ _ h => h) (Or.inl ⟨by rfl, ?_⟩) ?_ ?_
                          rotate_left
                          ·intro w'
                           go_simp
                           with_reducible rfl
                          rotate_left
                          ·simp only [Act.put, List.setIfInBounds_toArray, List.set_cons_zero, List.set_cons_succ, i64_w, i32_w]
                           rfl
                          refine pure_ (i := 5) (N := some 160) (v := ?_) (a' := ?_) #[true, false, true, true, false, true, false, false, false, false, false] rfl rfl (any_of HT_.out (by kernel_rfl)) (fun _ _ _ h => h) (Or.inl ⟨by rfl, ?_⟩) ?_ ?_
                          rotate_left
                          ·intro w'
                           go_simp
                           with_reducible rfl
                          rotate_left
                          ·simp only [Act.put, List.setIfInBounds_toArray, List.set_cons_zero, List.set_cons_succ, i64_w, i32_w]
                           rfl
                          refine take_ (i := 1) (N := some 156) (v := ?_) (a' := ?_) #[true, true, true, true, false, true, false, false, false, false, false] rfl rfl (take_ofW HT_.out HW_.out (by kernel_rfl)) (fun _ _ _ h => h) (Or.inl ⟨by rfl, ?_⟩) hHeld ?_ ?_
                          rotate_left
                          ·rintro w' ⟨s0, s1, s2, s3⟩
                           go_simp
                           with_reducible rfl
                          rotate_left
                          ·simp only [Act.put, List.setIfInBounds_toArray, List.set_cons_zero, List.set_cons_succ, i64_w, i32_w]
                           rfl
                          refine one_ (i := 4) (N := some 159) #[true, true, true, true, true, true, false, false, false, false, false] rfl rfl (one_of HT_.out (by kernel_rfl)) (by decide) (fun K hK => ?_)
                          refine goes_ Try.func45 (by kernel_rfl) rfl #[.int .i64 x26_6, .int .i64 a5] (by rfl) rfl rfl q117_ ?_
                          with_reducible refine (fixed_Shift.calls k6 x26_6 a5 t204 _ A158.out).mono ?_
                          rintro e w' ⟨rfl, ⟨nd, rfl⟩⟩
                          refine ⟨_, rfl, ?_⟩
                          refine hK.out _ _ ⟨(blk_cell BK189.out 0).trans rfl, (blk_cell BK189.out 1).trans rfl, (blk_cell BK189.out 2).trans rfl, (blk_cell BK189.out 3).trans rfl⟩ (fun hHeld => ?_)
                          clear hK K
                          refine norm_ (a' := ?_) ?_ ?_
                          rotate_left
                          ·show Act.put _ (some 159) _ = _
                           simp only [Act.put, List.setIfInBounds_toArray, List.set_cons_zero, List.set_cons_succ, i64_w, i32_w]
                           rfl
                          refine one_ (i := 6) (N := some 161) #[true, true, true, true, true, true, true, false, false, false, false] rfl rfl (one_of HT_.out (by kernel_rfl)) (by decide) (fun K hK => ?_)
                          refine goes_ Try.func46 (by kernel_rfl) rfl #[.int .i64 t204, .int .i64 a6] (by rfl) rfl rfl q117_ ?_
                          with_reducible refine (fixed_Clamp.calls t204 a6 t205 _ A159.out).mono ?_
                          rintro e w162 ⟨rfl, hb⟩
                          refine ⟨_, rfl, ?_⟩
                          have n0_ := am_ (Kd.N_below q161_ hb)
                          have n1_ := am_ (Kd.R_below q158_ hb)
                          have n2_ := am_ (blk_below (g := gb178) (o := .cells #[.int .i64 a0_0, .int .i64 a0_1, .int .i64 a0_2, .slice A0_3 l0_3.length c0_3] 35 (0, 0)) q133_ hb)
                          have n3_ := am_ (blk_below (g := gb179) (o := .cells #[.int .i64 a1_0, .int .i64 a1_1] 38 (0, 0)) q134_ hb)
                          have n4_ := am_ (blk_below (g := gb180) (o := .cells #[.slice A2 l2.length c2] 22 (0, 0)) q135_ hb)
                          have n5_ := am_ (blk_below (g := gb181) (o := .cells #[.int .i64 a4] 3 (0, 0)) q136_ hb)
                          have n6_ := am_ (blk_below (g := gb182) (o := .cells #[.int .i64 a7_0, .int .i64 a7_1, .int .i64 a7_2, .int .i64 a7_3] 33 (0, 0)) q137_ hb)
                          have n7_ := am_ (blk_below (g := gb183) (o := .cells #[.int .i64 0, .int .i64 0, .int .i64 0, .slice none 0 0] 35 (0, 0)) q138_ hb)
                          have n8_ := am_ (blk_below (g := gb189) (o := .cells #[.int .i64 (wrap64 (a7_2 - a7_0)), .int .i64 (wrap64 (a7_3 - a7_1)), .int .i64 a6, u190003] 35 (0, 0)) q139_ hb)
                          have n9_ := am_ (below_step q1_ hb)
                          clear HO_22
                          clear HO_190003
                          clear BK178
                          clear BK179
                          clear BK180
                          clear BK181
                          clear BK182
                          clear BK183
                          clear BK189
                          clear HB
                          have HO_22 := n0_
                          have HO_190003 := n1_
                          have BK178 := n2_
                          have BK179 := n3_
                          have BK180 := n4_
                          have BK181 := n5_
                          have BK182 := n6_
                          have BK183 := n7_
                          have BK189 := n8_
                          have HB := n9_
                          clear n0_ n1_ n2_ n3_ n4_ n5_ n6_ n7_ n8_ n9_
                          (try clear hb)
                          (try clear hb2)
                          (try clear hk)
                          (try clear hi)
                          refine hK.out _ _ ⟨(blk_cell BK189.out 0).trans rfl, (blk_cell BK189.out 1).trans rfl, (blk_cell BK189.out 2).trans rfl, (blk_cell BK189.out 3).trans rfl⟩ (fun hHeld => ?_)
                          clear hK K
                          refine norm_ (a' := ?_) ?_ ?_
                          rotate_left
                          ·show Act.put _ (some 161) _ = _
                           simp only [Act.put, List.setIfInBounds_toArray, List.set_cons_zero, List.set_cons_succ, i64_w, i32_w]
                           rfl
                          refine one_ (i := 7) (N := some 162) #[true, true, true, true, true, true, true, true, false, false, false] rfl rfl (one_of HT_.out (by kernel_rfl)) (by decide) (fun K hK => ?_)
                          refine value_ (w1 := ?_) (v := ?_) (by rfl) rfl ?_ ?_
                          rotate_left 2
                          ·go_simp
                           constructor
                           ·rfl
                           ·rfl
                          refine hK.out _ _ ⟨(blk_cell (blk_alloc BK189.out _) 0).trans rfl, (blk_cell (blk_alloc BK189.out _) 1).trans rfl, (blk_cell (blk_alloc BK189.out _) 2).trans rfl, (blk_cell (blk_alloc BK189.out _) 3).trans rfl⟩ (fun hHeld => ?_)
                          clear hK K
                          refine norm_ (a' := ?_) ?_ ?_
                          rotate_left
                          ·show Act.put _ (some 162) _ = _
                           simp only [Act.put, List.setIfInBounds_toArray, List.set_cons_zero, List.set_cons_succ, i64_w, i32_w]
                           rfl
                          refine one_ (i := 8) (N := some 163) #[true, true, true, true, true, true, true, true, true, false, false] rfl rfl (one_of HT_.out (by kernel_rfl)) (by decide) (fun K hK => ?_)
                          refine Kd.R_append_step (Kd.int .i64) (w0 := w) w.heap.size (by rfl) (.tmp 156) (.tmp 162) 22 3 (.int .i64 0) 8 rfl Try.underlying22 info3 rfl (by decide) (by omega) u190003 x190003_5 t205 [.int .i64 t205] (fun k_ => k_ ≠ gb181) (fun _ => False) rfl rfl ?aP (fun _ hk => hk.elim) ?aF ?aO ?aB ?aS ?aL ?_
                          (case aP => exact rfl)
                          (case aB => exact q1_)
                          (case aF => exact (fun k_ hk => Kd.freshB (g := gb181) (o := .cells #[.int .i64 a4] 3 (0, 0)) q136_ k_ hk))
                          (case aO => exact q158_)
                          (case aS => exact (below_size q1_))
                          (case aL => have := LMc160.out; omega)
                          intro v207 w163 ho hb hg hat
                          rw [← Ny206.out] at ho
                          have n0_ := am_ (Kd.N_afterv (ok := (fun k_ => k_ ≠ gb178 ∧ k_ ≠ gb179 ∧ k_ ≠ gb180 ∧ k_ ≠ gb181 ∧ k_ ≠ gb182 ∧ k_ ≠ gb183 ∧ k_ ≠ gb189)) (by (with_reducible repeat (first | apply Kd.N_alloc | apply Kd.N_drewN | apply Kd.N_drew)); exact Kd.N_mono HO_22.out (fun _ hk => ⟨⟨hk.2.1, ⟨hk.2.2.1, ⟨hk.2.2.2.1, ⟨hk.2.2.2.2.1, ⟨hk.2.2.2.2.2.1, ⟨hk.2.2.2.2.2.2.1, hk.2.2.2.2.2.2.2⟩⟩⟩⟩⟩⟩, hk.1⟩)) hg hat)
                          have n1_ := am_ (blk_grown (g := gb178) (o := .cells #[.int .i64 a0_0, .int .i64 a0_1, .int .i64 a0_2, .slice A0_3 l0_3.length c0_3] 35 (0, 0)) q133_ hg (Kd.R_ne HO_190003.out BK178.out (by decide)))
                          have n2_ := am_ (blk_grown (g := gb179) (o := .cells #[.int .i64 a1_0, .int .i64 a1_1] 38 (0, 0)) q134_ hg (Kd.R_ne HO_190003.out BK179.out (by decide)))
                          have n3_ := am_ (blk_grown (g := gb180) (o := .cells #[.slice A2 l2.length c2] 22 (0, 0)) q135_ hg (Kd.R_ne HO_190003.out BK180.out (by decide)))
                          have n4_ := am_ (blk_grown (g := gb181) (o := .cells #[.int .i64 a4] 3 (0, 0)) q136_ hg (Kd.R_away HO_190003.out (fun _ hk => hk)))
                          have n5_ := am_ (blk_grown (g := gb182) (o := .cells #[.int .i64 a7_0, .int .i64 a7_1, .int .i64 a7_2, .int .i64 a7_3] 33 (0, 0)) q137_ hg (Kd.R_ne HO_190003.out BK182.out (by decide)))
                          have n6_ := am_ (blk_grown (g := gb183) (o := .cells #[.int .i64 0, .int .i64 0, .int .i64 0, .slice none 0 0] 35 (0, 0)) q138_ hg (Kd.R_ne HO_190003.out BK183.out (by decide)))
                          have n7_ := am_ (blk_grown (g := gb189) (o := .cells #[.int .i64 (wrap64 (a7_2 - a7_0)), .int .i64 (wrap64 (a7_3 - a7_1)), .int .i64 a6, u190003] 35 (0, 0)) q139_ hg (Kd.R_ne HO_190003.out BK189.out (by decide)))
                          have n8_ := am_ (hb)
                          have n9_ := am_ (ho)
                          clear HO_22
                          clear BK178
                          clear BK179
                          clear BK180
                          clear BK181
                          clear BK182
                          clear BK183
                          clear BK189
                          clear HB
                          clear HO_190003
                          have HO_22 := n0_
                          have BK178 := n1_
                          have BK179 := n2_
                          have BK180 := n3_
                          have BK181 := n4_
                          have BK182 := n5_
                          have BK183 := n6_
                          have BK189 := n7_
                          have HB := n8_
                          have HO208 := n9_
                          clear n0_ n1_ n2_ n3_ n4_ n5_ n6_ n7_ n8_ n9_
                          clear ho hb hg hat
                          obtain ⟨Ao164, co164, eo164⟩ := Kd.R_slice HO208.out
                          (first | subst eo164 | (injection eo164 with f1_ f2_ f3_; have f4_ := f1_.symm; have f5_ := f3_.symm; clear f1_ f2_ f3_; subst f4_; subst f5_))
                          refine hK.out _ _ ⟨(blk_cell BK189.out 0).trans rfl, (blk_cell BK189.out 1).trans rfl, (blk_cell BK189.out 2).trans rfl, (blk_cell BK189.out 3).trans rfl⟩ (fun hHeld => ?_)
                          clear hK K
                          refine norm_ (a' := ?_) ?_ ?_
                          rotate_left
                          ·show Act.put _ (some 163) _ = _
                           simp only [Act.put, List.setIfInBounds_toArray, List.set_cons_zero, List.set_cons_succ, i64_w, i32_w]
                           rfl
                          refine pure_ (i := 9) (N := some 164) (v := ?_) (a' := ?_) #[true, true, true, true, true, true, true, true, true, true, false] rfl rfl (any_of HT_.out (by kernel_rfl)) (fun _ _ _ h => h) (Or.inl ⟨by rfl, ?_⟩) ?_ ?_
                          rotate_left
                          ·intro w'
                           go_simp
                           with_reducible rfl
                          rotate_left
                          ·simp only [Act.put, List.setIfInBounds_toArray, List.set_cons_zero, List.set_cons_succ, i64_w, i32_w]
                           rfl
                          refine last_ (i := 10) (N := none) #[true, true, true, true, true, true, true, true, true, true, true] rfl rfl (one_of HT_.out (by kernel_rfl)) (by decide) (fun K hK => ?_)
                          have hs165 : w163.cell? ⟨gb189, 3, none⟩ = some (u190003) := (blk_cell BK189.out 3).trans rfl
                          have hfs165 := blk_frozen BK189.out 3
                          have hns165_0 := NB178_189.out
                          have hns165_1 := NB179_189.out
                          have hns165_2 := NB180_189.out
                          have hns165_3 := NB181_189.out
                          have hns165_4 := NB182_189.out
                          have hns165_5 := NB183_189.out
                          have hms165_0 := NB189_178.out
                          have hms165_1 := NB189_179.out
                          have hms165_2 := NB189_180.out
                          have hms165_3 := NB189_181.out
                          have hms165_4 := NB189_182.out
                          have hms165_5 := NB189_183.out
                          refine skip_ (w1 := ?_) (by rfl) rfl ?_ ?_
                          rotate_left
                          ·go_simp
                           rfl
                          refine hK.out _ _ ?_
                          clear hK K
                          refine done_ (done_of HT_.out (by kernel_rfl)) ?_
                          try go_wp2
                          (try simp only [← hl22_5])
                          go_roundg k6
                          case measure => have := HJ8.out; have := HJ48.out; have := HK3.out; have := HK4.out; have := HK5.out; have := HK6.out; omega
                          case rel => exact ⟨(wrap64 (x128_5 + 1)), (y206), (.slice Ao164 y206.length co164), q185_, q181_, ⟨by have := HJ8.out; have := HJ48.out; have := HK3.out; have := HK4.out; have := HK5.out; have := HK6.out; omega⟩, ⟨by (try simp only [hl22_5]); (with_reducible repeat (first | apply Kd.N_alloc | apply Kd.N_drewN | apply Kd.N_drew)); exact Kd.N_mono (Kd.N_far (p := ⟨gb189, 3, none⟩) (Kd.N_mono HO_22.out (fun k_ hk => (⟨hk, hk.1.2.2.2.2.2.2⟩ : _ ∧ k_ ≠ gb189))) (fun _ hk => hk.2) (.slice Ao164 y206.length co164)) (fun _ hk => ⟨hk.1.2, ⟨hk.1.1.1, ⟨hk.1.1.2.1, ⟨hk.1.1.2.2.1, ⟨hk.1.1.2.2.2.1, ⟨hk.1.1.2.2.2.2.1, ⟨hk.1.1.2.2.2.2.2.1, hk.1.1.2.2.2.2.2.2⟩⟩⟩⟩⟩⟩⟩)⟩, ⟨by (try simp only [hl22_5]); (with_reducible repeat (first | apply Kd.R_alloc | apply Kd.R_drewN | apply Kd.R_drew)); exact Kd.R_mono (Kd.R_far (p := ⟨gb189, 3, none⟩) (Kd.R_types HO208.out BK189.out (by decide)) (fun _ hk => hk.2) (.slice Ao164 y206.length co164)) (fun _ hk => hk.1)⟩, ⟨by (try simp only [hl22_5]); (with_reducible repeat (first | refine blk_drewN ?_ _ | refine blk_drew ?_ | refine blk_alloc ?_ _)); refine blk_far ?_ NB178_189.out _; (with_reducible repeat (first | refine blk_drewN ?_ _ | refine blk_drew ?_ | refine blk_alloc ?_ _)); exact BK178.out⟩, ⟨by (try simp only [hl22_5]); (with_reducible repeat (first | refine blk_drewN ?_ _ | refine blk_drew ?_ | refine blk_alloc ?_ _)); refine blk_far ?_ NB179_189.out _; (with_reducible repeat (first | refine blk_drewN ?_ _ | refine blk_drew ?_ | refine blk_alloc ?_ _)); exact BK179.out⟩, ⟨by (try simp only [hl22_5]); (with_reducible repeat (first | refine blk_drewN ?_ _ | refine blk_drew ?_ | refine blk_alloc ?_ _)); refine blk_far ?_ NB180_189.out _; (with_reducible repeat (first | refine blk_drewN ?_ _ | refine blk_drew ?_ | refine blk_alloc ?_ _)); exact BK180.out⟩, ⟨by (try simp only [hl22_5]); (with_reducible repeat (first | refine blk_drewN ?_ _ | refine blk_drew ?_ | refine blk_alloc ?_ _)); refine blk_far ?_ NB181_189.out _; (with_reducible repeat (first | refine blk_drewN ?_ _ | refine blk_drew ?_ | refine blk_alloc ?_ _)); exact BK181.out⟩, ⟨by (try simp only [hl22_5]); (with_reducible repeat (first | refine blk_drewN ?_ _ | refine blk_drew ?_ | refine blk_alloc ?_ _)); refine blk_far ?_ NB182_189.out _; (with_reducible repeat (first | refine blk_drewN ?_ _ | refine blk_drew ?_ | refine blk_alloc ?_ _)); exact BK182.out⟩, ⟨by (try simp only [hl22_5]); (with_reducible repeat (first | refine blk_drewN ?_ _ | refine blk_drew ?_ | refine blk_alloc ?_ _)); refine blk_far ?_ NB183_189.out _; (with_reducible repeat (first | refine blk_drewN ?_ _ | refine blk_drew ?_ | refine blk_alloc ?_ _)); exact BK183.out⟩, ⟨by (try simp only [hl22_5]); (with_reducible repeat (first | refine blk_drewN ?_ _ | refine blk_drew ?_ | refine blk_alloc ?_ _)); refine blk_put (cs := #[.int .i64 (wrap64 (a7_2 - a7_0)), .int .i64 (wrap64 (a7_3 - a7_1)), .int .i64 a6, u190003]) ?_ 3 _ rfl; (with_reducible repeat (first | refine blk_drewN ?_ _ | refine blk_drew ?_ | refine blk_alloc ?_ _)); exact BK189.out⟩, ⟨q1_⟩⟩
                         ·rw [if_neg c160] at H
                          exact absurd H (by simp)
                     ·rw [if_neg c148] at H
                      have c148b0 : decide (x128_5 < (wrap64 (a7_2 - a7_0))) = false := decide_eq_false c148
                      clear c148
                      have H' := am_ H
                      clear H
                      go_wp2
                      (try simp only [← hl22_5])
                      go_roundg k5
                      case measure => have := HJ8.out; have := HJ48.out; have := HK3.out; have := HK4.out; have := HK5.out; omega
                      case rel => exact ⟨(y200), (wrap64 (x104_4 + 1)), (x190003_5), (u190003), q185_, q181_, ⟨by have := HJ8.out; have := HJ48.out; have := HK3.out; have := HK4.out; have := HK5.out; omega⟩, ⟨q122_⟩, ⟨q118_⟩, ⟨q109_⟩, ⟨q110_⟩, ⟨q111_⟩, ⟨q112_⟩, ⟨q113_⟩, ⟨q114_⟩, ⟨q115_⟩, ⟨q1_⟩⟩
                  ·rw [if_neg c136] at H
                   exact absurd H (by simp)
                 ·rw [if_neg c135] at H
                  exact absurd H (by simp)
               ·rw [if_neg c131] at H
                have c131b0 : decide (x104_4 < (wrap64 (a7_3 - a7_1))) = false := decide_eq_false c131
                clear c131
                simp only [Option.some.injEq, Prod.mk.injEq] at H
                obtain ⟨rfl, rfl, rfl, rfl, rfl⟩ := H
                have hnb166 := NB189_178.out
                have hnc166 := NB178_189.out
                have hnb167 := NB189_179.out
                have hnc167 := NB179_189.out
                have hnb168 := NB189_180.out
                have hnc168 := NB180_189.out
                have hnb169 := NB189_181.out
                have hnc169 := NB181_189.out
                have hnb170 := NB189_182.out
                have hnc170 := NB182_189.out
                have hnb171 := NB189_183.out
                have hnc171 := NB183_189.out
                have hcz172_0 : wr.cell? ⟨gb189, 0, none⟩ = some (.int .i64 (wrap64 (a7_2 - a7_0))) := (blk_cell BK189.out 0).trans rfl
                have hcz172_1 : wr.cell? ⟨gb189, 1, none⟩ = some (.int .i64 (wrap64 (a7_3 - a7_1))) := (blk_cell BK189.out 1).trans rfl
                have hcz172_2 : wr.cell? ⟨gb189, 2, none⟩ = some (.int .i64 a6) := (blk_cell BK189.out 2).trans rfl
                have hcz172_3 : wr.cell? ⟨gb189, 3, none⟩ = some (u190003) := (blk_cell BK189.out 3).trans rfl
                have hfz172_0 := blk_frozen BK189.out 0
                have hfz172_1 := blk_frozen BK189.out 1
                have hfz172_2 := blk_frozen BK189.out 2
                have hfz172_3 := blk_frozen BK189.out 3
                have hnb173 := NB183_178.out
                have hnc173 := NB178_183.out
                have hnb174 := NB183_179.out
                have hnc174 := NB179_183.out
                have hnb175 := NB183_180.out
                have hnc175 := NB180_183.out
                have hnb176 := NB183_181.out
                have hnc176 := NB181_183.out
                have hnb177 := NB183_182.out
                have hnc177 := NB182_183.out
                have hcz178_0 : wr.cell? ⟨gb183, 0, none⟩ = some (.int .i64 0) := (blk_cell BK183.out 0).trans rfl
                have hcz178_1 : wr.cell? ⟨gb183, 1, none⟩ = some (.int .i64 0) := (blk_cell BK183.out 1).trans rfl
                have hcz178_2 : wr.cell? ⟨gb183, 2, none⟩ = some (.int .i64 0) := (blk_cell BK183.out 2).trans rfl
                have hcz178_3 : wr.cell? ⟨gb183, 3, none⟩ = some (.slice none 0 0) := (blk_cell BK183.out 3).trans rfl
                have hfz178_0 := blk_frozen BK183.out 0
                have hfz178_1 := blk_frozen BK183.out 1
                have hfz178_2 := blk_frozen BK183.out 2
                have hfz178_3 := blk_frozen BK183.out 3
                obtain ⟨Ao179, co179, eo179⟩ := Kd.R_slice HO_190003.out
                subst eo179
                go_wp2
                refine bodyPost_ret (results_ct rfl _ _ gb183 35 #[.int .i64 (wrap64 (a7_2 - a7_0)), .int .i64 (wrap64 (a7_3 - a7_1)), .int .i64 a6, .slice Ao179 x190003_4.length co179] (0, 0) _ rfl (by (with_reducible repeat (first | refine blk_drewN ?_ _ | refine blk_drew ?_ | refine blk_alloc ?_ _)); refine blk_put (cs := #[.int .i64 (wrap64 (a7_2 - a7_0)), .int .i64 (wrap64 (a7_3 - a7_1)), .int .i64 a6, .slice none 0 0]) ?_ 3 _ rfl; (with_reducible repeat (first | refine blk_drewN ?_ _ | refine blk_drew ?_ | refine blk_alloc ?_ _)); refine blk_put (cs := #[.int .i64 (wrap64 (a7_2 - a7_0)), .int .i64 (wrap64 (a7_3 - a7_1)), .int .i64 0, .slice none 0 0]) ?_ 2 _ rfl; (with_reducible repeat (first | refine blk_drewN ?_ _ | refine blk_drew ?_ | refine blk_alloc ?_ _)); refine blk_put (cs := #[.int .i64 (wrap64 (a7_2 - a7_0)), .int .i64 0, .int .i64 0, .slice none 0 0]) ?_ 1 _ rfl; (with_reducible repeat (first | refine blk_drewN ?_ _ | refine blk_drew ?_ | refine blk_alloc ?_ _)); refine blk_put (cs := #[.int .i64 0, .int .i64 0, .int .i64 0, .slice none 0 0]) ?_ 0 _ rfl; (with_reducible repeat (first | refine blk_drewN ?_ _ | refine blk_drew ?_ | refine blk_alloc ?_ _)); exact BK183.out) Try.underlying35 rfl (by kernel_rfl)) rfl ?_
                exact ⟨_, q179_, by (with_reducible repeat (first | apply Kd.R_alloc | apply Kd.R_drewN | apply Kd.R_drew)); exact Kd.R_mono (Kd.R_far (p := ⟨gb183, 3, none⟩) (Kd.R_far (p := ⟨gb183, 2, none⟩) (Kd.R_far (p := ⟨gb183, 1, none⟩) (Kd.R_far (p := ⟨gb183, 0, none⟩) (Kd.R_types HO_190003.out BK183.out (by decide)) (fun _ hk => hk.2) (.int .i64 (wrap64 (a7_2 - a7_0)))) (fun _ hk => hk.2) (.int .i64 (wrap64 (a7_3 - a7_1)))) (fun _ hk => hk.2) (.int .i64 a6)) (fun _ hk => hk.2) (.slice Ao179 x190003_4.length co179)) (fun _ hk => trivial), q1_⟩
         ·rw [if_neg c98] at H
          exact absurd H (by simp)
        ·rw [if_neg c97] at H
         exact absurd H (by simp)
    ·rw [if_neg c48] at H
     have c48b0 : (t186 == 0) = false := beq_eq_false_iff_ne.mpr c48
     have c48b1 : (t186 != 0) = true := bne_iff_ne.mpr c48
     simp only [Option.some.injEq, Prod.mk.injEq] at H
     obtain ⟨rfl, rfl, rfl, rfl, rfl⟩ := H
     have hnb180 := NB178_179.out
     have hnc180 := NB179_178.out
     have hnb181 := NB178_180.out
     have hnc181 := NB180_178.out
     have hnb182 := NB178_181.out
     have hnc182 := NB181_178.out
     have hnb183 := NB178_182.out
     have hnc183 := NB182_178.out
     have hnb184 := NB178_183.out
     have hnc184 := NB183_178.out
     have hcz185_0 : wc.cell? ⟨gb178, 0, none⟩ = some (.int .i64 a0_0) := (blk_cell BK178.out 0).trans rfl
     have hcz185_1 : wc.cell? ⟨gb178, 1, none⟩ = some (.int .i64 a0_1) := (blk_cell BK178.out 1).trans rfl
     have hcz185_2 : wc.cell? ⟨gb178, 2, none⟩ = some (.int .i64 a0_2) := (blk_cell BK178.out 2).trans rfl
     have hcz185_3 : wc.cell? ⟨gb178, 3, none⟩ = some (.slice A0_3 l0_3.length c0_3) := (blk_cell BK178.out 3).trans rfl
     have hfz185_0 := blk_frozen BK178.out 0
     have hfz185_1 := blk_frozen BK178.out 1
     have hfz185_2 := blk_frozen BK178.out 2
     have hfz185_3 := blk_frozen BK178.out 3
     have hnb186 := NB180_179.out
     have hnc186 := NB179_180.out
     have hnb187 := NB180_181.out
     have hnc187 := NB181_180.out
     have hnb188 := NB180_182.out
     have hnc188 := NB182_180.out
     have hnb189 := NB180_183.out
     have hnc189 := NB183_180.out
     have hcz190_0 : wc.cell? ⟨gb180, 0, none⟩ = some (.slice A2 l2.length c2) := (blk_cell BK180.out 0).trans rfl
     have hfz190_0 := blk_frozen BK180.out 0
     have hnb191 := NB181_179.out
     have hnc191 := NB179_181.out
     have hnb192 := NB181_182.out
     have hnc192 := NB182_181.out
     have hnb193 := NB181_183.out
     have hnc193 := NB183_181.out
     have hcz194_0 : wc.cell? ⟨gb181, 0, none⟩ = some (.int .i64 a4) := (blk_cell BK181.out 0).trans rfl
     have hfz194_0 := blk_frozen BK181.out 0
     go_wp2_with (first | ((with_reducible refine gate_callee (f := 12) rfl ?_); refine goesL_ (some 47) rfl rfl Try.func12 (by kernel_rfl) rfl #[.int .i64 a0_2, .slice A2 l2.length c2, .slice A3 l3.length c3, .int .i64 a4, .int .i64 a5, .int .i64 a6] rfl q117_ ?_; (with_reducible refine (separable_Check.calls kj8 a0_2 _ _ l2 _ _ l3 a4 a5 a6 t186 _ ?side1 ?side2 ?side3 ?side4 A47.out).mono ?_); (case side1 => repeat (first | exact (Kd.C_below HR2.out HB.out) | (with_reducible refine Kd.C_alloc ?_ _) | (with_reducible refine Kd.C_drewN ?_ _) | (with_reducible refine Kd.C_drew ?_))); (case side2 => exact HC2.out); (case side3 => repeat (first | exact (Kd.C_below HR3.out HB.out) | (with_reducible refine Kd.C_alloc ?_ _) | (with_reducible refine Kd.C_drewN ?_ _) | (with_reducible refine Kd.C_drew ?_))); (case side4 => exact HC3.out); rintro e w195 ⟨rfl, hb⟩; refine ⟨_, rfl, ?_⟩; have n0_ := am_ (blk_below (g := gb178) (o := .cells #[.int .i64 a0_0, .int .i64 a0_1, .int .i64 a0_2, .slice A0_3 l0_3.length c0_3] 35 (0, 0)) q133_ hb); have n1_ := am_ (blk_below (g := gb179) (o := .cells #[.int .i64 a1_0, .int .i64 a1_1] 38 (0, 0)) q134_ hb); have n2_ := am_ (blk_below (g := gb180) (o := .cells #[.slice A2 l2.length c2] 22 (0, 0)) q135_ hb); have n3_ := am_ (blk_below (g := gb181) (o := .cells #[.int .i64 a4] 3 (0, 0)) q136_ hb); have n4_ := am_ (blk_below (g := gb182) (o := .cells #[.int .i64 a7_0, .int .i64 a7_1, .int .i64 a7_2, .int .i64 a7_3] 33 (0, 0)) q137_ hb); have n5_ := am_ (blk_below (g := gb183) (o := .cells #[.int .i64 0, .int .i64 0, .int .i64 0, .slice none 0 0] 35 (0, 0)) q138_ hb); have n6_ := am_ (below_step q4_ hb); clear BK178; clear BK179; clear BK180; clear BK181; clear BK182; clear BK183; clear HB; have BK178 := n0_; have BK179 := n1_; have BK180 := n2_; have BK181 := n3_; have BK182 := n4_; have BK183 := n5_; have HB := n6_; clear n0_ n1_ n2_ n3_ n4_ n5_ n6_; have hnb196 := NB183_179.out; have hnc196 := NB179_183.out; have hnb197 := NB183_182.out; have hnc197 := NB182_183.out; have hcz198_0 : w195.cell? ⟨gb183, 0, none⟩ = some (.int .i64 0) := (blk_cell BK183.out 0).trans rfl; have hcz198_1 : w195.cell? ⟨gb183, 1, none⟩ = some (.int .i64 0) := (blk_cell BK183.out 1).trans rfl; have hcz198_2 : w195.cell? ⟨gb183, 2, none⟩ = some (.int .i64 0) := (blk_cell BK183.out 2).trans rfl; have hcz198_3 : w195.cell? ⟨gb183, 3, none⟩ = some (.slice none 0 0) := (blk_cell BK183.out 3).trans rfl; have hfz198_0 := blk_frozen BK183.out 0; have hfz198_1 := blk_frozen BK183.out 1; have hfz198_2 := blk_frozen BK183.out 2; have hfz198_3 := blk_frozen BK183.out 3))
     refine bodyPost_ret (results_ct rfl _ _ gb183 35 #[.int .i64 0, .int .i64 0, .int .i64 0, .slice none 0 0] (0, 0) _ rfl q0_ Try.underlying35 rfl (by kernel_rfl)) rfl ?_
     exact ⟨_, q179_, q116_, q4_⟩

end Go.Proofs.Ytcfllciehmgikaa.PSeparableTurns
