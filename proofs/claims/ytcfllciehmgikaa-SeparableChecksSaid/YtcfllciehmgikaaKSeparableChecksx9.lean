-- Written by a program of the session (wip/tools/pack.py): the printed texts, pruned; checked by Lean.
import Derived.Test.YtcfllciehmgikaaKSeparableChecksa
import Derived.Test.YtcfllciehmgikaaKSeparableChecksx0
import Derived.Test.YtcfllciehmgikaaKSeparableChecksx3
import Derived.Test.YtcfllciehmgikaaKSeparableChecksx5
import Derived.Test.YtcfllciehmgikaaKSeparableChecksx6
import Derived.Test.YtcfllciehmgikaaKSeparableChecksx7
import Derived.Test.YtcfllciehmgikaaKSeparableChecksx8
namespace Go.Proofs.Ytcfllciehmgikaa.PSeparableChecks
open Go.RowKit Go.Proofs.YtcfllciehmgikaaW.PrintWords Go.Proofs.YtcfllciehmgikaaW.PrintLast Go.Proofs.YtcfllciehmgikaaW.PrintMore
attribute [local go_sem] max2_int min2_int max_two min_two max_three min_three max_four min_four   -- for this text's walks alone
set_option linter.unusedVariables false
set_option linter.unusedSimpArgs false
section
open Go Kd
variable {P : Program} {ops : Array Oper} {Q : Exit → Act → World → Prop}
theorem goesR_ {oi : Oper} {N : Option Tmp} {a : Act} {w : World} {K : Act → World → Prop} {f : FuncId} {fn : Func} {t : Tmp} {as_ : Array Operand} {ts : Array TypeId} (hf : P.funcs[f]? = some fn) (hname : (fn.name == "runtime.NumGoroutine") = false) (hb : fn.body.isSome = true) (args caps all : Array Value)
  (hw : Region.wanted oi (yielded ops a.tmps) = true) (hN : oi.dst = N) (hop : oi.op = .call { callee := .value (.tmp t), args := as_, argTypes := ts }) (hc : a.eval (.tmp t) = .func (.func f) #[] caps) (hargs : as_.map a.eval = args) (hall : args ++ caps = all)
  (h : Calls P f all w fun e w' => ∃ v, e = .returned v ∧ K (a.put N v) w') : if Region.wanted oi (yielded ops a.tmps) = true then Oper.wp P oi a w K Q else K (a.put N undef) w := by
 refine call_ f all hw hN ?_ h
 have he := enters_ hf hname hb all w
 unfold execOp
 simp only [hop, resolve, Deferred.ofValue, hc, hargs, Sem.run_bind, Sem.run_pure]
 simp [invoke, hall, he]
end
mutual
def separable_Tile.j0 : Nat → List Int → Int → Int → Bool → Int → Int → Int → List Int → Int → Int → List Int → Int → Int → Int → Int → Int → Option (Int × Int × Int × List Int × Int)
 | 0, _, _, _, _, _, _, _, _, _, _, _, _, _, _, _, _ => none
 | k + 1, x3, x5, x6, x38, x207000, x207001, x207002, x207003, x208000, x208001, x209000, x210000, x211000, x211001, x211002, x211003 => if x38 = true then (some (0, 0, 0, ([] : List Int), 1)) else ((separable_Check.f k x207002 x209000 x3 x210000 x5 x6).bind fun t214 => (if t214 = 0 then ((rect_Empty.f x211000 x211001 x211002 x211003).bind fun t215 => (if t215 = true then (separable_Tile.j1 k x3 x5 x6 true x207000 x207001 x207002 x207003 x208000 x208001 x209000 x210000 x211000 x211001 x211002 x211003) else ((rect_Inside.f k x211000 x211001 x211002 x211003 0 0 x207000 x207001).bind fun t216 => (separable_Tile.j1 k x3 x5 x6 (!t216) x207000 x207001 x207002 x207003 x208000 x208001 x209000 x210000 x211000 x211001 x211002 x211003)))) else (some (0, 0, 0, ([] : List Int), t214))))
def separable_Tile.j1 : Nat → List Int → Int → Int → Bool → Int → Int → Int → List Int → Int → Int → List Int → Int → Int → Int → Int → Int → Option (Int × Int × Int × List Int × Int)
 | 0, _, _, _, _, _, _, _, _, _, _, _, _, _, _, _, _ => none
 | k + 1, x3, x5, x6, x63, x207000, x207001, x207002, x207003, x208000, x208001, x209000, x210000, x211000, x211001, x211002, x211003 => if x63 = true then (some (0, 0, 0, ([] : List Int), 8)) else (if 0 ≤ (x3.length : Int) then (if ((x3.length : Int) : Int).toNat ≤ 11728124029610 then (separable_Tile.l0 k x3 x5 x6 (wrap64 (x211001 - (wrap64 ((x3.length : Int) / 2)))) (List.replicate ((x3.length : Int) : Int).toNat []) (wrap64 ((x3.length : Int) - 1)) 0 x207000 x207001 x207002 x207003 x208000 x208001 x209000 x210000 x211000 x211001 x211002 x211003 (wrap64 (x211002 - x211000)) (wrap64 (x211003 - x211001)) x6) else (none)) else (none))
def separable_Tile.l0 : Nat → List Int → Int → Int → Int → List (List Int) → Int → Int → Int → Int → Int → List Int → Int → Int → List Int → Int → Int → Int → Int → Int → Int → Int → Int → Option (Int × Int × Int × List Int × Int)
 | 0, _, _, _, _, _, _, _, _, _, _, _, _, _, _, _, _, _, _, _, _, _, _ => none
 | k + 1, x3, x5, x6, x21, x22, x89, x90, x207000, x207001, x207002, x207003, x208000, x208001, x209000, x210000, x211000, x211001, x211002, x211003, x218000, x218001, x218002 => if x90 < x89 then ((separable_Tile_1.f k (wrap64 (x21 + x90)) x211000 x211001 x211002 x211003 x209000 x207000 x207001 x207002 x207003 x208000 x208001 x210000).bind fun t221 => (if 0 ≤ x90 then (if x90 < (x22.length : Int) then (separable_Tile.l0 k x3 x5 x6 x21 (x22.set (x90 : Int).toNat t221) x89 (wrap64 (x90 + 1)) x207000 x207001 x207002 x207003 x208000 x208001 x209000 x210000 x211000 x211001 x211002 x211003 x218000 x218001 x218002) else (none)) else (none))) else (separable_Tile.l1 k x3 x5 x6 x21 x22 x218001 0 x207000 x207001 x207002 x207003 x208000 x208001 x209000 x210000 x211000 x211001 x211002 x211003 x218000 x218001 x218002 ([] : List Int))
def separable_Tile.l1 : Nat → List Int → Int → Int → Int → List (List Int) → Int → Int → Int → Int → Int → List Int → Int → Int → List Int → Int → Int → Int → Int → Int → Int → Int → Int → List Int → Option (Int × Int × Int × List Int × Int)
 | 0, _, _, _, _, _, _, _, _, _, _, _, _, _, _, _, _, _, _, _, _, _, _, _ => none
 | k + 1, x3, x5, x6, x21, x22, x103, x104, x207000, x207001, x207002, x207003, x208000, x208001, x209000, x210000, x211000, x211001, x211002, x211003, x218000, x218001, x218002, x218003 => if x104 < x103 then (if (x3.length : Int) = 0 then (none) else ((separable_Tile_1.f k (wrap64 ((wrap64 ((wrap64 (x21 + x104)) + (x3.length : Int))) - 1)) x211000 x211001 x211002 x211003 x209000 x207000 x207001 x207002 x207003 x208000 x208001 x210000).bind fun t225 => (if 0 ≤ (Int.tmod (wrap64 ((wrap64 (x104 + (x3.length : Int))) - 1)) (x3.length : Int)) then (if (Int.tmod (wrap64 ((wrap64 (x104 + (x3.length : Int))) - 1)) (x3.length : Int)) < (x22.length : Int) then (separable_Tile.l2 k x3 x5 x6 x21 (x22.set ((Int.tmod (wrap64 ((wrap64 (x104 + (x3.length : Int))) - 1)) (x3.length : Int)) : Int).toNat t225) x104 x103 x104 x218000 0 x207000 x207001 x207002 x207003 x208000 x208001 x209000 x210000 x211000 x211001 x211002 x211003 x218000 x218001 x218002 x218003) else (none)) else (none)))) else (some (x218000, x218001, x218002, x218003, 0))
def separable_Tile.l2 : Nat → List Int → Int → Int → Int → List (List Int) → Int → Int → Int → Int → Int → Int → Int → Int → List Int → Int → Int → List Int → Int → Int → Int → Int → Int → Int → Int → Int → List Int → Option (Int × Int × Int × List Int × Int)
 | 0, _, _, _, _, _, _, _, _, _, _, _, _, _, _, _, _, _, _, _, _, _, _, _, _, _, _ => none
 | k + 1, x3, x5, x6, x21, x22, x24, x103, x104, x127, x128, x207000, x207001, x207002, x207003, x208000, x208001, x209000, x210000, x211000, x211001, x211002, x211003, x218000, x218001, x218002, x218003 => if x128 < x127 then (separable_Tile.l3 k x3 x5 x6 x21 x22 x24 x128 0 x103 x104 x127 x128 x3 (x3.length : Int) 0 x207000 x207001 x207002 x207003 x208000 x208001 x209000 x210000 x211000 x211001 x211002 x211003 x218000 x218001 x218002 x218003) else (separable_Tile.l1 k x3 x5 x6 x21 x22 x103 (wrap64 (x104 + 1)) x207000 x207001 x207002 x207003 x208000 x208001 x209000 x210000 x211000 x211001 x211002 x211003 x218000 x218001 x218002 x218003)
def separable_Tile.l3 : Nat → List Int → Int → Int → Int → List (List Int) → Int → Int → Int → Int → Int → Int → Int → List Int → Int → Int → Int → Int → Int → List Int → Int → Int → List Int → Int → Int → Int → Int → Int → Int → Int → Int → List Int → Option (Int × Int × Int × List Int × Int)
 | 0, _, _, _, _, _, _, _, _, _, _, _, _, _, _, _, _, _, _, _, _, _, _, _, _, _, _, _, _, _, _, _ => none
 | k + 1, x3, x5, x6, x21, x22, x24, x25, x26, x103, x104, x127, x128, x131, x132, x133, x207000, x207001, x207002, x207003, x208000, x208001, x209000, x210000, x211000, x211001, x211002, x211003, x218000, x218001, x218002, x218003 => if x133 < x132 then (if 0 ≤ x133 then (if x133 < (x131.length : Int) then (if (x3.length : Int) = 0 then (none) else (if 0 ≤ (Int.tmod (wrap64 (x24 + x133)) (x3.length : Int)) then (if (Int.tmod (wrap64 (x24 + x133)) (x3.length : Int)) < (x22.length : Int) then (if 0 ≤ x25 then (if x25 < ((rd_L1 x22 (Int.tmod (wrap64 (x24 + x133)) (x3.length : Int))).length : Int) then (separable_Tile.l3 k x3 x5 x6 x21 x22 x24 x25 (wrap64 (x26 + (wrap64 ((rd x131 x133) * (rd (rd_L1 x22 (Int.tmod (wrap64 (x24 + x133)) (x3.length : Int))) x25))))) x103 x104 x127 x128 x131 x132 (wrap64 (x133 + 1)) x207000 x207001 x207002 x207003 x208000 x208001 x209000 x210000 x211000 x211001 x211002 x211003 x218000 x218001 x218002 x218003) else (none)) else (none)) else (none)) else (none))) else (none)) else (none)) else ((fixed_Shift.f k x26 x5).bind fun t232 => ((fixed_Clamp.f t232 x6).bind fun t233 => (if x218003.length < 17592186044416 then (separable_Tile.l2 k x3 x5 x6 x21 x22 x24 x103 x104 x127 (wrap64 (x128 + 1)) x207000 x207001 x207002 x207003 x208000 x208001 x209000 x210000 x211000 x211001 x211002 x211003 x218000 x218001 x218002 (x218003 ++ [t233])) else (none))))
end
def separable_Tile.f (k : Nat) (a0_0 : Int) (a0_1 : Int) (a0_2 : Int) (l0_3 : List Int) (a1_0 : Int) (a1_1 : Int) (l2 : List Int) (l3 : List Int) (a4 : Int) (a5 : Int) (a6 : Int) (a7_0 : Int) (a7_1 : Int) (a7_2 : Int) (a7_3 : Int) : Option (Int × Int × Int × List Int × Int) := (plane_Valid.f k a0_0 a0_1 a0_2 l0_3).bind fun t212 => (if t212 = true then ((border_Valid.f k a1_0 a1_1 a0_2).bind fun t213 => (separable_Tile.j0 k l3 a5 a6 (!t213) a0_0 a0_1 a0_2 l0_3 a1_0 a1_1 l2 a4 a7_0 a7_1 a7_2 a7_3)) else (separable_Tile.j0 k l3 a5 a6 true a0_0 a0_1 a0_2 l0_3 a1_0 a1_1 l2 a4 a7_0 a7_1 a7_2 a7_3))
theorem separable_Tile.mono_l : ∀ k, (∀ y0 y1 y2 y3 y4 y5 y6 y7 y8 y9 y10 y11 y12 y13 y14 y15, LeO (separable_Tile.j0 k y0 y1 y2 y3 y4 y5 y6 y7 y8 y9 y10 y11 y12 y13 y14 y15) (separable_Tile.j0 (k + 1) y0 y1 y2 y3 y4 y5 y6 y7 y8 y9 y10 y11 y12 y13 y14 y15)) ∧ (∀ y0 y1 y2 y3 y4 y5 y6 y7 y8 y9 y10 y11 y12 y13 y14 y15, LeO (separable_Tile.j1 k y0 y1 y2 y3 y4 y5 y6 y7 y8 y9 y10 y11 y12 y13 y14 y15) (separable_Tile.j1 (k + 1) y0 y1 y2 y3 y4 y5 y6 y7 y8 y9 y10 y11 y12 y13 y14 y15)) ∧ (∀ y0 y1 y2 y3 y4 y5 y6 y7 y8 y9 y10 y11 y12 y13 y14 y15 y16 y17 y18 y19 y20 y21, LeO (separable_Tile.l0 k y0 y1 y2 y3 y4 y5 y6 y7 y8 y9 y10 y11 y12 y13 y14 y15 y16 y17 y18 y19 y20 y21) (separable_Tile.l0 (k + 1) y0 y1 y2 y3 y4 y5 y6 y7 y8 y9 y10 y11 y12 y13 y14 y15 y16 y17 y18 y19 y20 y21)) ∧ (∀ y0 y1 y2 y3 y4 y5 y6 y7 y8 y9 y10 y11 y12 y13 y14 y15 y16 y17 y18 y19 y20 y21 y22, LeO (separable_Tile.l1 k y0 y1 y2 y3 y4 y5 y6 y7 y8 y9 y10 y11 y12 y13 y14 y15 y16 y17 y18 y19 y20 y21 y22) (separable_Tile.l1 (k + 1) y0 y1 y2 y3 y4 y5 y6 y7 y8 y9 y10 y11 y12 y13 y14 y15 y16 y17 y18 y19 y20 y21 y22)) ∧ (∀ y0 y1 y2 y3 y4 y5 y6 y7 y8 y9 y10 y11 y12 y13 y14 y15 y16 y17 y18 y19 y20 y21 y22 y23 y24 y25, LeO (separable_Tile.l2 k y0 y1 y2 y3 y4 y5 y6 y7 y8 y9 y10 y11 y12 y13 y14 y15 y16 y17 y18 y19 y20 y21 y22 y23 y24 y25) (separable_Tile.l2 (k + 1) y0 y1 y2 y3 y4 y5 y6 y7 y8 y9 y10 y11 y12 y13 y14 y15 y16 y17 y18 y19 y20 y21 y22 y23 y24 y25)) ∧ (∀ y0 y1 y2 y3 y4 y5 y6 y7 y8 y9 y10 y11 y12 y13 y14 y15 y16 y17 y18 y19 y20 y21 y22 y23 y24 y25 y26 y27 y28 y29 y30, LeO (separable_Tile.l3 k y0 y1 y2 y3 y4 y5 y6 y7 y8 y9 y10 y11 y12 y13 y14 y15 y16 y17 y18 y19 y20 y21 y22 y23 y24 y25 y26 y27 y28 y29 y30) (separable_Tile.l3 (k + 1) y0 y1 y2 y3 y4 y5 y6 y7 y8 y9 y10 y11 y12 y13 y14 y15 y16 y17 y18 y19 y20 y21 y22 y23 y24 y25 y26 y27 y28 y29 y30))
 | 0 => ⟨fun _ _ _ _ _ _ _ _ _ _ _ _ _ _ _ _ r h => by simp [separable_Tile.j0] at h, fun _ _ _ _ _ _ _ _ _ _ _ _ _ _ _ _ r h => by simp [separable_Tile.j1] at h, fun _ _ _ _ _ _ _ _ _ _ _ _ _ _ _ _ _ _ _ _ _ _ r h => by simp [separable_Tile.l0] at h, fun _ _ _ _ _ _ _ _ _ _ _ _ _ _ _ _ _ _ _ _ _ _ _ r h => by simp [separable_Tile.l1] at h, fun _ _ _ _ _ _ _ _ _ _ _ _ _ _ _ _ _ _ _ _ _ _ _ _ _ _ r h => by simp [separable_Tile.l2] at h, fun _ _ _ _ _ _ _ _ _ _ _ _ _ _ _ _ _ _ _ _ _ _ _ _ _ _ _ _ _ _ _ r h => by simp [separable_Tile.l3] at h⟩
 | k + 1 => by
  obtain ⟨ih0, ih1, ih2, ih3, ih4, ih5⟩ := separable_Tile.mono_l k
  refine ⟨?_, ?_, ?_, ?_, ?_, ?_⟩
  ·intro y0 y1 y2 y3 y4 y5 y6 y7 y8 y9 y10 y11 y12 y13 y14 y15
   unfold separable_Tile.j0
   repeat' first
   | (with_reducible exact ih0 _ _ _ _ _ _ _ _ _ _ _ _ _ _ _ _)
   | (with_reducible exact ih1 _ _ _ _ _ _ _ _ _ _ _ _ _ _ _ _)
   | (with_reducible exact ih2 _ _ _ _ _ _ _ _ _ _ _ _ _ _ _ _ _ _ _ _ _ _)
   | (with_reducible exact ih3 _ _ _ _ _ _ _ _ _ _ _ _ _ _ _ _ _ _ _ _ _ _ _)
   | (with_reducible exact ih4 _ _ _ _ _ _ _ _ _ _ _ _ _ _ _ _ _ _ _ _ _ _ _ _ _ _)
   | (with_reducible exact ih5 _ _ _ _ _ _ _ _ _ _ _ _ _ _ _ _ _ _ _ _ _ _ _ _ _ _ _ _ _ _ _)
   | (with_reducible exact border_Valid.mono _ _ _ _)
   | (with_reducible exact fixed_Shift.mono _ _ _)
   | (with_reducible exact plane_Valid.mono _ _ _ _ _)
   | (with_reducible exact rect_Inside.mono _ _ _ _ _ _ _ _ _)
   | (with_reducible exact separable_Check.mono _ _ _ _ _ _ _)
   | (with_reducible exact separable_Tile_1.mono _ _ _ _ _ _ _ _ _ _ _ _ _ _)
   | (with_reducible exact LeO.refl _)
   | (with_reducible exact LeO.none _)
   | (with_reducible refine LeO.ite ?_ ?_)
   | (with_reducible refine LeO.bind ?_ (fun _ => ?_))
   | exact ih0 _ _ _ _ _ _ _ _ _ _ _ _ _ _ _ _
   | exact ih1 _ _ _ _ _ _ _ _ _ _ _ _ _ _ _ _
   | exact ih2 _ _ _ _ _ _ _ _ _ _ _ _ _ _ _ _ _ _ _ _ _ _
   | exact ih3 _ _ _ _ _ _ _ _ _ _ _ _ _ _ _ _ _ _ _ _ _ _ _
   | exact ih4 _ _ _ _ _ _ _ _ _ _ _ _ _ _ _ _ _ _ _ _ _ _ _ _ _ _
   | exact ih5 _ _ _ _ _ _ _ _ _ _ _ _ _ _ _ _ _ _ _ _ _ _ _ _ _ _ _ _ _ _ _
   | exact border_Valid.mono _ _ _ _
   | exact fixed_Shift.mono _ _ _
   | exact plane_Valid.mono _ _ _ _ _
   | exact rect_Inside.mono _ _ _ _ _ _ _ _ _
   | exact separable_Check.mono _ _ _ _ _ _ _
   | exact separable_Tile_1.mono _ _ _ _ _ _ _ _ _ _ _ _ _ _
   | exact LeO.none _
   | refine LeO.ite ?_ ?_
   | refine LeO.bind ?_ (fun _ => ?_)
  ·intro y0 y1 y2 y3 y4 y5 y6 y7 y8 y9 y10 y11 y12 y13 y14 y15
   unfold separable_Tile.j1
   repeat' first
   | (with_reducible exact ih0 _ _ _ _ _ _ _ _ _ _ _ _ _ _ _ _)
   | (with_reducible exact ih1 _ _ _ _ _ _ _ _ _ _ _ _ _ _ _ _)
   | (with_reducible exact ih2 _ _ _ _ _ _ _ _ _ _ _ _ _ _ _ _ _ _ _ _ _ _)
   | (with_reducible exact ih3 _ _ _ _ _ _ _ _ _ _ _ _ _ _ _ _ _ _ _ _ _ _ _)
   | (with_reducible exact ih4 _ _ _ _ _ _ _ _ _ _ _ _ _ _ _ _ _ _ _ _ _ _ _ _ _ _)
   | (with_reducible exact ih5 _ _ _ _ _ _ _ _ _ _ _ _ _ _ _ _ _ _ _ _ _ _ _ _ _ _ _ _ _ _ _)
   | (with_reducible exact border_Valid.mono _ _ _ _)
   | (with_reducible exact fixed_Shift.mono _ _ _)
   | (with_reducible exact plane_Valid.mono _ _ _ _ _)
   | (with_reducible exact rect_Inside.mono _ _ _ _ _ _ _ _ _)
   | (with_reducible exact separable_Check.mono _ _ _ _ _ _ _)
   | (with_reducible exact separable_Tile_1.mono _ _ _ _ _ _ _ _ _ _ _ _ _ _)
   | (with_reducible exact LeO.refl _)
   | (with_reducible exact LeO.none _)
   | (with_reducible refine LeO.ite ?_ ?_)
   | (with_reducible refine LeO.bind ?_ (fun _ => ?_))
   | exact ih0 _ _ _ _ _ _ _ _ _ _ _ _ _ _ _ _
   | exact ih1 _ _ _ _ _ _ _ _ _ _ _ _ _ _ _ _
   | exact ih2 _ _ _ _ _ _ _ _ _ _ _ _ _ _ _ _ _ _ _ _ _ _
   | exact ih3 _ _ _ _ _ _ _ _ _ _ _ _ _ _ _ _ _ _ _ _ _ _ _
   | exact ih4 _ _ _ _ _ _ _ _ _ _ _ _ _ _ _ _ _ _ _ _ _ _ _ _ _ _
   | exact ih5 _ _ _ _ _ _ _ _ _ _ _ _ _ _ _ _ _ _ _ _ _ _ _ _ _ _ _ _ _ _ _
   | exact border_Valid.mono _ _ _ _
   | exact fixed_Shift.mono _ _ _
   | exact plane_Valid.mono _ _ _ _ _
   | exact rect_Inside.mono _ _ _ _ _ _ _ _ _
   | exact separable_Check.mono _ _ _ _ _ _ _
   | exact separable_Tile_1.mono _ _ _ _ _ _ _ _ _ _ _ _ _ _
   | exact LeO.none _
   | refine LeO.ite ?_ ?_
   | refine LeO.bind ?_ (fun _ => ?_)
  ·intro y0 y1 y2 y3 y4 y5 y6 y7 y8 y9 y10 y11 y12 y13 y14 y15 y16 y17 y18 y19 y20 y21
   unfold separable_Tile.l0
   repeat' first
   | (with_reducible exact ih0 _ _ _ _ _ _ _ _ _ _ _ _ _ _ _ _)
   | (with_reducible exact ih1 _ _ _ _ _ _ _ _ _ _ _ _ _ _ _ _)
   | (with_reducible exact ih2 _ _ _ _ _ _ _ _ _ _ _ _ _ _ _ _ _ _ _ _ _ _)
   | (with_reducible exact ih3 _ _ _ _ _ _ _ _ _ _ _ _ _ _ _ _ _ _ _ _ _ _ _)
   | (with_reducible exact ih4 _ _ _ _ _ _ _ _ _ _ _ _ _ _ _ _ _ _ _ _ _ _ _ _ _ _)
   | (with_reducible exact ih5 _ _ _ _ _ _ _ _ _ _ _ _ _ _ _ _ _ _ _ _ _ _ _ _ _ _ _ _ _ _ _)
   | (with_reducible exact border_Valid.mono _ _ _ _)
   | (with_reducible exact fixed_Shift.mono _ _ _)
   | (with_reducible exact plane_Valid.mono _ _ _ _ _)
   | (with_reducible exact rect_Inside.mono _ _ _ _ _ _ _ _ _)
   | (with_reducible exact separable_Check.mono _ _ _ _ _ _ _)
   | (with_reducible exact separable_Tile_1.mono _ _ _ _ _ _ _ _ _ _ _ _ _ _)
   | (with_reducible exact LeO.refl _)
   | (with_reducible exact LeO.none _)
   | (with_reducible refine LeO.ite ?_ ?_)
   | (with_reducible refine LeO.bind ?_ (fun _ => ?_))
   | exact ih0 _ _ _ _ _ _ _ _ _ _ _ _ _ _ _ _
   | exact ih1 _ _ _ _ _ _ _ _ _ _ _ _ _ _ _ _
   | exact ih2 _ _ _ _ _ _ _ _ _ _ _ _ _ _ _ _ _ _ _ _ _ _
   | exact ih3 _ _ _ _ _ _ _ _ _ _ _ _ _ _ _ _ _ _ _ _ _ _ _
   | exact ih4 _ _ _ _ _ _ _ _ _ _ _ _ _ _ _ _ _ _ _ _ _ _ _ _ _ _
   | exact ih5 _ _ _ _ _ _ _ _ _ _ _ _ _ _ _ _ _ _ _ _ _ _ _ _ _ _ _ _ _ _ _
   | exact border_Valid.mono _ _ _ _
   | exact fixed_Shift.mono _ _ _
   | exact plane_Valid.mono _ _ _ _ _
   | exact rect_Inside.mono _ _ _ _ _ _ _ _ _
   | exact separable_Check.mono _ _ _ _ _ _ _
   | exact separable_Tile_1.mono _ _ _ _ _ _ _ _ _ _ _ _ _ _
   | exact LeO.none _
   | refine LeO.ite ?_ ?_
   | refine LeO.bind ?_ (fun _ => ?_)
  ·intro y0 y1 y2 y3 y4 y5 y6 y7 y8 y9 y10 y11 y12 y13 y14 y15 y16 y17 y18 y19 y20 y21 y22
   unfold separable_Tile.l1
   repeat' first
   | (with_reducible exact ih0 _ _ _ _ _ _ _ _ _ _ _ _ _ _ _ _)
   | (with_reducible exact ih1 _ _ _ _ _ _ _ _ _ _ _ _ _ _ _ _)
   | (with_reducible exact ih2 _ _ _ _ _ _ _ _ _ _ _ _ _ _ _ _ _ _ _ _ _ _)
   | (with_reducible exact ih3 _ _ _ _ _ _ _ _ _ _ _ _ _ _ _ _ _ _ _ _ _ _ _)
   | (with_reducible exact ih4 _ _ _ _ _ _ _ _ _ _ _ _ _ _ _ _ _ _ _ _ _ _ _ _ _ _)
   | (with_reducible exact ih5 _ _ _ _ _ _ _ _ _ _ _ _ _ _ _ _ _ _ _ _ _ _ _ _ _ _ _ _ _ _ _)
   | (with_reducible exact border_Valid.mono _ _ _ _)
   | (with_reducible exact fixed_Shift.mono _ _ _)
   | (with_reducible exact plane_Valid.mono _ _ _ _ _)
   | (with_reducible exact rect_Inside.mono _ _ _ _ _ _ _ _ _)
   | (with_reducible exact separable_Check.mono _ _ _ _ _ _ _)
   | (with_reducible exact separable_Tile_1.mono _ _ _ _ _ _ _ _ _ _ _ _ _ _)
   | (with_reducible exact LeO.refl _)
   | (with_reducible exact LeO.none _)
   | (with_reducible refine LeO.ite ?_ ?_)
   | (with_reducible refine LeO.bind ?_ (fun _ => ?_))
   | exact ih0 _ _ _ _ _ _ _ _ _ _ _ _ _ _ _ _
   | exact ih1 _ _ _ _ _ _ _ _ _ _ _ _ _ _ _ _
   | exact ih2 _ _ _ _ _ _ _ _ _ _ _ _ _ _ _ _ _ _ _ _ _ _
   | exact ih3 _ _ _ _ _ _ _ _ _ _ _ _ _ _ _ _ _ _ _ _ _ _ _
   | exact ih4 _ _ _ _ _ _ _ _ _ _ _ _ _ _ _ _ _ _ _ _ _ _ _ _ _ _
   | exact ih5 _ _ _ _ _ _ _ _ _ _ _ _ _ _ _ _ _ _ _ _ _ _ _ _ _ _ _ _ _ _ _
   | exact border_Valid.mono _ _ _ _
   | exact fixed_Shift.mono _ _ _
   | exact plane_Valid.mono _ _ _ _ _
   | exact rect_Inside.mono _ _ _ _ _ _ _ _ _
   | exact separable_Check.mono _ _ _ _ _ _ _
   | exact separable_Tile_1.mono _ _ _ _ _ _ _ _ _ _ _ _ _ _
   | exact LeO.none _
   | refine LeO.ite ?_ ?_
   | refine LeO.bind ?_ (fun _ => ?_)
  ·intro y0 y1 y2 y3 y4 y5 y6 y7 y8 y9 y10 y11 y12 y13 y14 y15 y16 y17 y18 y19 y20 y21 y22 y23 y24 y25
   unfold separable_Tile.l2
   repeat' first
   | (with_reducible exact ih0 _ _ _ _ _ _ _ _ _ _ _ _ _ _ _ _)
   | (with_reducible exact ih1 _ _ _ _ _ _ _ _ _ _ _ _ _ _ _ _)
   | (with_reducible exact ih2 _ _ _ _ _ _ _ _ _ _ _ _ _ _ _ _ _ _ _ _ _ _)
   | (with_reducible exact ih3 _ _ _ _ _ _ _ _ _ _ _ _ _ _ _ _ _ _ _ _ _ _ _)
   | (with_reducible exact ih4 _ _ _ _ _ _ _ _ _ _ _ _ _ _ _ _ _ _ _ _ _ _ _ _ _ _)
   | (with_reducible exact ih5 _ _ _ _ _ _ _ _ _ _ _ _ _ _ _ _ _ _ _ _ _ _ _ _ _ _ _ _ _ _ _)
   | (with_reducible exact border_Valid.mono _ _ _ _)
   | (with_reducible exact fixed_Shift.mono _ _ _)
   | (with_reducible exact plane_Valid.mono _ _ _ _ _)
   | (with_reducible exact rect_Inside.mono _ _ _ _ _ _ _ _ _)
   | (with_reducible exact separable_Check.mono _ _ _ _ _ _ _)
   | (with_reducible exact separable_Tile_1.mono _ _ _ _ _ _ _ _ _ _ _ _ _ _)
   | (with_reducible exact LeO.refl _)
   | (with_reducible exact LeO.none _)
   | (with_reducible refine LeO.ite ?_ ?_)
   | (with_reducible refine LeO.bind ?_ (fun _ => ?_))
   | exact ih0 _ _ _ _ _ _ _ _ _ _ _ _ _ _ _ _
   | exact ih1 _ _ _ _ _ _ _ _ _ _ _ _ _ _ _ _
   | exact ih2 _ _ _ _ _ _ _ _ _ _ _ _ _ _ _ _ _ _ _ _ _ _
   | exact ih3 _ _ _ _ _ _ _ _ _ _ _ _ _ _ _ _ _ _ _ _ _ _ _
   | exact ih4 _ _ _ _ _ _ _ _ _ _ _ _ _ _ _ _ _ _ _ _ _ _ _ _ _ _
   | exact ih5 _ _ _ _ _ _ _ _ _ _ _ _ _ _ _ _ _ _ _ _ _ _ _ _ _ _ _ _ _ _ _
   | exact border_Valid.mono _ _ _ _
   | exact fixed_Shift.mono _ _ _
   | exact plane_Valid.mono _ _ _ _ _
   | exact rect_Inside.mono _ _ _ _ _ _ _ _ _
   | exact separable_Check.mono _ _ _ _ _ _ _
   | exact separable_Tile_1.mono _ _ _ _ _ _ _ _ _ _ _ _ _ _
   | exact LeO.none _
   | refine LeO.ite ?_ ?_
   | refine LeO.bind ?_ (fun _ => ?_)
  ·intro y0 y1 y2 y3 y4 y5 y6 y7 y8 y9 y10 y11 y12 y13 y14 y15 y16 y17 y18 y19 y20 y21 y22 y23 y24 y25 y26 y27 y28 y29 y30
   unfold separable_Tile.l3
   repeat' first
   | (with_reducible exact ih0 _ _ _ _ _ _ _ _ _ _ _ _ _ _ _ _)
   | (with_reducible exact ih1 _ _ _ _ _ _ _ _ _ _ _ _ _ _ _ _)
   | (with_reducible exact ih2 _ _ _ _ _ _ _ _ _ _ _ _ _ _ _ _ _ _ _ _ _ _)
   | (with_reducible exact ih3 _ _ _ _ _ _ _ _ _ _ _ _ _ _ _ _ _ _ _ _ _ _ _)
   | (with_reducible exact ih4 _ _ _ _ _ _ _ _ _ _ _ _ _ _ _ _ _ _ _ _ _ _ _ _ _ _)
   | (with_reducible exact ih5 _ _ _ _ _ _ _ _ _ _ _ _ _ _ _ _ _ _ _ _ _ _ _ _ _ _ _ _ _ _ _)
   | (with_reducible exact border_Valid.mono _ _ _ _)
   | (with_reducible exact fixed_Shift.mono _ _ _)
   | (with_reducible exact plane_Valid.mono _ _ _ _ _)
   | (with_reducible exact rect_Inside.mono _ _ _ _ _ _ _ _ _)
   | (with_reducible exact separable_Check.mono _ _ _ _ _ _ _)
   | (with_reducible exact separable_Tile_1.mono _ _ _ _ _ _ _ _ _ _ _ _ _ _)
   | (with_reducible exact LeO.refl _)
   | (with_reducible exact LeO.none _)
   | (with_reducible refine LeO.ite ?_ ?_)
   | (with_reducible refine LeO.bind ?_ (fun _ => ?_))
   | exact ih0 _ _ _ _ _ _ _ _ _ _ _ _ _ _ _ _
   | exact ih1 _ _ _ _ _ _ _ _ _ _ _ _ _ _ _ _
   | exact ih2 _ _ _ _ _ _ _ _ _ _ _ _ _ _ _ _ _ _ _ _ _ _
   | exact ih3 _ _ _ _ _ _ _ _ _ _ _ _ _ _ _ _ _ _ _ _ _ _ _
   | exact ih4 _ _ _ _ _ _ _ _ _ _ _ _ _ _ _ _ _ _ _ _ _ _ _ _ _ _
   | exact ih5 _ _ _ _ _ _ _ _ _ _ _ _ _ _ _ _ _ _ _ _ _ _ _ _ _ _ _ _ _ _ _
   | exact border_Valid.mono _ _ _ _
   | exact fixed_Shift.mono _ _ _
   | exact plane_Valid.mono _ _ _ _ _
   | exact rect_Inside.mono _ _ _ _ _ _ _ _ _
   | exact separable_Check.mono _ _ _ _ _ _ _
   | exact separable_Tile_1.mono _ _ _ _ _ _ _ _ _ _ _ _ _ _
   | exact LeO.none _
   | refine LeO.ite ?_ ?_
   | refine LeO.bind ?_ (fun _ => ?_)
theorem separable_Tile.mono : ∀ a0 a1 a2 a3 a4 a5 a6 a7 a8 a9 a10 a11 a12 a13 a14 k, LeO (separable_Tile.f k a0 a1 a2 a3 a4 a5 a6 a7 a8 a9 a10 a11 a12 a13 a14) (separable_Tile.f (k + 1) a0 a1 a2 a3 a4 a5 a6 a7 a8 a9 a10 a11 a12 a13 a14) := by
 intro a0 a1 a2 a3 a4 a5 a6 a7 a8 a9 a10 a11 a12 a13 a14 k
 obtain ⟨ih0, ih1, ih2, ih3, ih4, ih5⟩ := separable_Tile.mono_l k
 unfold separable_Tile.f
 repeat' first
   | (with_reducible exact ih0 _ _ _ _ _ _ _ _ _ _ _ _ _ _ _ _)
   | (with_reducible exact ih1 _ _ _ _ _ _ _ _ _ _ _ _ _ _ _ _)
   | (with_reducible exact ih2 _ _ _ _ _ _ _ _ _ _ _ _ _ _ _ _ _ _ _ _ _ _)
   | (with_reducible exact ih3 _ _ _ _ _ _ _ _ _ _ _ _ _ _ _ _ _ _ _ _ _ _ _)
   | (with_reducible exact ih4 _ _ _ _ _ _ _ _ _ _ _ _ _ _ _ _ _ _ _ _ _ _ _ _ _ _)
   | (with_reducible exact ih5 _ _ _ _ _ _ _ _ _ _ _ _ _ _ _ _ _ _ _ _ _ _ _ _ _ _ _ _ _ _ _)
   | (with_reducible exact border_Valid.mono _ _ _ _)
   | (with_reducible exact fixed_Shift.mono _ _ _)
   | (with_reducible exact plane_Valid.mono _ _ _ _ _)
   | (with_reducible exact rect_Inside.mono _ _ _ _ _ _ _ _ _)
   | (with_reducible exact separable_Check.mono _ _ _ _ _ _ _)
   | (with_reducible exact separable_Tile_1.mono _ _ _ _ _ _ _ _ _ _ _ _ _ _)
   | (with_reducible exact LeO.refl _)
   | (with_reducible exact LeO.none _)
   | (with_reducible refine LeO.ite ?_ ?_)
   | (with_reducible refine LeO.bind ?_ (fun _ => ?_))
   | exact ih0 _ _ _ _ _ _ _ _ _ _ _ _ _ _ _ _
   | exact ih1 _ _ _ _ _ _ _ _ _ _ _ _ _ _ _ _
   | exact ih2 _ _ _ _ _ _ _ _ _ _ _ _ _ _ _ _ _ _ _ _ _ _
   | exact ih3 _ _ _ _ _ _ _ _ _ _ _ _ _ _ _ _ _ _ _ _ _ _ _
   | exact ih4 _ _ _ _ _ _ _ _ _ _ _ _ _ _ _ _ _ _ _ _ _ _ _ _ _ _
   | exact ih5 _ _ _ _ _ _ _ _ _ _ _ _ _ _ _ _ _ _ _ _ _ _ _ _ _ _ _ _ _ _ _
   | exact border_Valid.mono _ _ _ _
   | exact fixed_Shift.mono _ _ _
   | exact plane_Valid.mono _ _ _ _ _
   | exact rect_Inside.mono _ _ _ _ _ _ _ _ _
   | exact separable_Check.mono _ _ _ _ _ _ _
   | exact separable_Tile_1.mono _ _ _ _ _ _ _ _ _ _ _ _ _ _
   | exact LeO.none _
   | refine LeO.ite ?_ ?_
   | refine LeO.bind ?_ (fun _ => ?_)
def separable_Tile.T20 : Bool × List (List Nat × List Nat) := (true, [([], []), ([], []), ([], []), ([2], [2]), ([1, 3], [1, 3]), ([4], [4]), ([], []), ([6], [6]), ([5, 7], [5, 7]), ([], []), ([], []), ([], []), ([10, 11], [10, 11]), ([], []), ([13], [13]), ([12, 14], [12, 14]), ([15], [15]), ([9, 16], [9, 16]), ([0, 8, 0, 1, 2, 3, 4, 5, 6, 7, 8, 9, 10, 11, 12, 13, 14, 15, 16, 17], [0, 8]), ([18, 17, 17, 0, 1, 2, 3, 4, 5, 6, 7, 8, 9, 10, 11, 12, 13, 14, 15, 16, 17], [17, 18])])
def separable_Tile.B20 : List Nat := [0, 0, 0, 4, 14, 30, 0, 64, 254, 0, 0, 0, 3072, 0, 8192, 31744, 64512, 130560, 262143, 524287]
theorem separable_Tile.tab20 : rtab .any (opsOf Try.f20 20) = separable_Tile.T20 := by kernel_rfl
theorem separable_Tile.bits20 : waitsOk separable_Tile.T20.2 separable_Tile.B20 = true := by kernel_rfl
def separable_Tile.T30 : Bool × List (List Nat × List Nat) := (true, [([], []), ([0], [0]), ([], []), ([], []), ([2, 3], [2, 3]), ([], []), ([4, 5, 4], [4, 5]), ([6], [6]), ([1, 7, 6], [1, 7]), ([0, 1, 2, 3, 4, 5, 6, 7, 8], []), ([9, 8, 8, 0, 1, 2, 3, 4, 5, 6, 7, 8], [8, 9])])
def separable_Tile.B30 : List Nat := [0, 1, 0, 0, 12, 0, 60, 124, 255, 511, 1023]
theorem separable_Tile.tab30 : rtab .any (opsOf Try.f20 30) = separable_Tile.T30 := by kernel_rfl
theorem separable_Tile.bits30 : waitsOk separable_Tile.T30.2 separable_Tile.B30 = true := by kernel_rfl
set_option maxHeartbeats 8000000 in
set_option maxRecDepth 100000 in
theorem separable_Tile.calls (k : Nat) (a0_0 : Int) (a0_1 : Int) (a0_2 : Int) (A0_3 : Option Addr) (c0_3 : Nat) (l0_3 : List Int) (a1_0 : Int) (a1_1 : Int) (A2 : Option Addr) (c2 : Nat) (l2 : List Int) (A3 : Option Addr) (c3 : Nat) (l3 : List Int) (a4 : Int) (a5 : Int) (a6 : Int) (a7_0 : Int) (a7_1 : Int) (a7_2 : Int) (a7_3 : Int) (r1 : Int) (r2 : Int) (r3 : Int) (r4 : List Int) (r5 : Int) (w : World) (hr0_3 : Kd.C (Kd.int .i64) w A0_3 l0_3.length l0_3) (hc0_3 : l0_3.length ≤ c0_3) (hr2 : Kd.C (Kd.int .i64) w A2 l2.length l2) (hc2 : l2.length ≤ c2) (hr3 : Kd.C (Kd.int .i64) w A3 l3.length l3) (hc3 : l3.length ≤ c3) (h : separable_Tile.f k a0_0 a0_1 a0_2 l0_3 a1_0 a1_1 l2 l3 a4 a5 a6 a7_0 a7_1 a7_2 a7_3 = some (r1, r2, r3, r4, r5)) :
  Calls Try.prog 20 #[.agg #[.int .i64 a0_0, .int .i64 a0_1, .int .i64 a0_2, .slice A0_3 l0_3.length c0_3], .agg #[.int .i64 a1_0, .int .i64 a1_1], .slice A2 l2.length c2, .slice A3 l3.length c3, .int .i64 a4, .int .i64 a5, .int .i64 a6, .agg #[.int .i64 a7_0, .int .i64 a7_1, .int .i64 a7_2, .int .i64 a7_3]] w fun e w' => ∃ v3_ : Value, e = .returned (.tuple #[.agg #[.int .i64 r1, .int .i64 r2, .int .i64 r3, v3_], .int .i64 r5]) ∧ Kd.R (Kd.int .i64) 3 w' w.heap.size (fun _ => True) v3_ r4 ∧ Below w.heap.size w w' := by
 have hu35 := Try.underlying35
 have hu38 := Try.underlying38
 have hu33 := Try.underlying33
 have HR0_3 := am_ hr0_3
 have HC0_3 := am_ hc0_3
 clear hr0_3 hc0_3
 have HR2 := am_ hr2
 have HC2 := am_ hc2
 clear hr2 hc2
 have HR3 := am_ hr3
 have HC3 := am_ hc3
 clear hr3 hc3
 have HB := am_ (Below.refl w.heap.size w)
 have H : ((plane_Valid.f k a0_0 a0_1 a0_2 l0_3).bind fun t212 => (if t212 = true then ((border_Valid.f k a1_0 a1_1 a0_2).bind fun t213 => (separable_Tile.j0 k l3 a5 a6 (!t213) a0_0 a0_1 a0_2 l0_3 a1_0 a1_1 l2 a4 a7_0 a7_1 a7_2 a7_3)) else (separable_Tile.j0 k l3 a5 a6 true a0_0 a0_1 a0_2 l0_3 a1_0 a1_1 l2 a4 a7_0 a7_1 a7_2 a7_3))) = some (r1, r2, r3, r4, r5) := h
 clear h
 have HC9 := am_ H
 clear H
 go_enter Try.func20, Try.ntmps20
 go_upto_region 1 with (first | ((with_reducible refine gate_dst (N := 8) rfl ?_); refine box_event ?hg (N := 8) ?hd (cs := #[.int .i64 a0_0, .int .i64 a0_1, .int .i64 a0_2, .slice A0_3 l0_3.length c0_3]) (t := 35) ?hr ?_; (case hd => rfl); (case hg => rfl); (case hr => first | (go_simp; done) | (go_simp; rfl)); intro gb206 hg w10 hbox hb; have n0_ := am_ (below_step q62_ hb); have n1_ := am_ (hbox); have n2_ := am_ ((q40_ : w.heap.size ≤ gb206)); have n3_ := am_ ((q40_ : w.heap.size ≤ gb206)); clear HB; have HB := n0_; have BK206 := n1_; have GW206 := n2_; have GE206 := n3_; clear n0_ n1_ n2_ n3_; clear hb hbox hg) | ((with_reducible refine gate_dst (N := 9) rfl ?_); refine box_event ?hg (N := 9) ?hd (cs := #[.int .i64 a1_0, .int .i64 a1_1]) (t := 38) ?hr ?_; (case hd => rfl); (case hg => rfl); (case hr => first | (go_simp; done) | (go_simp; rfl)); intro gb207 hg w11 hbox hb; have n0_ := am_ (blk_below (g := gb206) (o := .cells #[.int .i64 a0_0, .int .i64 a0_1, .int .i64 a0_2, .slice A0_3 l0_3.length c0_3] 35 (0, 0)) q74_ hb); have n1_ := am_ (below_step q47_ hb); have n2_ := am_ (hbox); have n3_ := am_ ((by rw [hg]; exact (below_size q47_) : w.heap.size ≤ gb207)); have n4_ := am_ ((by rw [hg]; exact (below_size q47_) : w.heap.size ≤ gb207)); have n5_ := am_ ((q7_ : gb206 ≠ gb207)); have n6_ := am_ ((q8_ : gb207 ≠ gb206)); clear BK206; clear HB; have BK206 := n0_; have HB := n1_; have BK207 := n2_; have GW207 := n3_; have GE207 := n4_; have NB206_207 := n5_; have NB207_206 := n6_; clear n0_ n1_ n2_ n3_ n4_ n5_ n6_; clear hb hbox hg) | ((with_reducible refine gate_dst (N := 10) rfl ?_); refine box_event ?hg (N := 10) ?hd (cs := #[.slice A2 l2.length c2]) (t := 22) ?hr ?_; (case hd => rfl); (case hg => rfl); (case hr => first | (go_simp; done) | (go_simp; rfl)); intro gb208 hg w12 hbox hb; have n0_ := am_ (blk_below (g := gb206) (o := .cells #[.int .i64 a0_0, .int .i64 a0_1, .int .i64 a0_2, .slice A0_3 l0_3.length c0_3] 35 (0, 0)) q74_ hb); have n1_ := am_ (blk_below (g := gb207) (o := .cells #[.int .i64 a1_0, .int .i64 a1_1] 38 (0, 0)) q75_ hb); have n2_ := am_ (below_step q34_ hb); have n3_ := am_ (hbox); have n4_ := am_ ((by rw [hg]; exact (below_size q34_) : w.heap.size ≤ gb208)); have n5_ := am_ ((by rw [hg]; exact (below_size q34_) : w.heap.size ≤ gb208)); have n6_ := am_ ((q7_ : gb206 ≠ gb208)); have n7_ := am_ ((q8_ : gb208 ≠ gb206)); have n8_ := am_ ((q20_ : gb207 ≠ gb208)); have n9_ := am_ ((q21_ : gb208 ≠ gb207)); clear BK206; clear BK207; clear HB; have BK206 := n0_; have BK207 := n1_; have HB := n2_; have BK208 := n3_; have GW208 := n4_; have GE208 := n5_; have NB206_208 := n6_; have NB208_206 := n7_; have NB207_208 := n8_; have NB208_207 := n9_; clear n0_ n1_ n2_ n3_ n4_ n5_ n6_ n7_ n8_ n9_; clear hb hbox hg) | ((with_reducible refine gate_dst (N := 12) rfl ?_); refine box_event ?hg (N := 12) ?hd (cs := #[.int .i64 a4]) (t := 3) ?hr ?_; (case hd => rfl); (case hg => rfl); (case hr => first | (go_simp; done) | (go_simp; rfl)); intro gb209 hg w13 hbox hb; have n0_ := am_ (blk_below (g := gb206) (o := .cells #[.int .i64 a0_0, .int .i64 a0_1, .int .i64 a0_2, .slice A0_3 l0_3.length c0_3] 35 (0, 0)) q74_ hb); have n1_ := am_ (blk_below (g := gb207) (o := .cells #[.int .i64 a1_0, .int .i64 a1_1] 38 (0, 0)) q75_ hb); have n2_ := am_ (blk_below (g := gb208) (o := .cells #[.slice A2 l2.length c2] 22 (0, 0)) q76_ hb); have n3_ := am_ (below_step q23_ hb); have n4_ := am_ (hbox); have n5_ := am_ ((by rw [hg]; exact (below_size q23_) : w.heap.size ≤ gb209)); have n6_ := am_ ((by rw [hg]; exact (below_size q23_) : w.heap.size ≤ gb209)); have n7_ := am_ ((q7_ : gb206 ≠ gb209)); have n8_ := am_ ((q8_ : gb209 ≠ gb206)); have n9_ := am_ ((q20_ : gb207 ≠ gb209)); have n10_ := am_ ((q21_ : gb209 ≠ gb207)); have n11_ := am_ ((q24_ : gb208 ≠ gb209)); have n12_ := am_ ((q25_ : gb209 ≠ gb208)); clear BK206; clear BK207; clear BK208; clear HB; have BK206 := n0_; have BK207 := n1_; have BK208 := n2_; have HB := n3_; have BK209 := n4_; have GW209 := n5_; have GE209 := n6_; have NB206_209 := n7_; have NB209_206 := n8_; have NB207_209 := n9_; have NB209_207 := n10_; have NB208_209 := n11_; have NB209_208 := n12_; clear n0_ n1_ n2_ n3_ n4_ n5_ n6_ n7_ n8_ n9_ n10_ n11_ n12_; clear hb hbox hg) | ((with_reducible refine gate_dst (N := 15) rfl ?_); refine box_event ?hg (N := 15) ?hd (cs := #[.int .i64 a7_0, .int .i64 a7_1, .int .i64 a7_2, .int .i64 a7_3]) (t := 33) ?hr ?_; (case hd => rfl); (case hg => rfl); (case hr => first | (go_simp; done) | (go_simp; rfl)); intro gb210 hg w14 hbox hb; have n0_ := am_ (blk_below (g := gb206) (o := .cells #[.int .i64 a0_0, .int .i64 a0_1, .int .i64 a0_2, .slice A0_3 l0_3.length c0_3] 35 (0, 0)) q74_ hb); have n1_ := am_ (blk_below (g := gb207) (o := .cells #[.int .i64 a1_0, .int .i64 a1_1] 38 (0, 0)) q75_ hb); have n2_ := am_ (blk_below (g := gb208) (o := .cells #[.slice A2 l2.length c2] 22 (0, 0)) q76_ hb); have n3_ := am_ (blk_below (g := gb209) (o := .cells #[.int .i64 a4] 3 (0, 0)) q77_ hb); have n4_ := am_ (below_step q17_ hb); have n5_ := am_ (hbox); have n6_ := am_ ((by rw [hg]; exact (below_size q17_) : w.heap.size ≤ gb210)); have n7_ := am_ ((by rw [hg]; exact (below_size q17_) : w.heap.size ≤ gb210)); have n8_ := am_ ((q7_ : gb206 ≠ gb210)); have n9_ := am_ ((q8_ : gb210 ≠ gb206)); have n10_ := am_ ((q20_ : gb207 ≠ gb210)); have n11_ := am_ ((q21_ : gb210 ≠ gb207)); have n12_ := am_ ((q24_ : gb208 ≠ gb210)); have n13_ := am_ ((q25_ : gb210 ≠ gb208)); have n14_ := am_ ((q26_ : gb209 ≠ gb210)); have n15_ := am_ ((q27_ : gb210 ≠ gb209)); clear BK206; clear BK207; clear BK208; clear BK209; clear HB; have BK206 := n0_; have BK207 := n1_; have BK208 := n2_; have BK209 := n3_; have HB := n4_; have BK210 := n5_; have GW210 := n6_; have GE210 := n7_; have NB206_210 := n8_; have NB210_206 := n9_; have NB207_210 := n10_; have NB210_207 := n11_; have NB208_210 := n12_; have NB210_208 := n13_; have NB209_210 := n14_; have NB210_209 := n15_; clear n0_ n1_ n2_ n3_ n4_ n5_ n6_ n7_ n8_ n9_ n10_ n11_ n12_ n13_ n14_ n15_; clear hb hbox hg) | ((with_reducible refine gate_dst (N := 16) rfl ?_); refine box_event ?hg (N := 16) ?hd (cs := #[.int .i64 0, .int .i64 0, .int .i64 0, .slice none 0 0]) (t := 35) ?hr ?_; (case hd => rfl); (case hg => rfl); (case hr => first | (go_simp; done) | (go_simp; rfl)); intro gb211 hg w15 hbox hb; have n0_ := am_ (blk_below (g := gb206) (o := .cells #[.int .i64 a0_0, .int .i64 a0_1, .int .i64 a0_2, .slice A0_3 l0_3.length c0_3] 35 (0, 0)) q74_ hb); have n1_ := am_ (blk_below (g := gb207) (o := .cells #[.int .i64 a1_0, .int .i64 a1_1] 38 (0, 0)) q75_ hb); have n2_ := am_ (blk_below (g := gb208) (o := .cells #[.slice A2 l2.length c2] 22 (0, 0)) q76_ hb); have n3_ := am_ (blk_below (g := gb209) (o := .cells #[.int .i64 a4] 3 (0, 0)) q77_ hb); have n4_ := am_ (blk_below (g := gb210) (o := .cells #[.int .i64 a7_0, .int .i64 a7_1, .int .i64 a7_2, .int .i64 a7_3] 33 (0, 0)) q78_ hb); have n5_ := am_ (below_step q3_ hb); have n6_ := am_ (hbox); have n7_ := am_ ((by rw [hg]; exact (below_size q3_) : w.heap.size ≤ gb211)); have n8_ := am_ ((by rw [hg]; exact (below_size q3_) : w.heap.size ≤ gb211)); have n9_ := am_ ((q7_ : gb206 ≠ gb211)); have n10_ := am_ ((q8_ : gb211 ≠ gb206)); have n11_ := am_ ((q20_ : gb207 ≠ gb211)); have n12_ := am_ ((q21_ : gb211 ≠ gb207)); have n13_ := am_ ((q24_ : gb208 ≠ gb211)); have n14_ := am_ ((q25_ : gb211 ≠ gb208)); have n15_ := am_ ((q26_ : gb209 ≠ gb211)); have n16_ := am_ ((q27_ : gb211 ≠ gb209)); have n17_ := am_ ((by rw [hg]; exact Nat.ne_of_lt (blk_lt (g := gb210) (o := .cells #[.int .i64 a7_0, .int .i64 a7_1, .int .i64 a7_2, .int .i64 a7_3] 33 (0, 0)) q78_) : gb210 ≠ gb211)); have n18_ := am_ ((by rw [hg]; exact Nat.ne_of_gt (blk_lt (g := gb210) (o := .cells #[.int .i64 a7_0, .int .i64 a7_1, .int .i64 a7_2, .int .i64 a7_3] 33 (0, 0)) q78_) : gb211 ≠ gb210)); clear BK206; clear BK207; clear BK208; clear BK209; clear BK210; clear HB; have BK206 := n0_; have BK207 := n1_; have BK208 := n2_; have BK209 := n3_; have BK210 := n4_; have HB := n5_; have BK211 := n6_; have GW211 := n7_; have GE211 := n8_; have NB206_211 := n9_; have NB211_206 := n10_; have NB207_211 := n11_; have NB211_207 := n12_; have NB208_211 := n13_; have NB211_208 := n14_; have NB209_211 := n15_; have NB211_209 := n16_; have NB210_211 := n17_; have NB211_210 := n18_; clear n0_ n1_ n2_ n3_ n4_ n5_ n6_ n7_ n8_ n9_ n10_ n11_ n12_ n13_ n14_ n15_ n16_ n17_ n18_; clear hb hbox hg))
 (try simp only [Act.put, List.setIfInBounds_toArray, List.set_cons_zero, List.set_cons_succ])
 go_cut [38] (fun v38 wc => ∃ (kq : Nat) (x38_8 : Bool), v38 = .bool x38_8 ∧ Aside0 (separable_Tile.j0 kq l3 a5 a6 x38_8 a0_0 a0_1 a0_2 l0_3 a1_0 a1_1 l2 a4 a7_0 a7_1 a7_2 a7_3 = some (r1, r2, r3, r4, r5)) ∧ Aside0 (kq ≤ k) ∧ Aside0 (wc.heap[gb206]? = some (.cells #[.int .i64 a0_0, .int .i64 a0_1, .int .i64 a0_2, (.slice A0_3 l0_3.length c0_3)] 35 (0, 0))) ∧ Aside0 (wc.heap[gb207]? = some (.cells #[.int .i64 a1_0, .int .i64 a1_1] 38 (0, 0))) ∧ Aside0 (wc.heap[gb208]? = some (.cells #[(.slice A2 l2.length c2)] 22 (0, 0))) ∧ Aside0 (wc.heap[gb209]? = some (.cells #[.int .i64 a4] 3 (0, 0))) ∧ Aside0 (wc.heap[gb210]? = some (.cells #[.int .i64 a7_0, .int .i64 a7_1, .int .i64 a7_2, .int .i64 a7_3] 33 (0, 0))) ∧ Aside0 (wc.heap[gb211]? = some (.cells #[.int .i64 0, .int .i64 0, .int .i64 0, (.slice none 0 0)] 35 (0, 0))) ∧ Aside0 (Below w.heap.size w wc))
 case first =>
  have H := HC9.out
  clear HC9
  replace H := Option.bind_eq_some_iff.mp H
  obtain ⟨t212, A160, H⟩ := H
  replace H : (if t212 = true then ((border_Valid.f k a1_0 a1_1 a0_2).bind fun t213 => (separable_Tile.j0 k l3 a5 a6 (!t213) a0_0 a0_1 a0_2 l0_3 a1_0 a1_1 l2 a4 a7_0 a7_1 a7_2 a7_3)) else (separable_Tile.j0 k l3 a5 a6 true a0_0 a0_1 a0_2 l0_3 a1_0 a1_1 l2 a4 a7_0 a7_1 a7_2 a7_3)) = some (r1, r2, r3, r4, r5) := H
  have A16 := am_ A160
  clear A160
  by_cases c17 : t212 = true
  ·subst c17
   have H1 : ((border_Valid.f k a1_0 a1_1 a0_2).bind fun t213 => (separable_Tile.j0 k l3 a5 a6 (!t213) a0_0 a0_1 a0_2 l0_3 a1_0 a1_1 l2 a4 a7_0 a7_1 a7_2 a7_3)) = some (r1, r2, r3, r4, r5) := by rw [if_pos rfl] at H; exact H
   clear H
   have H := H1
   clear H1
   replace H := Option.bind_eq_some_iff.mp H
   obtain ⟨t213, A180, H⟩ := H
   replace H : (separable_Tile.j0 k l3 a5 a6 (!t213) a0_0 a0_1 a0_2 l0_3 a1_0 a1_1 l2 a4 a7_0 a7_1 a7_2 a7_3) = some (r1, r2, r3, r4, r5) := H
   have A18 := am_ A180
   clear A180
   have H' := am_ H
   clear H
   have hnb19 := NB206_207.out
   have hnc19 := NB207_206.out
   have hnb20 := NB206_208.out
   have hnc20 := NB208_206.out
   have hnb21 := NB206_209.out
   have hnc21 := NB209_206.out
   have hnb22 := NB206_210.out
   have hnc22 := NB210_206.out
   have hnb23 := NB206_211.out
   have hnc23 := NB211_206.out
   have hcz24_0 : w15.cell? ⟨gb206, 0, none⟩ = some (.int .i64 a0_0) := (blk_cell BK206.out 0).trans rfl
   have hcz24_1 : w15.cell? ⟨gb206, 1, none⟩ = some (.int .i64 a0_1) := (blk_cell BK206.out 1).trans rfl
   have hcz24_2 : w15.cell? ⟨gb206, 2, none⟩ = some (.int .i64 a0_2) := (blk_cell BK206.out 2).trans rfl
   have hcz24_3 : w15.cell? ⟨gb206, 3, none⟩ = some (.slice A0_3 l0_3.length c0_3) := (blk_cell BK206.out 3).trans rfl
   have hfz24_0 := blk_frozen BK206.out 0
   have hfz24_1 := blk_frozen BK206.out 1
   have hfz24_2 := blk_frozen BK206.out 2
   have hfz24_3 := blk_frozen BK206.out 3
   go_wp2_with (first | ((with_reducible refine gate_callee (f := 39) rfl ?_); refine goesL_ (some 30) rfl rfl Try.func39 (by kernel_rfl) rfl #[.agg #[.int .i64 a0_0, .int .i64 a0_1, .int .i64 a0_2, .slice A0_3 l0_3.length c0_3]] rfl q60_ ?_; (with_reducible refine (plane_Valid.calls k a0_0 a0_1 a0_2 _ _ l0_3 true _ ?side1 ?side2 A16.out).mono ?_); (case side1 => repeat (first | exact (Kd.C_below HR0_3.out HB.out) | (with_reducible refine Kd.C_alloc ?_ _) | (with_reducible refine Kd.C_drewN ?_ _) | (with_reducible refine Kd.C_drew ?_))); (case side2 => exact HC0_3.out); rintro e w25 ⟨rfl, hb⟩; refine ⟨_, rfl, ?_⟩; have n0_ := am_ (blk_below (g := gb206) (o := .cells #[.int .i64 a0_0, .int .i64 a0_1, .int .i64 a0_2, .slice A0_3 l0_3.length c0_3] 35 (0, 0)) q74_ hb); have n1_ := am_ (blk_below (g := gb207) (o := .cells #[.int .i64 a1_0, .int .i64 a1_1] 38 (0, 0)) q75_ hb); have n2_ := am_ (blk_below (g := gb208) (o := .cells #[.slice A2 l2.length c2] 22 (0, 0)) q76_ hb); have n3_ := am_ (blk_below (g := gb209) (o := .cells #[.int .i64 a4] 3 (0, 0)) q77_ hb); have n4_ := am_ (blk_below (g := gb210) (o := .cells #[.int .i64 a7_0, .int .i64 a7_1, .int .i64 a7_2, .int .i64 a7_3] 33 (0, 0)) q78_ hb); have n5_ := am_ (blk_below (g := gb211) (o := .cells #[.int .i64 0, .int .i64 0, .int .i64 0, .slice none 0 0] 35 (0, 0)) q79_ hb); have n6_ := am_ (below_step q2_ hb); clear BK206; clear BK207; clear BK208; clear BK209; clear BK210; clear BK211; clear HB; have BK206 := n0_; have BK207 := n1_; have BK208 := n2_; have BK209 := n3_; have BK210 := n4_; have BK211 := n5_; have HB := n6_; clear n0_ n1_ n2_ n3_ n4_ n5_ n6_; have hnb26 := NB207_208.out; have hnc26 := NB208_207.out; have hnb27 := NB207_209.out; have hnc27 := NB209_207.out; have hnb28 := NB207_210.out; have hnc28 := NB210_207.out; have hnb29 := NB207_211.out; have hnc29 := NB211_207.out; have hcz30_0 : w25.cell? ⟨gb207, 0, none⟩ = some (.int .i64 a1_0) := (blk_cell BK207.out 0).trans rfl; have hcz30_1 : w25.cell? ⟨gb207, 1, none⟩ = some (.int .i64 a1_1) := (blk_cell BK207.out 1).trans rfl; have hfz30_0 := blk_frozen BK207.out 0; have hfz30_1 := blk_frozen BK207.out 1; have hcz31_0 : w25.cell? ⟨gb206, 0, none⟩ = some (.int .i64 a0_0) := (blk_cell BK206.out 0).trans rfl; have hcz31_1 : w25.cell? ⟨gb206, 1, none⟩ = some (.int .i64 a0_1) := (blk_cell BK206.out 1).trans rfl; have hcz31_2 : w25.cell? ⟨gb206, 2, none⟩ = some (.int .i64 a0_2) := (blk_cell BK206.out 2).trans rfl; have hcz31_3 : w25.cell? ⟨gb206, 3, none⟩ = some (.slice A0_3 l0_3.length c0_3) := (blk_cell BK206.out 3).trans rfl; have hfz31_0 := blk_frozen BK206.out 0; have hfz31_1 := blk_frozen BK206.out 1; have hfz31_2 := blk_frozen BK206.out 2; have hfz31_3 := blk_frozen BK206.out 3) | (go_at_call 40; (with_reducible refine (border_Valid.calls k a1_0 a1_1 a0_2 t213 _ A18.out).mono ?_); rintro e w32 ⟨rfl, hb⟩; have n0_ := am_ (blk_below (g := gb206) (o := .cells #[.int .i64 a0_0, .int .i64 a0_1, .int .i64 a0_2, .slice A0_3 l0_3.length c0_3] 35 (0, 0)) q74_ hb); have n1_ := am_ (blk_below (g := gb207) (o := .cells #[.int .i64 a1_0, .int .i64 a1_1] 38 (0, 0)) q75_ hb); have n2_ := am_ (blk_below (g := gb208) (o := .cells #[.slice A2 l2.length c2] 22 (0, 0)) q76_ hb); have n3_ := am_ (blk_below (g := gb209) (o := .cells #[.int .i64 a4] 3 (0, 0)) q77_ hb); have n4_ := am_ (blk_below (g := gb210) (o := .cells #[.int .i64 a7_0, .int .i64 a7_1, .int .i64 a7_2, .int .i64 a7_3] 33 (0, 0)) q78_ hb); have n5_ := am_ (blk_below (g := gb211) (o := .cells #[.int .i64 0, .int .i64 0, .int .i64 0, .slice none 0 0] 35 (0, 0)) q79_ hb); have n6_ := am_ (below_step q2_ hb); clear BK206; clear BK207; clear BK208; clear BK209; clear BK210; clear BK211; clear HB; have BK206 := n0_; have BK207 := n1_; have BK208 := n2_; have BK209 := n3_; have BK210 := n4_; have BK211 := n5_; have HB := n6_; clear n0_ n1_ n2_ n3_ n4_ n5_ n6_))
   go_meet
   case rel => exact ⟨_, (!t213), q109_, H', ⟨by first | omega | exact Nat.le_refl _⟩, ⟨q74_⟩, ⟨q75_⟩, ⟨q76_⟩, ⟨q77_⟩, ⟨q78_⟩, ⟨q79_⟩, ⟨q2_⟩⟩
  ·replace c17 := Bool.eq_false_iff.mpr c17
   subst c17
   have H1 : (separable_Tile.j0 k l3 a5 a6 true a0_0 a0_1 a0_2 l0_3 a1_0 a1_1 l2 a4 a7_0 a7_1 a7_2 a7_3) = some (r1, r2, r3, r4, r5) := by rw [if_neg (show ¬ (false = true) by decide)] at H; exact H
   clear H
   have H := H1
   clear H1
   have H' := am_ H
   clear H
   have hnb33 := NB206_207.out
   have hnc33 := NB207_206.out
   have hnb34 := NB206_208.out
   have hnc34 := NB208_206.out
   have hnb35 := NB206_209.out
   have hnc35 := NB209_206.out
   have hnb36 := NB206_210.out
   have hnc36 := NB210_206.out
   have hnb37 := NB206_211.out
   have hnc37 := NB211_206.out
   have hcz38_0 : w15.cell? ⟨gb206, 0, none⟩ = some (.int .i64 a0_0) := (blk_cell BK206.out 0).trans rfl
   have hcz38_1 : w15.cell? ⟨gb206, 1, none⟩ = some (.int .i64 a0_1) := (blk_cell BK206.out 1).trans rfl
   have hcz38_2 : w15.cell? ⟨gb206, 2, none⟩ = some (.int .i64 a0_2) := (blk_cell BK206.out 2).trans rfl
   have hcz38_3 : w15.cell? ⟨gb206, 3, none⟩ = some (.slice A0_3 l0_3.length c0_3) := (blk_cell BK206.out 3).trans rfl
   have hfz38_0 := blk_frozen BK206.out 0
   have hfz38_1 := blk_frozen BK206.out 1
   have hfz38_2 := blk_frozen BK206.out 2
   have hfz38_3 := blk_frozen BK206.out 3
   go_wp2_with (first | ((with_reducible refine gate_callee (f := 39) rfl ?_); refine goesL_ (some 30) rfl rfl Try.func39 (by kernel_rfl) rfl #[.agg #[.int .i64 a0_0, .int .i64 a0_1, .int .i64 a0_2, .slice A0_3 l0_3.length c0_3]] rfl q60_ ?_; (with_reducible refine (plane_Valid.calls k a0_0 a0_1 a0_2 _ _ l0_3 false _ ?side1 ?side2 A16.out).mono ?_); (case side1 => repeat (first | exact (Kd.C_below HR0_3.out HB.out) | (with_reducible refine Kd.C_alloc ?_ _) | (with_reducible refine Kd.C_drewN ?_ _) | (with_reducible refine Kd.C_drew ?_))); (case side2 => exact HC0_3.out); rintro e w39 ⟨rfl, hb⟩; refine ⟨_, rfl, ?_⟩; have n0_ := am_ (blk_below (g := gb206) (o := .cells #[.int .i64 a0_0, .int .i64 a0_1, .int .i64 a0_2, .slice A0_3 l0_3.length c0_3] 35 (0, 0)) q74_ hb); have n1_ := am_ (blk_below (g := gb207) (o := .cells #[.int .i64 a1_0, .int .i64 a1_1] 38 (0, 0)) q75_ hb); have n2_ := am_ (blk_below (g := gb208) (o := .cells #[.slice A2 l2.length c2] 22 (0, 0)) q76_ hb); have n3_ := am_ (blk_below (g := gb209) (o := .cells #[.int .i64 a4] 3 (0, 0)) q77_ hb); have n4_ := am_ (blk_below (g := gb210) (o := .cells #[.int .i64 a7_0, .int .i64 a7_1, .int .i64 a7_2, .int .i64 a7_3] 33 (0, 0)) q78_ hb); have n5_ := am_ (blk_below (g := gb211) (o := .cells #[.int .i64 0, .int .i64 0, .int .i64 0, .slice none 0 0] 35 (0, 0)) q79_ hb); have n6_ := am_ (below_step q2_ hb); clear BK206; clear BK207; clear BK208; clear BK209; clear BK210; clear BK211; clear HB; have BK206 := n0_; have BK207 := n1_; have BK208 := n2_; have BK209 := n3_; have BK210 := n4_; have BK211 := n5_; have HB := n6_; clear n0_ n1_ n2_ n3_ n4_ n5_ n6_))
   go_meet
   case rel => exact ⟨_, (true), q109_, H', ⟨by first | omega | exact Nat.le_refl _⟩, ⟨q74_⟩, ⟨q75_⟩, ⟨q76_⟩, ⟨q77_⟩, ⟨q78_⟩, ⟨q79_⟩, ⟨q2_⟩⟩
 case rest =>
  clear HC9
  try clear c1
  try clear c2
  try clear p2
  try clear c3
  try clear c17
  try clear c19
  try clear c20
  try clear c21
  try clear c22
  try clear c23
  try clear c26
  try clear c27
  try clear c28
  try clear c29
  try clear c33
  try clear c34
  try clear c35
  try clear c36
  try clear c37
  try clear c39
  try clear hcz24_0
  try clear hcz24_1
  try clear hcz24_2
  try clear hcz24_3
  try clear hcz30_0
  try clear hcz30_1
  try clear hcz31_0
  try clear hcz31_1
  try clear hcz31_2
  try clear hcz31_3
  try clear hcz38_0
  try clear hcz38_1
  try clear hcz38_2
  try clear hcz38_3
  try clear hfz24_0
  try clear hfz24_1
  try clear hfz24_2
  try clear hfz24_3
  try clear hfz30_0
  try clear hfz30_1
  try clear hfz31_0
  try clear hfz31_1
  try clear hfz31_2
  try clear hfz31_3
  try clear hfz38_0
  try clear hfz38_1
  try clear hfz38_2
  try clear hfz38_3
  obtain ⟨kq, x38_8, rfl, HA, HJ8, BK206, BK207, BK208, BK209, BK210, BK211, HB⟩ := hcut
  cases kq with
  | zero => exact absurd HA.out (by simp [separable_Tile.j0])
  | succ kj8 =>
   have H := HA.out
   clear HA
   simp only [separable_Tile.j0] at H
   by_cases c40 : x38_8 = true
   ·subst c40
    have H1 : (some (0, 0, 0, ([] : List Int), 1)) = some (r1, r2, r3, r4, r5) := by rw [if_pos rfl] at H; exact H
    clear H
    have H := H1
    clear H1
    simp only [Option.some.injEq, Prod.mk.injEq] at H
    obtain ⟨rfl, rfl, rfl, rfl, rfl⟩ := H
    have hnb41 := NB211_206.out
    have hnc41 := NB206_211.out
    have hnb42 := NB211_207.out
    have hnc42 := NB207_211.out
    have hnb43 := NB211_208.out
    have hnc43 := NB208_211.out
    have hnb44 := NB211_209.out
    have hnc44 := NB209_211.out
    have hnb45 := NB211_210.out
    have hnc45 := NB210_211.out
    have hcz46_0 : wc.cell? ⟨gb211, 0, none⟩ = some (.int .i64 0) := (blk_cell BK211.out 0).trans rfl
    have hcz46_1 : wc.cell? ⟨gb211, 1, none⟩ = some (.int .i64 0) := (blk_cell BK211.out 1).trans rfl
    have hcz46_2 : wc.cell? ⟨gb211, 2, none⟩ = some (.int .i64 0) := (blk_cell BK211.out 2).trans rfl
    have hcz46_3 : wc.cell? ⟨gb211, 3, none⟩ = some (.slice none 0 0) := (blk_cell BK211.out 3).trans rfl
    have hfz46_0 := blk_frozen BK211.out 0
    have hfz46_1 := blk_frozen BK211.out 1
    have hfz46_2 := blk_frozen BK211.out 2
    have hfz46_3 := blk_frozen BK211.out 3
    go_wp2
    refine bodyPost_ret (results_ct rfl _ _ gb211 35 #[.int .i64 0, .int .i64 0, .int .i64 0, .slice none 0 0] (0, 0) _ rfl q0_ Try.underlying35 rfl (by kernel_rfl)) rfl ?_
    exact ⟨_, q103_, q59_, q2_⟩
   ·replace c40 := Bool.eq_false_iff.mpr c40
    subst c40
    have H1 : ((separable_Check.f kj8 a0_2 l2 l3 a4 a5 a6).bind fun t214 => (if t214 = 0 then ((rect_Empty.f a7_0 a7_1 a7_2 a7_3).bind fun t215 => (if t215 = true then (separable_Tile.j1 kj8 l3 a5 a6 true a0_0 a0_1 a0_2 l0_3 a1_0 a1_1 l2 a4 a7_0 a7_1 a7_2 a7_3) else ((rect_Inside.f kj8 a7_0 a7_1 a7_2 a7_3 0 0 a0_0 a0_1).bind fun t216 => (separable_Tile.j1 kj8 l3 a5 a6 (!t216) a0_0 a0_1 a0_2 l0_3 a1_0 a1_1 l2 a4 a7_0 a7_1 a7_2 a7_3)))) else (some (0, 0, 0, ([] : List Int), t214)))) = some (r1, r2, r3, r4, r5) := by rw [if_neg (show ¬ (false = true) by decide)] at H; exact H
    clear H
    have H := H1
    clear H1
    replace H := Option.bind_eq_some_iff.mp H
    obtain ⟨t214, A470, H⟩ := H
    replace H : (if t214 = 0 then ((rect_Empty.f a7_0 a7_1 a7_2 a7_3).bind fun t215 => (if t215 = true then (separable_Tile.j1 kj8 l3 a5 a6 true a0_0 a0_1 a0_2 l0_3 a1_0 a1_1 l2 a4 a7_0 a7_1 a7_2 a7_3) else ((rect_Inside.f kj8 a7_0 a7_1 a7_2 a7_3 0 0 a0_0 a0_1).bind fun t216 => (separable_Tile.j1 kj8 l3 a5 a6 (!t216) a0_0 a0_1 a0_2 l0_3 a1_0 a1_1 l2 a4 a7_0 a7_1 a7_2 a7_3)))) else (some (0, 0, 0, ([] : List Int), t214))) = some (r1, r2, r3, r4, r5) := H
    have A47 := am_ A470
    clear A470
    by_cases c48 : t214 = 0
    ·rw [if_pos c48] at H
     have c48b0 : (t214 == 0) = true := beq_iff_eq.mpr c48
     have c48b1 : (t214 != 0) = false := bne_eq_false_iff_eq.mpr c48
     clear c48
     have HC49 := am_ H
     clear H
     have hnb50 := NB206_207.out
     have hnc50 := NB207_206.out
     have hnb51 := NB206_208.out
     have hnc51 := NB208_206.out
     have hnb52 := NB206_209.out
     have hnc52 := NB209_206.out
     have hnb53 := NB206_210.out
     have hnc53 := NB210_206.out
     have hnb54 := NB206_211.out
     have hnc54 := NB211_206.out
     have hcz55_0 : wc.cell? ⟨gb206, 0, none⟩ = some (.int .i64 a0_0) := (blk_cell BK206.out 0).trans rfl
     have hcz55_1 : wc.cell? ⟨gb206, 1, none⟩ = some (.int .i64 a0_1) := (blk_cell BK206.out 1).trans rfl
     have hcz55_2 : wc.cell? ⟨gb206, 2, none⟩ = some (.int .i64 a0_2) := (blk_cell BK206.out 2).trans rfl
     have hcz55_3 : wc.cell? ⟨gb206, 3, none⟩ = some (.slice A0_3 l0_3.length c0_3) := (blk_cell BK206.out 3).trans rfl
     have hfz55_0 := blk_frozen BK206.out 0
     have hfz55_1 := blk_frozen BK206.out 1
     have hfz55_2 := blk_frozen BK206.out 2
     have hfz55_3 := blk_frozen BK206.out 3
     have hnb56 := NB208_207.out
     have hnc56 := NB207_208.out
     have hnb57 := NB208_209.out
     have hnc57 := NB209_208.out
     have hnb58 := NB208_210.out
     have hnc58 := NB210_208.out
     have hnb59 := NB208_211.out
     have hnc59 := NB211_208.out
     have hcz60_0 : wc.cell? ⟨gb208, 0, none⟩ = some (.slice A2 l2.length c2) := (blk_cell BK208.out 0).trans rfl
     have hfz60_0 := blk_frozen BK208.out 0
     have hnb61 := NB209_207.out
     have hnc61 := NB207_209.out
     have hnb62 := NB209_210.out
     have hnc62 := NB210_209.out
     have hnb63 := NB209_211.out
     have hnc63 := NB211_209.out
     have hcz64_0 : wc.cell? ⟨gb209, 0, none⟩ = some (.int .i64 a4) := (blk_cell BK209.out 0).trans rfl
     have hfz64_0 := blk_frozen BK209.out 0
     go_upto_region 6 with (first | ((with_reducible refine gate_callee (f := 12) rfl ?_); refine goesL_ (some 47) rfl rfl Try.func12 (by kernel_rfl) rfl #[.int .i64 a0_2, .slice A2 l2.length c2, .slice A3 l3.length c3, .int .i64 a4, .int .i64 a5, .int .i64 a6] rfl q60_ ?_; (with_reducible refine (separable_Check.calls kj8 a0_2 _ _ l2 _ _ l3 a4 a5 a6 t214 _ ?side1 ?side2 ?side3 ?side4 A47.out).mono ?_); (case side1 => repeat (first | exact (Kd.C_below HR2.out HB.out) | (with_reducible refine Kd.C_alloc ?_ _) | (with_reducible refine Kd.C_drewN ?_ _) | (with_reducible refine Kd.C_drew ?_))); (case side2 => exact HC2.out); (case side3 => repeat (first | exact (Kd.C_below HR3.out HB.out) | (with_reducible refine Kd.C_alloc ?_ _) | (with_reducible refine Kd.C_drewN ?_ _) | (with_reducible refine Kd.C_drew ?_))); (case side4 => exact HC3.out); rintro e w65 ⟨rfl, hb⟩; refine ⟨_, rfl, ?_⟩; have n0_ := am_ (blk_below (g := gb206) (o := .cells #[.int .i64 a0_0, .int .i64 a0_1, .int .i64 a0_2, .slice A0_3 l0_3.length c0_3] 35 (0, 0)) q74_ hb); have n1_ := am_ (blk_below (g := gb207) (o := .cells #[.int .i64 a1_0, .int .i64 a1_1] 38 (0, 0)) q75_ hb); have n2_ := am_ (blk_below (g := gb208) (o := .cells #[.slice A2 l2.length c2] 22 (0, 0)) q76_ hb); have n3_ := am_ (blk_below (g := gb209) (o := .cells #[.int .i64 a4] 3 (0, 0)) q77_ hb); have n4_ := am_ (blk_below (g := gb210) (o := .cells #[.int .i64 a7_0, .int .i64 a7_1, .int .i64 a7_2, .int .i64 a7_3] 33 (0, 0)) q78_ hb); have n5_ := am_ (blk_below (g := gb211) (o := .cells #[.int .i64 0, .int .i64 0, .int .i64 0, .slice none 0 0] 35 (0, 0)) q79_ hb); have n6_ := am_ (below_step q2_ hb); clear BK206; clear BK207; clear BK208; clear BK209; clear BK210; clear BK211; clear HB; have BK206 := n0_; have BK207 := n1_; have BK208 := n2_; have BK209 := n3_; have BK210 := n4_; have BK211 := n5_; have HB := n6_; clear n0_ n1_ n2_ n3_ n4_ n5_ n6_))
     (try simp only [Act.put, List.setIfInBounds_toArray, List.set_cons_zero, List.set_cons_succ])
     go_cut [63] (fun v63 wc => ∃ (kq : Nat) (x63_48 : Bool), v63 = .bool x63_48 ∧ Aside0 (separable_Tile.j1 kq l3 a5 a6 x63_48 a0_0 a0_1 a0_2 l0_3 a1_0 a1_1 l2 a4 a7_0 a7_1 a7_2 a7_3 = some (r1, r2, r3, r4, r5)) ∧ Aside0 (kq ≤ kj8) ∧ Aside0 (wc.heap[gb206]? = some (.cells #[.int .i64 a0_0, .int .i64 a0_1, .int .i64 a0_2, (.slice A0_3 l0_3.length c0_3)] 35 (0, 0))) ∧ Aside0 (wc.heap[gb207]? = some (.cells #[.int .i64 a1_0, .int .i64 a1_1] 38 (0, 0))) ∧ Aside0 (wc.heap[gb208]? = some (.cells #[(.slice A2 l2.length c2)] 22 (0, 0))) ∧ Aside0 (wc.heap[gb209]? = some (.cells #[.int .i64 a4] 3 (0, 0))) ∧ Aside0 (wc.heap[gb210]? = some (.cells #[.int .i64 a7_0, .int .i64 a7_1, .int .i64 a7_2, .int .i64 a7_3] 33 (0, 0))) ∧ Aside0 (wc.heap[gb211]? = some (.cells #[.int .i64 0, .int .i64 0, .int .i64 0, (.slice none 0 0)] 35 (0, 0))) ∧ Aside0 (Below w.heap.size w wc))
     case first =>
      have H := HC49.out
      clear HC49
      replace H := Option.bind_eq_some_iff.mp H
      obtain ⟨t215, A660, H⟩ := H
      replace H : (if t215 = true then (separable_Tile.j1 kj8 l3 a5 a6 true a0_0 a0_1 a0_2 l0_3 a1_0 a1_1 l2 a4 a7_0 a7_1 a7_2 a7_3) else ((rect_Inside.f kj8 a7_0 a7_1 a7_2 a7_3 0 0 a0_0 a0_1).bind fun t216 => (separable_Tile.j1 kj8 l3 a5 a6 (!t216) a0_0 a0_1 a0_2 l0_3 a1_0 a1_1 l2 a4 a7_0 a7_1 a7_2 a7_3))) = some (r1, r2, r3, r4, r5) := H
      have A66 := am_ A660
      clear A660
      by_cases c67 : t215 = true
      ·subst c67
       have H1 : (separable_Tile.j1 kj8 l3 a5 a6 true a0_0 a0_1 a0_2 l0_3 a1_0 a1_1 l2 a4 a7_0 a7_1 a7_2 a7_3) = some (r1, r2, r3, r4, r5) := by rw [if_pos rfl] at H; exact H
       clear H
       have H := H1
       clear H1
       have H' := am_ H
       clear H
       have hnb68 := NB210_206.out
       have hnc68 := NB206_210.out
       have hnb69 := NB210_207.out
       have hnc69 := NB207_210.out
       have hnb70 := NB210_208.out
       have hnc70 := NB208_210.out
       have hnb71 := NB210_209.out
       have hnc71 := NB209_210.out
       have hnb72 := NB210_211.out
       have hnc72 := NB211_210.out
       have hcz73_0 : w65.cell? ⟨gb210, 0, none⟩ = some (.int .i64 a7_0) := (blk_cell BK210.out 0).trans rfl
       have hcz73_1 : w65.cell? ⟨gb210, 1, none⟩ = some (.int .i64 a7_1) := (blk_cell BK210.out 1).trans rfl
       have hcz73_2 : w65.cell? ⟨gb210, 2, none⟩ = some (.int .i64 a7_2) := (blk_cell BK210.out 2).trans rfl
       have hcz73_3 : w65.cell? ⟨gb210, 3, none⟩ = some (.int .i64 a7_3) := (blk_cell BK210.out 3).trans rfl
       have hfz73_0 := blk_frozen BK210.out 0
       have hfz73_1 := blk_frozen BK210.out 1
       have hfz73_2 := blk_frozen BK210.out 2
       have hfz73_3 := blk_frozen BK210.out 3
       go_wp2_with (first | ((with_reducible refine gate_callee (f := 41) rfl ?_); refine goesL_ (some 53) rfl rfl Try.func41 (by kernel_rfl) rfl #[.agg #[.int .i64 a7_0, .int .i64 a7_1, .int .i64 a7_2, .int .i64 a7_3]] rfl q60_ ?_; (with_reducible refine (rect_Empty.calls a7_0 a7_1 a7_2 a7_3 true _ A66.out).mono ?_); rintro e w74 ⟨rfl, hb⟩; refine ⟨_, rfl, ?_⟩; have n0_ := am_ (blk_below (g := gb206) (o := .cells #[.int .i64 a0_0, .int .i64 a0_1, .int .i64 a0_2, .slice A0_3 l0_3.length c0_3] 35 (0, 0)) q74_ hb); have n1_ := am_ (blk_below (g := gb207) (o := .cells #[.int .i64 a1_0, .int .i64 a1_1] 38 (0, 0)) q75_ hb); have n2_ := am_ (blk_below (g := gb208) (o := .cells #[.slice A2 l2.length c2] 22 (0, 0)) q76_ hb); have n3_ := am_ (blk_below (g := gb209) (o := .cells #[.int .i64 a4] 3 (0, 0)) q77_ hb); have n4_ := am_ (blk_below (g := gb210) (o := .cells #[.int .i64 a7_0, .int .i64 a7_1, .int .i64 a7_2, .int .i64 a7_3] 33 (0, 0)) q78_ hb); have n5_ := am_ (blk_below (g := gb211) (o := .cells #[.int .i64 0, .int .i64 0, .int .i64 0, .slice none 0 0] 35 (0, 0)) q79_ hb); have n6_ := am_ (below_step q2_ hb); clear BK206; clear BK207; clear BK208; clear BK209; clear BK210; clear BK211; clear HB; have BK206 := n0_; have BK207 := n1_; have BK208 := n2_; have BK209 := n3_; have BK210 := n4_; have BK211 := n5_; have HB := n6_; clear n0_ n1_ n2_ n3_ n4_ n5_ n6_))
       go_meet
       case rel => exact ⟨_, (true), q109_, H', ⟨by have := HJ8.out; first | omega | exact Nat.le_refl _⟩, ⟨q74_⟩, ⟨q75_⟩, ⟨q76_⟩, ⟨q77_⟩, ⟨q78_⟩, ⟨q79_⟩, ⟨q2_⟩⟩
      ·replace c67 := Bool.eq_false_iff.mpr c67
       subst c67
       have H1 : ((rect_Inside.f kj8 a7_0 a7_1 a7_2 a7_3 0 0 a0_0 a0_1).bind fun t216 => (separable_Tile.j1 kj8 l3 a5 a6 (!t216) a0_0 a0_1 a0_2 l0_3 a1_0 a1_1 l2 a4 a7_0 a7_1 a7_2 a7_3)) = some (r1, r2, r3, r4, r5) := by rw [if_neg (show ¬ (false = true) by decide)] at H; exact H
       clear H
       have H := H1
       clear H1
       replace H := Option.bind_eq_some_iff.mp H
       obtain ⟨t216, A750, H⟩ := H
       replace H : (separable_Tile.j1 kj8 l3 a5 a6 (!t216) a0_0 a0_1 a0_2 l0_3 a1_0 a1_1 l2 a4 a7_0 a7_1 a7_2 a7_3) = some (r1, r2, r3, r4, r5) := H
       have A75 := am_ A750
       clear A750
       have H' := am_ H
       clear H
       have hnb76 := NB210_206.out
       have hnc76 := NB206_210.out
       have hnb77 := NB210_207.out
       have hnc77 := NB207_210.out
       have hnb78 := NB210_208.out
       have hnc78 := NB208_210.out
       have hnb79 := NB210_209.out
       have hnc79 := NB209_210.out
       have hnb80 := NB210_211.out
       have hnc80 := NB211_210.out
       have hcz81_0 : w65.cell? ⟨gb210, 0, none⟩ = some (.int .i64 a7_0) := (blk_cell BK210.out 0).trans rfl
       have hcz81_1 : w65.cell? ⟨gb210, 1, none⟩ = some (.int .i64 a7_1) := (blk_cell BK210.out 1).trans rfl
       have hcz81_2 : w65.cell? ⟨gb210, 2, none⟩ = some (.int .i64 a7_2) := (blk_cell BK210.out 2).trans rfl
       have hcz81_3 : w65.cell? ⟨gb210, 3, none⟩ = some (.int .i64 a7_3) := (blk_cell BK210.out 3).trans rfl
       have hfz81_0 := blk_frozen BK210.out 0
       have hfz81_1 := blk_frozen BK210.out 1
       have hfz81_2 := blk_frozen BK210.out 2
       have hfz81_3 := blk_frozen BK210.out 3
       go_wp2_with (first | ((with_reducible refine gate_callee (f := 41) rfl ?_); refine goesL_ (some 53) rfl rfl Try.func41 (by kernel_rfl) rfl #[.agg #[.int .i64 a7_0, .int .i64 a7_1, .int .i64 a7_2, .int .i64 a7_3]] rfl q60_ ?_; (with_reducible refine (rect_Empty.calls a7_0 a7_1 a7_2 a7_3 false _ A66.out).mono ?_); rintro e w82 ⟨rfl, hb⟩; refine ⟨_, rfl, ?_⟩; have n0_ := am_ (blk_below (g := gb206) (o := .cells #[.int .i64 a0_0, .int .i64 a0_1, .int .i64 a0_2, .slice A0_3 l0_3.length c0_3] 35 (0, 0)) q74_ hb); have n1_ := am_ (blk_below (g := gb207) (o := .cells #[.int .i64 a1_0, .int .i64 a1_1] 38 (0, 0)) q75_ hb); have n2_ := am_ (blk_below (g := gb208) (o := .cells #[.slice A2 l2.length c2] 22 (0, 0)) q76_ hb); have n3_ := am_ (blk_below (g := gb209) (o := .cells #[.int .i64 a4] 3 (0, 0)) q77_ hb); have n4_ := am_ (blk_below (g := gb210) (o := .cells #[.int .i64 a7_0, .int .i64 a7_1, .int .i64 a7_2, .int .i64 a7_3] 33 (0, 0)) q78_ hb); have n5_ := am_ (blk_below (g := gb211) (o := .cells #[.int .i64 0, .int .i64 0, .int .i64 0, .slice none 0 0] 35 (0, 0)) q79_ hb); have n6_ := am_ (below_step q2_ hb); clear BK206; clear BK207; clear BK208; clear BK209; clear BK210; clear BK211; clear HB; have BK206 := n0_; have BK207 := n1_; have BK208 := n2_; have BK209 := n3_; have BK210 := n4_; have BK211 := n5_; have HB := n6_; clear n0_ n1_ n2_ n3_ n4_ n5_ n6_; have hcz83_0 : w82.cell? ⟨gb210, 0, none⟩ = some (.int .i64 a7_0) := (blk_cell BK210.out 0).trans rfl; have hcz83_1 : w82.cell? ⟨gb210, 1, none⟩ = some (.int .i64 a7_1) := (blk_cell BK210.out 1).trans rfl; have hcz83_2 : w82.cell? ⟨gb210, 2, none⟩ = some (.int .i64 a7_2) := (blk_cell BK210.out 2).trans rfl; have hcz83_3 : w82.cell? ⟨gb210, 3, none⟩ = some (.int .i64 a7_3) := (blk_cell BK210.out 3).trans rfl; have hfz83_0 := blk_frozen BK210.out 0; have hfz83_1 := blk_frozen BK210.out 1; have hfz83_2 := blk_frozen BK210.out 2; have hfz83_3 := blk_frozen BK210.out 3; have hnb84 := NB206_207.out; have hnc84 := NB207_206.out; have hnb85 := NB206_208.out; have hnc85 := NB208_206.out; have hnb86 := NB206_209.out; have hnc86 := NB209_206.out; have hnb87 := NB206_211.out; have hnc87 := NB211_206.out; have hcz88_0 : w82.cell? ⟨gb206, 0, none⟩ = some (.int .i64 a0_0) := (blk_cell BK206.out 0).trans rfl; have hcz88_1 : w82.cell? ⟨gb206, 1, none⟩ = some (.int .i64 a0_1) := (blk_cell BK206.out 1).trans rfl; have hcz88_2 : w82.cell? ⟨gb206, 2, none⟩ = some (.int .i64 a0_2) := (blk_cell BK206.out 2).trans rfl; have hcz88_3 : w82.cell? ⟨gb206, 3, none⟩ = some (.slice A0_3 l0_3.length c0_3) := (blk_cell BK206.out 3).trans rfl; have hfz88_0 := blk_frozen BK206.out 0; have hfz88_1 := blk_frozen BK206.out 1; have hfz88_2 := blk_frozen BK206.out 2; have hfz88_3 := blk_frozen BK206.out 3) | (go_at_call 42; (with_reducible refine (rect_Inside.calls kj8 a7_0 a7_1 a7_2 a7_3 0 0 a0_0 a0_1 t216 _ A75.out).mono ?_); rintro e w89 ⟨rfl, hb⟩; have n0_ := am_ (blk_below (g := gb206) (o := .cells #[.int .i64 a0_0, .int .i64 a0_1, .int .i64 a0_2, .slice A0_3 l0_3.length c0_3] 35 (0, 0)) q74_ hb); have n1_ := am_ (blk_below (g := gb207) (o := .cells #[.int .i64 a1_0, .int .i64 a1_1] 38 (0, 0)) q75_ hb); have n2_ := am_ (blk_below (g := gb208) (o := .cells #[.slice A2 l2.length c2] 22 (0, 0)) q76_ hb); have n3_ := am_ (blk_below (g := gb209) (o := .cells #[.int .i64 a4] 3 (0, 0)) q77_ hb); have n4_ := am_ (blk_below (g := gb210) (o := .cells #[.int .i64 a7_0, .int .i64 a7_1, .int .i64 a7_2, .int .i64 a7_3] 33 (0, 0)) q78_ hb); have n5_ := am_ (blk_below (g := gb211) (o := .cells #[.int .i64 0, .int .i64 0, .int .i64 0, .slice none 0 0] 35 (0, 0)) q79_ hb); have n6_ := am_ (below_step q2_ hb); clear BK206; clear BK207; clear BK208; clear BK209; clear BK210; clear BK211; clear HB; have BK206 := n0_; have BK207 := n1_; have BK208 := n2_; have BK209 := n3_; have BK210 := n4_; have BK211 := n5_; have HB := n6_; clear n0_ n1_ n2_ n3_ n4_ n5_ n6_))
       go_meet
       case rel => exact ⟨_, (!t216), q109_, H', ⟨by have := HJ8.out; first | omega | exact Nat.le_refl _⟩, ⟨q74_⟩, ⟨q75_⟩, ⟨q76_⟩, ⟨q77_⟩, ⟨q78_⟩, ⟨q79_⟩, ⟨q2_⟩⟩
     case rest =>
      clear HC49
      try clear c1
      try clear c2
      try clear p2
      try clear c3
      try clear c4
      try clear c5
      try clear c6
      try clear c7
      try clear c8
      try clear c12
      try clear c17
      try clear c19
      try clear c20
      try clear c21
      try clear c22
      try clear c23
      try clear c26
      try clear c27
      try clear c28
      try clear c29
      try clear c33
      try clear c34
      try clear c35
      try clear c36
      try clear c37
      try clear c39
      try clear c40
      try clear c41
      try clear c42
      try clear c43
      try clear c44
      try clear c45
      try clear c48
      try clear c48b0
      try clear c48b1
      try clear c50
      try clear c51
      try clear c52
      try clear c53
      try clear c54
      try clear c56
      try clear c57
      try clear c58
      try clear c59
      try clear c61
      try clear c62
      try clear c63
      try clear c67
      try clear c68
      try clear c69
      try clear c70
      try clear c71
      try clear c72
      try clear c76
      try clear c77
      try clear c78
      try clear c79
      try clear c80
      try clear c84
      try clear c85
      try clear c86
      try clear c87
      try clear hcz24_0
      try clear hcz24_1
      try clear hcz24_2
      try clear hcz24_3
      try clear hcz30_0
      try clear hcz30_1
      try clear hcz31_0
      try clear hcz31_1
      try clear hcz31_2
      try clear hcz31_3
      try clear hcz38_0
      try clear hcz38_1
      try clear hcz38_2
      try clear hcz38_3
      try clear hcz46_0
      try clear hcz46_1
      try clear hcz46_2
      try clear hcz46_3
      try clear hcz55_0
      try clear hcz55_1
      try clear hcz55_2
      try clear hcz55_3
      try clear hcz60_0
      try clear hcz64_0
      try clear hcz73_0
      try clear hcz73_1
      try clear hcz73_2
      try clear hcz73_3
      try clear hcz81_0
      try clear hcz81_1
      try clear hcz81_2
      try clear hcz81_3
      try clear hcz83_0
      try clear hcz83_1
      try clear hcz83_2
      try clear hcz83_3
      try clear hcz88_0
      try clear hcz88_1
      try clear hcz88_2
      try clear hcz88_3
      try clear hfz24_0
      try clear hfz24_1
      try clear hfz24_2
      try clear hfz24_3
      try clear hfz30_0
      try clear hfz30_1
      try clear hfz31_0
      try clear hfz31_1
      try clear hfz31_2
      try clear hfz31_3
      try clear hfz38_0
      try clear hfz38_1
      try clear hfz38_2
      try clear hfz38_3
      try clear hfz46_0
      try clear hfz46_1
      try clear hfz46_2
      try clear hfz46_3
      try clear hfz55_0
      try clear hfz55_1
      try clear hfz55_2
      try clear hfz55_3
      try clear hfz60_0
      try clear hfz64_0
      try clear hfz73_0
      try clear hfz73_1
      try clear hfz73_2
      try clear hfz73_3
      try clear hfz81_0
      try clear hfz81_1
      try clear hfz81_2
      try clear hfz81_3
      try clear hfz83_0
      try clear hfz83_1
      try clear hfz83_2
      try clear hfz83_3
      try clear hfz88_0
      try clear hfz88_1
      try clear hfz88_2
      try clear hfz88_3
      try clear p2
      obtain ⟨kq, x63_48, rfl, HA, HJ48, BK206, BK207, BK208, BK209, BK210, BK211, HB⟩ := hcut
      cases kq with
      | zero => exact absurd HA.out (by simp [separable_Tile.j1])
      | succ kj48 =>
       have H := HA.out
       clear HA
       simp only [separable_Tile.j1] at H
       by_cases c90 : x63_48 = true
       ·subst c90
        have H1 : (some (0, 0, 0, ([] : List Int), 8)) = some (r1, r2, r3, r4, r5) := by rw [if_pos rfl] at H; exact H
        clear H
        have H := H1
        clear H1
        simp only [Option.some.injEq, Prod.mk.injEq] at H
        obtain ⟨rfl, rfl, rfl, rfl, rfl⟩ := H
        have hnb91 := NB211_206.out
        have hnc91 := NB206_211.out
        have hnb92 := NB211_207.out
        have hnc92 := NB207_211.out
        have hnb93 := NB211_208.out
        have hnc93 := NB208_211.out
        have hnb94 := NB211_209.out
        have hnc94 := NB209_211.out
        have hnb95 := NB211_210.out
        have hnc95 := NB210_211.out
        have hcz96_0 : wc.cell? ⟨gb211, 0, none⟩ = some (.int .i64 0) := (blk_cell BK211.out 0).trans rfl
        have hcz96_1 : wc.cell? ⟨gb211, 1, none⟩ = some (.int .i64 0) := (blk_cell BK211.out 1).trans rfl
        have hcz96_2 : wc.cell? ⟨gb211, 2, none⟩ = some (.int .i64 0) := (blk_cell BK211.out 2).trans rfl
        have hcz96_3 : wc.cell? ⟨gb211, 3, none⟩ = some (.slice none 0 0) := (blk_cell BK211.out 3).trans rfl
        have hfz96_0 := blk_frozen BK211.out 0
        have hfz96_1 := blk_frozen BK211.out 1
        have hfz96_2 := blk_frozen BK211.out 2
        have hfz96_3 := blk_frozen BK211.out 3
        go_wp2
        refine bodyPost_ret (results_ct rfl _ _ gb211 35 #[.int .i64 0, .int .i64 0, .int .i64 0, .slice none 0 0] (0, 0) _ rfl q0_ Try.underlying35 rfl (by kernel_rfl)) rfl ?_
        exact ⟨_, q103_, q59_, q2_⟩
       ·replace c90 := Bool.eq_false_iff.mpr c90
        subst c90
        have H1 : (if 0 ≤ (l3.length : Int) then (if ((l3.length : Int) : Int).toNat ≤ 11728124029610 then (separable_Tile.l0 kj48 l3 a5 a6 (wrap64 (a7_1 - (wrap64 ((l3.length : Int) / 2)))) (List.replicate ((l3.length : Int) : Int).toNat []) (wrap64 ((l3.length : Int) - 1)) 0 a0_0 a0_1 a0_2 l0_3 a1_0 a1_1 l2 a4 a7_0 a7_1 a7_2 a7_3 (wrap64 (a7_2 - a7_0)) (wrap64 (a7_3 - a7_1)) a6) else (none)) else (none)) = some (r1, r2, r3, r4, r5) := by rw [if_neg (show ¬ (false = true) by decide)] at H; exact H
        clear H
        have H := H1
        clear H1
        by_cases c97 : 0 ≤ (l3.length : Int)
        ·rw [if_pos c97] at H
         have c97b0 := eq_true c97
         have c97b1 : decide (0 ≤ (l3.length : Int)) = true := decide_eq_true c97
         clear c97
         by_cases c98 : ((l3.length : Int) : Int).toNat ≤ 11728124029610
         ·rw [if_pos c98] at H
          have c98b0 := eq_true c98
          have c98b1 : decide (((l3.length : Int) : Int).toNat ≤ 11728124029610) = true := decide_eq_true c98
          clear c98
          obtain ⟨y218, hy218⟩ : ∃ y_ : List (List Int), y_ = (List.replicate ((l3.length : Int) : Int).toNat []) := ⟨_, rfl⟩
          replace H : (separable_Tile.l0 kj48 l3 a5 a6 (wrap64 (a7_1 - (wrap64 ((l3.length : Int) / 2)))) y218 (wrap64 ((l3.length : Int) - 1)) 0 a0_0 a0_1 a0_2 l0_3 a1_0 a1_1 l2 a4 a7_0 a7_1 a7_2 a7_3 (wrap64 (a7_2 - a7_0)) (wrap64 (a7_3 - a7_1)) a6) = some (r1, r2, r3, r4, r5) := by first | (rw [hy218]; with_reducible exact H) | (have H2_ := (Option.bind_some _ _).symm.trans H; rw [hy218]; with_reducible exact H2_) | (have H2_ := (Option.bind_some _ _).symm.trans H; with_reducible exact H2_) | with_reducible exact H | (rw [hy218]; exact H) | exact H
          have Ny218 := am_ hy218
          clear hy218
          have H' := am_ H
          clear H
          have hnb99 := NB210_206.out
          have hnc99 := NB206_210.out
          have hnb100 := NB210_207.out
          have hnc100 := NB207_210.out
          have hnb101 := NB210_208.out
          have hnc101 := NB208_210.out
          have hnb102 := NB210_209.out
          have hnc102 := NB209_210.out
          have hnb103 := NB210_211.out
          have hnc103 := NB211_210.out
          have hcz104_0 : wc.cell? ⟨gb210, 0, none⟩ = some (.int .i64 a7_0) := (blk_cell BK210.out 0).trans rfl
          have hcz104_1 : wc.cell? ⟨gb210, 1, none⟩ = some (.int .i64 a7_1) := (blk_cell BK210.out 1).trans rfl
          have hcz104_2 : wc.cell? ⟨gb210, 2, none⟩ = some (.int .i64 a7_2) := (blk_cell BK210.out 2).trans rfl
          have hcz104_3 : wc.cell? ⟨gb210, 3, none⟩ = some (.int .i64 a7_3) := (blk_cell BK210.out 3).trans rfl
          have hfz104_0 := blk_frozen BK210.out 0
          have hfz104_1 := blk_frozen BK210.out 1
          have hfz104_2 := blk_frozen BK210.out 2
          have hfz104_3 := blk_frozen BK210.out 3
          go_wp2_with (first | ((with_reducible refine gate_dst (N := 20) rfl ?_); refine box_event ?hg (N := 20) ?hd (cs := #[.int .i64 0, .int .i64 0, .int .i64 0, .slice none 0 0]) (t := 35) ?hr ?_; (case hd => rfl); (case hg => rfl); (case hr => first | (go_simp; done) | (go_simp; rfl)); intro gb217 hg w105 hbox hb; have n0_ := am_ (blk_below (g := gb206) (o := .cells #[.int .i64 a0_0, .int .i64 a0_1, .int .i64 a0_2, .slice A0_3 l0_3.length c0_3] 35 (0, 0)) q74_ hb); have n1_ := am_ (blk_below (g := gb207) (o := .cells #[.int .i64 a1_0, .int .i64 a1_1] 38 (0, 0)) q75_ hb); have n2_ := am_ (blk_below (g := gb208) (o := .cells #[.slice A2 l2.length c2] 22 (0, 0)) q76_ hb); have n3_ := am_ (blk_below (g := gb209) (o := .cells #[.int .i64 a4] 3 (0, 0)) q77_ hb); have n4_ := am_ (blk_below (g := gb210) (o := .cells #[.int .i64 a7_0, .int .i64 a7_1, .int .i64 a7_2, .int .i64 a7_3] 33 (0, 0)) q78_ hb); have n5_ := am_ (blk_below (g := gb211) (o := .cells #[.int .i64 0, .int .i64 0, .int .i64 0, .slice none 0 0] 35 (0, 0)) q79_ hb); have n6_ := am_ (below_step q2_ hb); have n7_ := am_ (hbox); have n8_ := am_ ((by rw [hg]; exact (below_size q2_) : w.heap.size ≤ gb217)); have n9_ := am_ ((by rw [hg]; exact (below_size q2_) : w.heap.size ≤ gb217)); have n10_ := am_ ((q7_ : gb206 ≠ gb217)); have n11_ := am_ ((q8_ : gb217 ≠ gb206)); have n12_ := am_ ((q20_ : gb207 ≠ gb217)); have n13_ := am_ ((q21_ : gb217 ≠ gb207)); have n14_ := am_ ((q24_ : gb208 ≠ gb217)); have n15_ := am_ ((q25_ : gb217 ≠ gb208)); have n16_ := am_ ((q26_ : gb209 ≠ gb217)); have n17_ := am_ ((q27_ : gb217 ≠ gb209)); have n18_ := am_ ((by rw [hg]; exact Nat.ne_of_lt (blk_lt (g := gb210) (o := .cells #[.int .i64 a7_0, .int .i64 a7_1, .int .i64 a7_2, .int .i64 a7_3] 33 (0, 0)) q78_) : gb210 ≠ gb217)); have n19_ := am_ ((by rw [hg]; exact Nat.ne_of_gt (blk_lt (g := gb210) (o := .cells #[.int .i64 a7_0, .int .i64 a7_1, .int .i64 a7_2, .int .i64 a7_3] 33 (0, 0)) q78_) : gb217 ≠ gb210)); have n20_ := am_ ((by rw [hg]; exact Nat.ne_of_lt (blk_lt (g := gb211) (o := .cells #[.int .i64 0, .int .i64 0, .int .i64 0, .slice none 0 0] 35 (0, 0)) q79_) : gb211 ≠ gb217)); have n21_ := am_ ((by rw [hg]; exact Nat.ne_of_gt (blk_lt (g := gb211) (o := .cells #[.int .i64 0, .int .i64 0, .int .i64 0, .slice none 0 0] 35 (0, 0)) q79_) : gb217 ≠ gb211)); clear BK206; clear BK207; clear BK208; clear BK209; clear BK210; clear BK211; clear HB; have BK206 := n0_; have BK207 := n1_; have BK208 := n2_; have BK209 := n3_; have BK210 := n4_; have BK211 := n5_; have HB := n6_; have BK217 := n7_; have GW217 := n8_; have GE217 := n9_; have NB206_217 := n10_; have NB217_206 := n11_; have NB207_217 := n12_; have NB217_207 := n13_; have NB208_217 := n14_; have NB217_208 := n15_; have NB209_217 := n16_; have NB217_209 := n17_; have NB210_217 := n18_; have NB217_210 := n19_; have NB211_217 := n20_; have NB217_211 := n21_; clear n0_ n1_ n2_ n3_ n4_ n5_ n6_ n7_ n8_ n9_ n10_ n11_ n12_ n13_ n14_ n15_ n16_ n17_ n18_ n19_ n20_ n21_; clear hb hbox hg; have hnb106 := NB217_206.out; have hnc106 := NB206_217.out; have hnb107 := NB217_207.out; have hnc107 := NB207_217.out; have hnb108 := NB217_208.out; have hnc108 := NB208_217.out; have hnb109 := NB217_209.out; have hnc109 := NB209_217.out; have hnb110 := NB217_210.out; have hnc110 := NB210_217.out; have hnb111 := NB217_211.out; have hnc111 := NB211_217.out; have hcz112_0 : w105.cell? ⟨gb217, 0, none⟩ = some (.int .i64 0) := (blk_cell BK217.out 0).trans rfl; have hcz112_1 : w105.cell? ⟨gb217, 1, none⟩ = some (.int .i64 0) := (blk_cell BK217.out 1).trans rfl; have hcz112_2 : w105.cell? ⟨gb217, 2, none⟩ = some (.int .i64 0) := (blk_cell BK217.out 2).trans rfl; have hcz112_3 : w105.cell? ⟨gb217, 3, none⟩ = some (.slice none 0 0) := (blk_cell BK217.out 3).trans rfl; have hfz112_0 := blk_frozen BK217.out 0; have hfz112_1 := blk_frozen BK217.out 1; have hfz112_2 := blk_frozen BK217.out 2; have hfz112_3 := blk_frozen BK217.out 3; have hcz113_0 : w105.cell? ⟨gb210, 0, none⟩ = some (.int .i64 a7_0) := (blk_cell BK210.out 0).trans rfl; have hcz113_1 : w105.cell? ⟨gb210, 1, none⟩ = some (.int .i64 a7_1) := (blk_cell BK210.out 1).trans rfl; have hcz113_2 : w105.cell? ⟨gb210, 2, none⟩ = some (.int .i64 a7_2) := (blk_cell BK210.out 2).trans rfl; have hcz113_3 : w105.cell? ⟨gb210, 3, none⟩ = some (.int .i64 a7_3) := (blk_cell BK210.out 3).trans rfl; have hfz113_0 := blk_frozen BK210.out 0; have hfz113_1 := blk_frozen BK210.out 1; have hfz113_2 := blk_frozen BK210.out 2; have hfz113_3 := blk_frozen BK210.out 3) | ((with_reducible refine gate_dst (N := 86) rfl ?_); refine Kd.N_make (Kd.slice 3 (Kd.int .i64)) _ 22 rfl (N' := 86) rfl 67 _ _ rfl (l3.length : Int) rfl rfl Try.underlying67 (.slice none 0 0) 24 info22 rfl (by decide) (by omega) [] (ok := fun k_ => w105.heap.size ≤ k_) (okp := fun _ => False) (Kd.FK_slice_mk (Nat.le_refl _) (Kd.F_nil _ _ _)) (fun _ hk => hk.elim) (by first | exact Nat.le_refl _ | (simp [World.setCell]; done)) (of_decide_eq_true q108_) (Nat.le_trans (Nat.mul_le_mul_right _ (of_decide_eq_true q108_ : (l3.length : Int).toNat ≤ 11728124029610)) (by omega)) (Below.refl _ _) (Nat.le_refl _) ?_; intro v219 w114 ho115 hb hg_ hnew_; clear hg_ hnew_; (first | rw [← Ny218.out] at ho115 | (simp only [Int.reduceToNat] at ho115; rw [← Ny218.out] at ho115)); have n0_ := am_ (Kd.N_lower (Kd.N_mono (ok' := fun k_ => k_ ≠ gb206 ∧ k_ ≠ gb207 ∧ k_ ≠ gb208 ∧ k_ ≠ gb209 ∧ k_ ≠ gb210 ∧ k_ ≠ gb211 ∧ k_ ≠ gb217) ho115 (fun k_ hk_ => ⟨(Kd.freshB (g := gb206) (by first | exact BK206.out | ((with_reducible repeat (first | refine blk_drewN ?_ _ | refine blk_drew ?_ | refine blk_alloc ?_ _)); refine blk_far ?_ NB206_217.out _; (with_reducible repeat (first | refine blk_drewN ?_ _ | refine blk_drew ?_ | refine blk_alloc ?_ _)); refine blk_far ?_ NB206_217.out _; (with_reducible repeat (first | refine blk_drewN ?_ _ | refine blk_drew ?_ | refine blk_alloc ?_ _)); refine blk_far ?_ NB206_217.out _; (with_reducible repeat (first | refine blk_drewN ?_ _ | refine blk_drew ?_ | refine blk_alloc ?_ _)); refine blk_far ?_ NB206_217.out _; (with_reducible repeat (first | refine blk_drewN ?_ _ | refine blk_drew ?_ | refine blk_alloc ?_ _)); exact BK206.out)) k_ hk_), (Kd.freshB (g := gb207) (by first | exact BK207.out | ((with_reducible repeat (first | refine blk_drewN ?_ _ | refine blk_drew ?_ | refine blk_alloc ?_ _)); refine blk_far ?_ NB207_217.out _; (with_reducible repeat (first | refine blk_drewN ?_ _ | refine blk_drew ?_ | refine blk_alloc ?_ _)); refine blk_far ?_ NB207_217.out _; (with_reducible repeat (first | refine blk_drewN ?_ _ | refine blk_drew ?_ | refine blk_alloc ?_ _)); refine blk_far ?_ NB207_217.out _; (with_reducible repeat (first | refine blk_drewN ?_ _ | refine blk_drew ?_ | refine blk_alloc ?_ _)); refine blk_far ?_ NB207_217.out _; (with_reducible repeat (first | refine blk_drewN ?_ _ | refine blk_drew ?_ | refine blk_alloc ?_ _)); exact BK207.out)) k_ hk_), (Kd.freshB (g := gb208) (by first | exact BK208.out | ((with_reducible repeat (first | refine blk_drewN ?_ _ | refine blk_drew ?_ | refine blk_alloc ?_ _)); refine blk_far ?_ NB208_217.out _; (with_reducible repeat (first | refine blk_drewN ?_ _ | refine blk_drew ?_ | refine blk_alloc ?_ _)); refine blk_far ?_ NB208_217.out _; (with_reducible repeat (first | refine blk_drewN ?_ _ | refine blk_drew ?_ | refine blk_alloc ?_ _)); refine blk_far ?_ NB208_217.out _; (with_reducible repeat (first | refine blk_drewN ?_ _ | refine blk_drew ?_ | refine blk_alloc ?_ _)); refine blk_far ?_ NB208_217.out _; (with_reducible repeat (first | refine blk_drewN ?_ _ | refine blk_drew ?_ | refine blk_alloc ?_ _)); exact BK208.out)) k_ hk_), (Kd.freshB (g := gb209) (by first | exact BK209.out | ((with_reducible repeat (first | refine blk_drewN ?_ _ | refine blk_drew ?_ | refine blk_alloc ?_ _)); refine blk_far ?_ NB209_217.out _; (with_reducible repeat (first | refine blk_drewN ?_ _ | refine blk_drew ?_ | refine blk_alloc ?_ _)); refine blk_far ?_ NB209_217.out _; (with_reducible repeat (first | refine blk_drewN ?_ _ | refine blk_drew ?_ | refine blk_alloc ?_ _)); refine blk_far ?_ NB209_217.out _; (with_reducible repeat (first | refine blk_drewN ?_ _ | refine blk_drew ?_ | refine blk_alloc ?_ _)); refine blk_far ?_ NB209_217.out _; (with_reducible repeat (first | refine blk_drewN ?_ _ | refine blk_drew ?_ | refine blk_alloc ?_ _)); exact BK209.out)) k_ hk_), (Kd.freshB (g := gb210) (by first | exact BK210.out | ((with_reducible repeat (first | refine blk_drewN ?_ _ | refine blk_drew ?_ | refine blk_alloc ?_ _)); refine blk_far ?_ NB210_217.out _; (with_reducible repeat (first | refine blk_drewN ?_ _ | refine blk_drew ?_ | refine blk_alloc ?_ _)); refine blk_far ?_ NB210_217.out _; (with_reducible repeat (first | refine blk_drewN ?_ _ | refine blk_drew ?_ | refine blk_alloc ?_ _)); refine blk_far ?_ NB210_217.out _; (with_reducible repeat (first | refine blk_drewN ?_ _ | refine blk_drew ?_ | refine blk_alloc ?_ _)); refine blk_far ?_ NB210_217.out _; (with_reducible repeat (first | refine blk_drewN ?_ _ | refine blk_drew ?_ | refine blk_alloc ?_ _)); exact BK210.out)) k_ hk_), (Kd.freshB (g := gb211) (by first | exact BK211.out | ((with_reducible repeat (first | refine blk_drewN ?_ _ | refine blk_drew ?_ | refine blk_alloc ?_ _)); refine blk_far ?_ NB211_217.out _; (with_reducible repeat (first | refine blk_drewN ?_ _ | refine blk_drew ?_ | refine blk_alloc ?_ _)); refine blk_far ?_ NB211_217.out _; (with_reducible repeat (first | refine blk_drewN ?_ _ | refine blk_drew ?_ | refine blk_alloc ?_ _)); refine blk_far ?_ NB211_217.out _; (with_reducible repeat (first | refine blk_drewN ?_ _ | refine blk_drew ?_ | refine blk_alloc ?_ _)); refine blk_far ?_ NB211_217.out _; (with_reducible repeat (first | refine blk_drewN ?_ _ | refine blk_drew ?_ | refine blk_alloc ?_ _)); exact BK211.out)) k_ hk_), (Kd.freshB (g := gb217) (by first | exact BK217.out | ((with_reducible repeat (first | refine blk_drewN ?_ _ | refine blk_drew ?_ | refine blk_alloc ?_ _)); refine blk_put (cs := #[.int .i64 (wrap64 (a7_2 - a7_0)), .int .i64 (wrap64 (a7_3 - a7_1)), .int .i64 a6, .slice none 0 0]) ?_ 3 _ rfl; (with_reducible repeat (first | refine blk_drewN ?_ _ | refine blk_drew ?_ | refine blk_alloc ?_ _)); refine blk_put (cs := #[.int .i64 (wrap64 (a7_2 - a7_0)), .int .i64 (wrap64 (a7_3 - a7_1)), .int .i64 0, .slice none 0 0]) ?_ 2 _ rfl; (with_reducible repeat (first | refine blk_drewN ?_ _ | refine blk_drew ?_ | refine blk_alloc ?_ _)); refine blk_put (cs := #[.int .i64 (wrap64 (a7_2 - a7_0)), .int .i64 0, .int .i64 0, .slice none 0 0]) ?_ 1 _ rfl; (with_reducible repeat (first | refine blk_drewN ?_ _ | refine blk_drew ?_ | refine blk_alloc ?_ _)); refine blk_put (cs := #[.int .i64 0, .int .i64 0, .int .i64 0, .slice none 0 0]) ?_ 0 _ rfl; (with_reducible repeat (first | refine blk_drewN ?_ _ | refine blk_drew ?_ | refine blk_alloc ?_ _)); exact BK217.out)) k_ hk_)⟩)) (below_size q1_)); have n1_ := am_ (blk_below (g := gb206) (o := .cells #[.int .i64 a0_0, .int .i64 a0_1, .int .i64 a0_2, .slice A0_3 l0_3.length c0_3] 35 (0, 0)) (by (with_reducible repeat (first | refine blk_drewN ?_ _ | refine blk_drew ?_ | refine blk_alloc ?_ _)); refine blk_far ?_ NB206_217.out _; (with_reducible repeat (first | refine blk_drewN ?_ _ | refine blk_drew ?_ | refine blk_alloc ?_ _)); refine blk_far ?_ NB206_217.out _; (with_reducible repeat (first | refine blk_drewN ?_ _ | refine blk_drew ?_ | refine blk_alloc ?_ _)); refine blk_far ?_ NB206_217.out _; (with_reducible repeat (first | refine blk_drewN ?_ _ | refine blk_drew ?_ | refine blk_alloc ?_ _)); refine blk_far ?_ NB206_217.out _; (with_reducible repeat (first | refine blk_drewN ?_ _ | refine blk_drew ?_ | refine blk_alloc ?_ _)); exact BK206.out) hb); have n2_ := am_ (blk_below (g := gb207) (o := .cells #[.int .i64 a1_0, .int .i64 a1_1] 38 (0, 0)) (by (with_reducible repeat (first | refine blk_drewN ?_ _ | refine blk_drew ?_ | refine blk_alloc ?_ _)); refine blk_far ?_ NB207_217.out _; (with_reducible repeat (first | refine blk_drewN ?_ _ | refine blk_drew ?_ | refine blk_alloc ?_ _)); refine blk_far ?_ NB207_217.out _; (with_reducible repeat (first | refine blk_drewN ?_ _ | refine blk_drew ?_ | refine blk_alloc ?_ _)); refine blk_far ?_ NB207_217.out _; (with_reducible repeat (first | refine blk_drewN ?_ _ | refine blk_drew ?_ | refine blk_alloc ?_ _)); refine blk_far ?_ NB207_217.out _; (with_reducible repeat (first | refine blk_drewN ?_ _ | refine blk_drew ?_ | refine blk_alloc ?_ _)); exact BK207.out) hb); have n3_ := am_ (blk_below (g := gb208) (o := .cells #[.slice A2 l2.length c2] 22 (0, 0)) (by (with_reducible repeat (first | refine blk_drewN ?_ _ | refine blk_drew ?_ | refine blk_alloc ?_ _)); refine blk_far ?_ NB208_217.out _; (with_reducible repeat (first | refine blk_drewN ?_ _ | refine blk_drew ?_ | refine blk_alloc ?_ _)); refine blk_far ?_ NB208_217.out _; (with_reducible repeat (first | refine blk_drewN ?_ _ | refine blk_drew ?_ | refine blk_alloc ?_ _)); refine blk_far ?_ NB208_217.out _; (with_reducible repeat (first | refine blk_drewN ?_ _ | refine blk_drew ?_ | refine blk_alloc ?_ _)); refine blk_far ?_ NB208_217.out _; (with_reducible repeat (first | refine blk_drewN ?_ _ | refine blk_drew ?_ | refine blk_alloc ?_ _)); exact BK208.out) hb); have n4_ := am_ (blk_below (g := gb209) (o := .cells #[.int .i64 a4] 3 (0, 0)) (by (with_reducible repeat (first | refine blk_drewN ?_ _ | refine blk_drew ?_ | refine blk_alloc ?_ _)); refine blk_far ?_ NB209_217.out _; (with_reducible repeat (first | refine blk_drewN ?_ _ | refine blk_drew ?_ | refine blk_alloc ?_ _)); refine blk_far ?_ NB209_217.out _; (with_reducible repeat (first | refine blk_drewN ?_ _ | refine blk_drew ?_ | refine blk_alloc ?_ _)); refine blk_far ?_ NB209_217.out _; (with_reducible repeat (first | refine blk_drewN ?_ _ | refine blk_drew ?_ | refine blk_alloc ?_ _)); refine blk_far ?_ NB209_217.out _; (with_reducible repeat (first | refine blk_drewN ?_ _ | refine blk_drew ?_ | refine blk_alloc ?_ _)); exact BK209.out) hb); have n5_ := am_ (blk_below (g := gb210) (o := .cells #[.int .i64 a7_0, .int .i64 a7_1, .int .i64 a7_2, .int .i64 a7_3] 33 (0, 0)) (by (with_reducible repeat (first | refine blk_drewN ?_ _ | refine blk_drew ?_ | refine blk_alloc ?_ _)); refine blk_far ?_ NB210_217.out _; (with_reducible repeat (first | refine blk_drewN ?_ _ | refine blk_drew ?_ | refine blk_alloc ?_ _)); refine blk_far ?_ NB210_217.out _; (with_reducible repeat (first | refine blk_drewN ?_ _ | refine blk_drew ?_ | refine blk_alloc ?_ _)); refine blk_far ?_ NB210_217.out _; (with_reducible repeat (first | refine blk_drewN ?_ _ | refine blk_drew ?_ | refine blk_alloc ?_ _)); refine blk_far ?_ NB210_217.out _; (with_reducible repeat (first | refine blk_drewN ?_ _ | refine blk_drew ?_ | refine blk_alloc ?_ _)); exact BK210.out) hb); have n6_ := am_ (blk_below (g := gb211) (o := .cells #[.int .i64 0, .int .i64 0, .int .i64 0, .slice none 0 0] 35 (0, 0)) (by (with_reducible repeat (first | refine blk_drewN ?_ _ | refine blk_drew ?_ | refine blk_alloc ?_ _)); refine blk_far ?_ NB211_217.out _; (with_reducible repeat (first | refine blk_drewN ?_ _ | refine blk_drew ?_ | refine blk_alloc ?_ _)); refine blk_far ?_ NB211_217.out _; (with_reducible repeat (first | refine blk_drewN ?_ _ | refine blk_drew ?_ | refine blk_alloc ?_ _)); refine blk_far ?_ NB211_217.out _; (with_reducible repeat (first | refine blk_drewN ?_ _ | refine blk_drew ?_ | refine blk_alloc ?_ _)); refine blk_far ?_ NB211_217.out _; (with_reducible repeat (first | refine blk_drewN ?_ _ | refine blk_drew ?_ | refine blk_alloc ?_ _)); exact BK211.out) hb); have n7_ := am_ (blk_below (g := gb217) (o := .cells #[.int .i64 (wrap64 (a7_2 - a7_0)), .int .i64 (wrap64 (a7_3 - a7_1)), .int .i64 a6, .slice none 0 0] 35 (0, 0)) (by (with_reducible repeat (first | refine blk_drewN ?_ _ | refine blk_drew ?_ | refine blk_alloc ?_ _)); refine blk_put (cs := #[.int .i64 (wrap64 (a7_2 - a7_0)), .int .i64 (wrap64 (a7_3 - a7_1)), .int .i64 a6, .slice none 0 0]) ?_ 3 _ rfl; (with_reducible repeat (first | refine blk_drewN ?_ _ | refine blk_drew ?_ | refine blk_alloc ?_ _)); refine blk_put (cs := #[.int .i64 (wrap64 (a7_2 - a7_0)), .int .i64 (wrap64 (a7_3 - a7_1)), .int .i64 0, .slice none 0 0]) ?_ 2 _ rfl; (with_reducible repeat (first | refine blk_drewN ?_ _ | refine blk_drew ?_ | refine blk_alloc ?_ _)); refine blk_put (cs := #[.int .i64 (wrap64 (a7_2 - a7_0)), .int .i64 0, .int .i64 0, .slice none 0 0]) ?_ 1 _ rfl; (with_reducible repeat (first | refine blk_drewN ?_ _ | refine blk_drew ?_ | refine blk_alloc ?_ _)); refine blk_put (cs := #[.int .i64 0, .int .i64 0, .int .i64 0, .slice none 0 0]) ?_ 0 _ rfl; (with_reducible repeat (first | refine blk_drewN ?_ _ | refine blk_drew ?_ | refine blk_alloc ?_ _)); exact BK217.out) hb); have n8_ := am_ (below_step q1_ hb); clear BK206; clear BK207; clear BK208; clear BK209; clear BK210; clear BK211; clear BK217; clear HB; have HO220 := n0_; have BK206 := n1_; have BK207 := n2_; have BK208 := n3_; have BK209 := n4_; have BK210 := n5_; have BK211 := n6_; have BK217 := n7_; have HB := n8_; clear n0_ n1_ n2_ n3_ n4_ n5_ n6_ n7_ n8_; clear hb ho115))
          go_loopg [90] kj48 (fun kq v90 w' => ∃ (x22_3 : List (List Int)) (x90_3 : Int), v90 = .int .i64 x90_3 ∧ Aside0 (separable_Tile.l0 kq l3 a5 a6 (wrap64 (a7_1 - (wrap64 ((l3.length : Int) / 2)))) x22_3 (wrap64 ((l3.length : Int) - 1)) x90_3 a0_0 a0_1 a0_2 l0_3 a1_0 a1_1 l2 a4 a7_0 a7_1 a7_2 a7_3 (wrap64 (a7_2 - a7_0)) (wrap64 (a7_3 - a7_1)) a6 = some (r1, r2, r3, r4, r5)) ∧ Aside0 (kq ≤ kj48) ∧ Aside0 (Kd.N (Kd.slice 3 (Kd.int .i64)) 22 w' w.heap.size (fun k_ => k_ ≠ gb206 ∧ k_ ≠ gb207 ∧ k_ ≠ gb208 ∧ k_ ≠ gb209 ∧ k_ ≠ gb210 ∧ k_ ≠ gb211 ∧ k_ ≠ gb217) v219 x22_3) ∧ Aside0 (w'.heap[gb206]? = some (.cells #[.int .i64 a0_0, .int .i64 a0_1, .int .i64 a0_2, (.slice A0_3 l0_3.length c0_3)] 35 (0, 0))) ∧ Aside0 (w'.heap[gb207]? = some (.cells #[.int .i64 a1_0, .int .i64 a1_1] 38 (0, 0))) ∧ Aside0 (w'.heap[gb208]? = some (.cells #[(.slice A2 l2.length c2)] 22 (0, 0))) ∧ Aside0 (w'.heap[gb209]? = some (.cells #[.int .i64 a4] 3 (0, 0))) ∧ Aside0 (w'.heap[gb210]? = some (.cells #[.int .i64 a7_0, .int .i64 a7_1, .int .i64 a7_2, .int .i64 a7_3] 33 (0, 0))) ∧ Aside0 (w'.heap[gb211]? = some (.cells #[.int .i64 0, .int .i64 0, .int .i64 0, (.slice none 0 0)] 35 (0, 0))) ∧ Aside0 (w'.heap[gb217]? = some (.cells #[.int .i64 (wrap64 (a7_2 - a7_0)), .int .i64 (wrap64 (a7_3 - a7_1)), .int .i64 a6, (.slice none 0 0)] 35 (0, 0))) ∧ Aside0 (Below w.heap.size w w'))
          case atStart => exact ⟨(y218), (0), q109_, H', ⟨Nat.le_refl _⟩, ⟨by (with_reducible repeat (first | apply Kd.N_alloc | apply Kd.N_drewN | apply Kd.N_drew)); exact HO220.out⟩, ⟨q74_⟩, ⟨q75_⟩, ⟨q76_⟩, ⟨q77_⟩, ⟨q78_⟩, ⟨q79_⟩, ⟨q80_⟩, ⟨q1_⟩⟩
          case round =>
           clear H'
           try clear c1
           try clear c2
           try clear p2
           try clear c3
           try clear c4
           try clear c5
           try clear c6
           try clear p6
           try clear c7
           try clear c8
           try clear c9
           try clear c10
           try clear c11
           try clear c12
           try clear c17
           try clear c19
           try clear c20
           try clear c21
           try clear c22
           try clear c23
           try clear c26
           try clear c27
           try clear c28
           try clear c29
           try clear c33
           try clear c34
           try clear c35
           try clear c36
           try clear c37
           try clear c39
           try clear c40
           try clear c41
           try clear c42
           try clear c43
           try clear c44
           try clear c45
           try clear c48
           try clear c48b0
           try clear c48b1
           try clear c50
           try clear c51
           try clear c52
           try clear c53
           try clear c54
           try clear c56
           try clear c57
           try clear c58
           try clear c59
           try clear c61
           try clear c62
           try clear c63
           try clear p64
           try clear c67
           try clear c68
           try clear c69
           try clear c70
           try clear c71
           try clear c72
           try clear c76
           try clear c77
           try clear c78
           try clear c79
           try clear c80
           try clear c84
           try clear c85
           try clear c86
           try clear c87
           try clear c90
           try clear c91
           try clear c92
           try clear c93
           try clear c94
           try clear c95
           try clear c97
           try clear c97b0
           try clear c97b1
           try clear c98
           try clear c98b0
           try clear c98b1
           try clear c99
           try clear c100
           try clear c101
           try clear c102
           try clear c103
           try clear c106
           try clear c107
           try clear c108
           try clear c109
           try clear c110
           try clear c111
           try clear hcz104_0
           try clear hcz104_1
           try clear hcz104_2
           try clear hcz104_3
           try clear hcz112_0
           try clear hcz112_1
           try clear hcz112_2
           try clear hcz112_3
           try clear hcz113_0
           try clear hcz113_1
           try clear hcz113_2
           try clear hcz113_3
           try clear hcz24_0
           try clear hcz24_1
           try clear hcz24_2
           try clear hcz24_3
           try clear hcz30_0
           try clear hcz30_1
           try clear hcz31_0
           try clear hcz31_1
           try clear hcz31_2
           try clear hcz31_3
           try clear hcz38_0
           try clear hcz38_1
           try clear hcz38_2
           try clear hcz38_3
           try clear hcz46_0
           try clear hcz46_1
           try clear hcz46_2
           try clear hcz46_3
           try clear hcz55_0
           try clear hcz55_1
           try clear hcz55_2
           try clear hcz55_3
           try clear hcz60_0
           try clear hcz64_0
           try clear hcz73_0
           try clear hcz73_1
           try clear hcz73_2
           try clear hcz73_3
           try clear hcz81_0
           try clear hcz81_1
           try clear hcz81_2
           try clear hcz81_3
           try clear hcz83_0
           try clear hcz83_1
           try clear hcz83_2
           try clear hcz83_3
           try clear hcz88_0
           try clear hcz88_1
           try clear hcz88_2
           try clear hcz88_3
           try clear hcz96_0
           try clear hcz96_1
           try clear hcz96_2
           try clear hcz96_3
           try clear hfz104_0
           try clear hfz104_1
           try clear hfz104_2
           try clear hfz104_3
           try clear hfz112_0
           try clear hfz112_1
           try clear hfz112_2
           try clear hfz112_3
           try clear hfz113_0
           try clear hfz113_1
           try clear hfz113_2
           try clear hfz113_3
           try clear hfz24_0
           try clear hfz24_1
           try clear hfz24_2
           try clear hfz24_3
           try clear hfz30_0
           try clear hfz30_1
           try clear hfz31_0
           try clear hfz31_1
           try clear hfz31_2
           try clear hfz31_3
           try clear hfz38_0
           try clear hfz38_1
           try clear hfz38_2
           try clear hfz38_3
           try clear hfz46_0
           try clear hfz46_1
           try clear hfz46_2
           try clear hfz46_3
           try clear hfz55_0
           try clear hfz55_1
           try clear hfz55_2
           try clear hfz55_3
           try clear hfz60_0
           try clear hfz64_0
           try clear hfz73_0
           try clear hfz73_1
           try clear hfz73_2
           try clear hfz73_3
           try clear hfz81_0
           try clear hfz81_1
           try clear hfz81_2
           try clear hfz81_3
           try clear hfz83_0
           try clear hfz83_1
           try clear hfz83_2
           try clear hfz83_3
           try clear hfz88_0
           try clear hfz88_1
           try clear hfz88_2
           try clear hfz88_3
           try clear hfz96_0
           try clear hfz96_1
           try clear hfz96_2
           try clear hfz96_3
           try clear p2
           obtain ⟨x22_3, x90_3, rfl, HA, HK3, HO_22, BK206, BK207, BK208, BK209, BK210, BK211, BK217, HB⟩ := hrel
           cases gk with
           | zero => exact absurd HA.out (by simp [separable_Tile.l0])
           | succ k3 =>
            have H := HA.out
            clear HA
            simp only [separable_Tile.l0] at H
            by_cases c116 : x90_3 < (wrap64 ((l3.length : Int) - 1))
            ·rw [if_pos c116] at H
             have c116b0 : decide (x90_3 < (wrap64 ((l3.length : Int) - 1))) = true := decide_eq_true c116
             clear c116
             replace H := Option.bind_eq_some_iff.mp H
             obtain ⟨t221, A1170, H⟩ := H
             replace H : (if 0 ≤ x90_3 then (if x90_3 < (x22_3.length : Int) then (separable_Tile.l0 k3 l3 a5 a6 (wrap64 (a7_1 - (wrap64 ((l3.length : Int) / 2)))) (x22_3.set (x90_3 : Int).toNat t221) (wrap64 ((l3.length : Int) - 1)) (wrap64 (x90_3 + 1)) a0_0 a0_1 a0_2 l0_3 a1_0 a1_1 l2 a4 a7_0 a7_1 a7_2 a7_3 (wrap64 (a7_2 - a7_0)) (wrap64 (a7_3 - a7_1)) a6) else (none)) else (none)) = some (r1, r2, r3, r4, r5) := H
             have A117 := am_ A1170
             clear A1170
             by_cases c118 : 0 ≤ x90_3
             ·rw [if_pos c118] at H
              have c118b0 : decide (0 ≤ x90_3) = true := decide_eq_true c118
              clear c118
              by_cases c119 : x90_3 < (x22_3.length : Int)
              ·rw [if_pos c119] at H
               have c119b0 : decide (x90_3 < (x22_3.length : Int)) = true := decide_eq_true c119
               clear c119
               obtain ⟨y224, hy224⟩ : ∃ y_ : List (List Int), y_ = (x22_3.set (x90_3 : Int).toNat t221) := ⟨_, rfl⟩
               replace H : (separable_Tile.l0 k3 l3 a5 a6 (wrap64 (a7_1 - (wrap64 ((l3.length : Int) / 2)))) y224 (wrap64 ((l3.length : Int) - 1)) (wrap64 (x90_3 + 1)) a0_0 a0_1 a0_2 l0_3 a1_0 a1_1 l2 a4 a7_0 a7_1 a7_2 a7_3 (wrap64 (a7_2 - a7_0)) (wrap64 (a7_3 - a7_1)) a6) = some (r1, r2, r3, r4, r5) := by first | (rw [hy224]; with_reducible exact H) | (have H2_ := (Option.bind_some _ _).symm.trans H; rw [hy224]; with_reducible exact H2_) | (have H2_ := (Option.bind_some _ _).symm.trans H; with_reducible exact H2_) | with_reducible exact H | (rw [hy224]; exact H) | exact H
               have Ny224 := am_ hy224
               clear hy224
               have H' := am_ H
               clear H
               go_wp2_with (first | (go_at_call 43; refine calls_of_args (args' := #[.int .i64 (wrap64 ((wrap64 (a7_1 - (wrap64 ((l3.length : Int) / 2)))) + x90_3)), .pointer (some ⟨gb210, 0, none⟩), .pointer (some ⟨gb208, 0, none⟩), .pointer (some ⟨gb206, 0, none⟩), .pointer (some ⟨gb207, 0, none⟩), .pointer (some ⟨gb209, 0, none⟩)]) (by first | rfl | rfl) ?_; (with_reducible refine (separable_Tile_1.calls k3 (wrap64 ((wrap64 (a7_1 - (wrap64 ((l3.length : Int) / 2)))) + x90_3)) gb210 a7_0 a7_1 a7_2 a7_3 gb208 A2 c2 l2 gb206 a0_0 a0_1 a0_2 A0_3 c0_3 l0_3 gb207 a1_0 a1_1 gb209 a4 t221 _ ?side1 ?side2 ?side3 ?side4 ?side5 ?side6 ?side7 ?side8 ?side9 ?side10 ?side11 ?side12 ?side13 ?side14 ?side15 ?side16 ?side17 ?side18 ?side19 A117.out).mono ?_); (case side1 => exact q78_); (case side2 => repeat (first | exact (Kd.C_below HR2.out HB.out) | (with_reducible refine Kd.C_alloc ?_ _) | (with_reducible refine Kd.C_drewN ?_ _) | (with_reducible refine Kd.C_drew ?_))); (case side3 => exact HC2.out); (case side4 => exact q76_); (case side5 => exact NB210_208.out); (case side6 => repeat (first | exact (Kd.C_below HR0_3.out HB.out) | (with_reducible refine Kd.C_alloc ?_ _) | (with_reducible refine Kd.C_drewN ?_ _) | (with_reducible refine Kd.C_drew ?_))); (case side7 => exact HC0_3.out); (case side8 => exact q74_); (case side9 => exact NB210_206.out); (case side10 => exact NB208_206.out); (case side11 => exact q75_); (case side12 => exact NB210_207.out); (case side13 => exact NB208_207.out); (case side14 => exact NB206_207.out); (case side15 => exact q77_); (case side16 => exact NB210_209.out); (case side17 => exact NB208_209.out); (case side18 => exact NB206_209.out); (case side19 => exact NB207_209.out); rintro e w121 ⟨v222, rfl, ho0, hb⟩; have n0_ := am_ (Kd.N_elder' q89_ (Kd.R_base ho0) hb); have n1_ := am_ (Kd.R_lower (Kd.R_newB ho0 (g := gb209) (o := .cells #[.int .i64 a4] 3 (0, 0)) q77_) (below_size q1_)); have n2_ := am_ (blk_below (g := gb206) (o := .cells #[.int .i64 a0_0, .int .i64 a0_1, .int .i64 a0_2, .slice A0_3 l0_3.length c0_3] 35 (0, 0)) q74_ hb); have n3_ := am_ (blk_below (g := gb207) (o := .cells #[.int .i64 a1_0, .int .i64 a1_1] 38 (0, 0)) q75_ hb); have n4_ := am_ (blk_below (g := gb208) (o := .cells #[.slice A2 l2.length c2] 22 (0, 0)) q76_ hb); have n5_ := am_ (blk_below (g := gb209) (o := .cells #[.int .i64 a4] 3 (0, 0)) q77_ hb); have n6_ := am_ (blk_below (g := gb210) (o := .cells #[.int .i64 a7_0, .int .i64 a7_1, .int .i64 a7_2, .int .i64 a7_3] 33 (0, 0)) q78_ hb); have n7_ := am_ (blk_below (g := gb211) (o := .cells #[.int .i64 0, .int .i64 0, .int .i64 0, .slice none 0 0] 35 (0, 0)) q79_ hb); have n8_ := am_ (blk_below (g := gb217) (o := .cells #[.int .i64 (wrap64 (a7_2 - a7_0)), .int .i64 (wrap64 (a7_3 - a7_1)), .int .i64 a6, .slice none 0 0] 35 (0, 0)) q80_ hb); have n9_ := am_ (below_step q1_ hb); clear HO_22; clear BK206; clear BK207; clear BK208; clear BK209; clear BK210; clear BK211; clear BK217; clear HB; have HO_22 := n0_; have HO223 := n1_; have BK206 := n2_; have BK207 := n3_; have BK208 := n4_; have BK209 := n5_; have BK210 := n6_; have BK211 := n7_; have BK217 := n8_; have HB := n9_; clear n0_ n1_ n2_ n3_ n4_ n5_ n6_ n7_ n8_ n9_; obtain ⟨Av222, cv222, ev222⟩ := Kd.R_slice HO223.out; subst ev222; (try clear ho0); have p120 : 0 ≤ (x90_3 : Int) := of_decide_eq_true q108_; have q120 : (x90_3 : Int) < ((x22_3.length : Int) : Int) := of_decide_eq_true q108_; obtain ⟨go120, co120, eo120, gb120, gl120, cl120, HG120⟩ := Kd.N_form HO_22.out (by omega); (first | cases eo120 | (injection eo120 with ea_ en_ ec_; (first | subst ea_ | (injection ea_ with ea_; subst ea_)); subst ec_; clear en_)); have GB120 := am_ gb120; have GG120 := am_ HG120; clear gb120 gl120 HG120; obtain ⟨ce120, hcl120, hM120, hcc120, hfr120⟩ := Kd.N_elem HO_22.out [] (x90_3 : Int) p120 q120; obtain ⟨ua120_0, uc120_0, rfl, ul120_0, ge120_0⟩ := Kd.FK_slice_open hM120; have hx120_0 := hcc120 0 _ rfl; have hf120_0 := hfr120 0; (try simp only [show ((Kd.slice 3 (Kd.int .i64))).sz = 1 from rfl, Nat.mul_one, Nat.add_zero] at hx120_0); (try simp only [show ((Kd.slice 3 (Kd.int .i64))).sz = 1 from rfl, Nat.mul_one, Nat.add_zero] at hf120_0); clear hcl120 hcc120 hfr120 hM120; replace p120 := eq_true p120; replace q120 := eq_true q120; have n_ := am_ (Kd.N_mono (ok' := (fun k_ => some k_ ≠ ((.slice Av222 t221.length cv222) : Value).ownBlock ∧ k_ ≠ gb206 ∧ k_ ≠ gb207 ∧ k_ ≠ gb208 ∧ k_ ≠ gb209 ∧ k_ ≠ gb210 ∧ k_ ≠ gb211 ∧ k_ ≠ gb217)) HO_22.out (fun k_ hk => ⟨hk.2, ⟨hk.1.1, ⟨hk.1.2.1, ⟨hk.1.2.2.1, ⟨hk.1.2.2.2.1, ⟨hk.1.2.2.2.2.1, ⟨hk.1.2.2.2.2.2.1, hk.1.2.2.2.2.2.2⟩⟩⟩⟩⟩⟩⟩)); clear HO_22; have HO_22 := n_; clear n_; have HX122 := am_ (show Kd.N (Kd.slice 3 (Kd.int .i64)) 22 w121 w.heap.size (fun k_ => k_ ≠ gb206 ∧ k_ ≠ gb207 ∧ k_ ≠ gb208 ∧ k_ ≠ gb209 ∧ k_ ≠ gb210 ∧ k_ ≠ gb211 ∧ k_ ≠ gb217) (.slice (some ⟨go120, 0, none⟩) x22_3.length co120) x22_3 from (by (with_reducible repeat (first | apply Kd.N_alloc | apply Kd.N_drewN | apply Kd.N_drew)); exact Kd.N_mono HO_22.out (fun _ hk => ⟨hk.2.1, ⟨hk.2.2.1, ⟨hk.2.2.2.1, ⟨hk.2.2.2.2.1, ⟨hk.2.2.2.2.2.1, ⟨hk.2.2.2.2.2.2.1, hk.2.2.2.2.2.2.2⟩⟩⟩⟩⟩⟩))); obtain ⟨ce122, hcl122, hM122, hcc122, hfr122⟩ := Kd.N_elem HX122.out [] (x90_3 : Int) (of_decide_eq_true q108_) (by have h_ : (x90_3 : Int) < ((x22_3.length : Int) : Int) := of_decide_eq_true q108_; first | exact h_ | (have e_ := (Kd.N_reads' HO_22.out).1; omega) | simpa using h_); obtain ⟨ua122_0, uc122_0, rfl, ul122_0, ge122_0⟩ := Kd.FK_slice_open hM122; have HP122 := Kd.N_seg HX122.out (x90_3 : Int) (of_decide_eq_true q108_) (by have h_ : (x90_3 : Int) < ((x22_3.length : Int) : Int) := of_decide_eq_true q108_; first | exact h_ | (have e_ := (Kd.N_reads' HO_22.out).1; omega) | simpa using h_) (seg := [(.slice Av222 t221.length cv222)]) (j := 0) hcl122 hcc122 (show 1 ≤ 1 from by decide) (x' := t221) (Kd.FK_slice_mk (Kd.R_reads' (Kd.R_mono (ok' := (fun k_ => ((fun k_ => k_ ≠ gb206 ∧ k_ ≠ gb207 ∧ k_ ≠ gb208 ∧ k_ ≠ gb209 ∧ k_ ≠ gb210 ∧ k_ ≠ gb211 ∧ k_ ≠ gb217)) k_ ∧ k_ ≠ go120)) (Kd.R_types (Kd.R_types (Kd.R_types (Kd.R_types (Kd.R_types (Kd.R_types (Kd.R_apart' (HO223.out) (Kd.N_typed HO_22.out) (by decide)) BK206.out (by decide)) BK207.out (by decide)) BK208.out (by decide)) BK210.out (by decide)) BK211.out (by decide)) BK217.out (by decide)) (fun k_ hk => ⟨⟨hk.1.1.1.1.1.2, ⟨hk.1.1.1.1.2, ⟨hk.1.1.1.2, ⟨hk.1.1.1.1.1.1.1.2, ⟨hk.1.1.2, ⟨hk.1.2, hk.2⟩⟩⟩⟩⟩⟩, fun e_ => (hk.1.1.1.1.1.1.2) (by rw [e_]; rfl)⟩))).2.1 (Kd.R_F (Kd.R_mono (ok' := (fun k_ => ((fun k_ => k_ ≠ gb206 ∧ k_ ≠ gb207 ∧ k_ ≠ gb208 ∧ k_ ≠ gb209 ∧ k_ ≠ gb210 ∧ k_ ≠ gb211 ∧ k_ ≠ gb217)) k_ ∧ k_ ≠ go120)) (Kd.R_types (Kd.R_types (Kd.R_types (Kd.R_types (Kd.R_types (Kd.R_types (Kd.R_apart' (HO223.out) (Kd.N_typed HO_22.out) (by decide)) BK206.out (by decide)) BK207.out (by decide)) BK208.out (by decide)) BK210.out (by decide)) BK211.out (by decide)) BK217.out (by decide)) (fun k_ hk => ⟨⟨hk.1.1.1.1.1.2, ⟨hk.1.1.1.1.2, ⟨hk.1.1.1.2, ⟨hk.1.1.1.1.1.1.1.2, ⟨hk.1.1.2, ⟨hk.1.2, hk.2⟩⟩⟩⟩⟩⟩, fun e_ => (hk.1.1.1.1.1.1.2) (by rw [e_]; rfl)⟩)))) (fun _ hk => hk); have hx122_0 := hcc122 0 _ rfl; (try simp only [show ((Kd.slice 3 (Kd.int .i64))).sz = 1 from rfl, Nat.mul_one, Nat.add_zero] at hx122_0); have hf122_0 := hfr122 0; (try simp only [show ((Kd.slice 3 (Kd.int .i64))).sz = 1 from rfl, Nat.mul_one, Nat.add_zero] at hf122_0); clear hcl122 hcc122 hfr122 hM122; (try simp only [show ((Kd.slice 3 (Kd.int .i64))).sz = 1 from rfl, Nat.mul_one, Nat.add_zero] at HP122); (try simp only [show ((Kd.slice 3 (Kd.int .i64))).sz = 1 from rfl, Nat.mul_one, Nat.add_zero] at HP122)) | ((with_reducible refine gate_store (t := 22) (p := 100) rfl ?_); refine store_event (t := 22) (p := 100) (v := ?vo_w123) (w1 := (w121.setCell ⟨go120, (x90_3 : Int).toNat, none⟩ ((.slice Av222 t221.length cv222)))) ?hg ?ho ?hn ?hr ?_; (case ho => rfl); (case hg => rfl); (case hn => rfl); (case hr => first | (go_simp; done) | (go_simp; rfl)); intro w123 hw; have hg : w121.grownBy w123 (some go120) := (by rw [hw]; exact HP122.2); have hp_ : Kd.N (Kd.slice 3 (Kd.int .i64)) 22 w123 w.heap.size (fun k_ => k_ ≠ gb206 ∧ k_ ≠ gb207 ∧ k_ ≠ gb208 ∧ k_ ≠ gb209 ∧ k_ ≠ gb210 ∧ k_ ≠ gb211 ∧ k_ ≠ gb217) (.slice (some ⟨go120, 0, none⟩) x22_3.length co120) y224 := (by rw [hw, Ny224.out]; exact HP122.1); clear HP122; have n0_ := am_ (hp_); have n1_ := am_ (blk_grown (g := gb206) (o := .cells #[.int .i64 a0_0, .int .i64 a0_1, .int .i64 a0_2, .slice A0_3 l0_3.length c0_3] 35 (0, 0)) q74_ hg (Kd.N_ne HO_22.out BK206.out (by decide))); have n2_ := am_ (blk_grown (g := gb207) (o := .cells #[.int .i64 a1_0, .int .i64 a1_1] 38 (0, 0)) q75_ hg (Kd.N_ne HO_22.out BK207.out (by decide))); have n3_ := am_ (blk_grown (g := gb208) (o := .cells #[.slice A2 l2.length c2] 22 (0, 0)) q76_ hg (Kd.N_away HO_22.out (fun _ hk => hk.2.2.2.1))); have n4_ := am_ (blk_grown (g := gb209) (o := .cells #[.int .i64 a4] 3 (0, 0)) q77_ hg (Kd.N_ne HO_22.out BK209.out (by decide))); have n5_ := am_ (blk_grown (g := gb210) (o := .cells #[.int .i64 a7_0, .int .i64 a7_1, .int .i64 a7_2, .int .i64 a7_3] 33 (0, 0)) q78_ hg (Kd.N_ne HO_22.out BK210.out (by decide))); have n6_ := am_ (blk_grown (g := gb211) (o := .cells #[.int .i64 0, .int .i64 0, .int .i64 0, .slice none 0 0] 35 (0, 0)) q79_ hg (Kd.N_ne HO_22.out BK211.out (by decide))); have n7_ := am_ (blk_grown (g := gb217) (o := .cells #[.int .i64 (wrap64 (a7_2 - a7_0)), .int .i64 (wrap64 (a7_3 - a7_1)), .int .i64 a6, .slice none 0 0] 35 (0, 0)) q80_ hg (Kd.N_ne HO_22.out BK217.out (by decide))); have n8_ := am_ ((by rw [hw]; exact below_set (HB.out) GB120.out : Below w.heap.size w w123)); clear HO_22; clear BK206; clear BK207; clear BK208; clear BK209; clear BK210; clear BK211; clear BK217; clear HB; clear HO223; have HO_22 := n0_; have BK206 := n1_; have BK207 := n2_; have BK208 := n3_; have BK209 := n4_; have BK210 := n5_; have BK211 := n6_; have BK217 := n7_; have HB := n8_; clear n0_ n1_ n2_ n3_ n4_ n5_ n6_ n7_ n8_; clear hg hw hp_))
               go_roundg k3
               case measure => have := HJ8.out; have := HJ48.out; have := HK3.out; omega
               case rel => exact ⟨(y224), (wrap64 (x90_3 + 1)), q109_, H', ⟨by have := HJ8.out; have := HJ48.out; have := HK3.out; omega⟩, ⟨q89_⟩, ⟨q74_⟩, ⟨q75_⟩, ⟨q76_⟩, ⟨q77_⟩, ⟨q78_⟩, ⟨q79_⟩, ⟨q80_⟩, ⟨q1_⟩⟩
              ·rw [if_neg c119] at H
               exact absurd H (by simp)
             ·rw [if_neg c118] at H
              exact absurd H (by simp)
            ·rw [if_neg c116] at H
             have c116b0 : decide (x90_3 < (wrap64 ((l3.length : Int) - 1))) = false := decide_eq_false c116
             clear c116
             have H' := am_ H
             clear H
             have hnb124 := NB217_206.out
             have hnc124 := NB206_217.out
             have hnb125 := NB217_207.out
             have hnc125 := NB207_217.out
             have hnb126 := NB217_208.out
             have hnc126 := NB208_217.out
             have hnb127 := NB217_209.out
             have hnc127 := NB209_217.out
             have hnb128 := NB217_210.out
             have hnc128 := NB210_217.out
             have hnb129 := NB217_211.out
             have hnc129 := NB211_217.out
             have hcz130_0 : wr.cell? ⟨gb217, 0, none⟩ = some (.int .i64 (wrap64 (a7_2 - a7_0))) := (blk_cell BK217.out 0).trans rfl
             have hcz130_1 : wr.cell? ⟨gb217, 1, none⟩ = some (.int .i64 (wrap64 (a7_3 - a7_1))) := (blk_cell BK217.out 1).trans rfl
             have hcz130_2 : wr.cell? ⟨gb217, 2, none⟩ = some (.int .i64 a6) := (blk_cell BK217.out 2).trans rfl
             have hcz130_3 : wr.cell? ⟨gb217, 3, none⟩ = some (.slice none 0 0) := (blk_cell BK217.out 3).trans rfl
             have hfz130_0 := blk_frozen BK217.out 0
             have hfz130_1 := blk_frozen BK217.out 1
             have hfz130_2 := blk_frozen BK217.out 2
             have hfz130_3 := blk_frozen BK217.out 3
             go_wp2
             go_loopg [104] k3 (fun kq v104 w' => ∃ (x22_4 : List (List Int)) (x104_4 : Int) (x218003_4 : List Int) (u218003 : Value), v104 = .int .i64 x104_4 ∧ Aside0 (separable_Tile.l1 kq l3 a5 a6 (wrap64 (a7_1 - (wrap64 ((l3.length : Int) / 2)))) x22_4 (wrap64 (a7_3 - a7_1)) x104_4 a0_0 a0_1 a0_2 l0_3 a1_0 a1_1 l2 a4 a7_0 a7_1 a7_2 a7_3 (wrap64 (a7_2 - a7_0)) (wrap64 (a7_3 - a7_1)) a6 x218003_4 = some (r1, r2, r3, r4, r5)) ∧ Aside0 (kq ≤ k3) ∧ Aside0 (Kd.N (Kd.slice 3 (Kd.int .i64)) 22 w' w.heap.size (fun k_ => some k_ ≠ (u218003 : Value).ownBlock ∧ k_ ≠ gb206 ∧ k_ ≠ gb207 ∧ k_ ≠ gb208 ∧ k_ ≠ gb209 ∧ k_ ≠ gb210 ∧ k_ ≠ gb211 ∧ k_ ≠ gb217) v219 x22_4) ∧ Aside0 (Kd.R (Kd.int .i64) 3 w' w.heap.size (fun k_ => k_ ≠ gb209) u218003 x218003_4) ∧ Aside0 (w'.heap[gb206]? = some (.cells #[.int .i64 a0_0, .int .i64 a0_1, .int .i64 a0_2, (.slice A0_3 l0_3.length c0_3)] 35 (0, 0))) ∧ Aside0 (w'.heap[gb207]? = some (.cells #[.int .i64 a1_0, .int .i64 a1_1] 38 (0, 0))) ∧ Aside0 (w'.heap[gb208]? = some (.cells #[(.slice A2 l2.length c2)] 22 (0, 0))) ∧ Aside0 (w'.heap[gb209]? = some (.cells #[.int .i64 a4] 3 (0, 0))) ∧ Aside0 (w'.heap[gb210]? = some (.cells #[.int .i64 a7_0, .int .i64 a7_1, .int .i64 a7_2, .int .i64 a7_3] 33 (0, 0))) ∧ Aside0 (w'.heap[gb211]? = some (.cells #[.int .i64 0, .int .i64 0, .int .i64 0, (.slice none 0 0)] 35 (0, 0))) ∧ Aside0 (w'.heap[gb217]? = some (.cells #[.int .i64 (wrap64 (a7_2 - a7_0)), .int .i64 (wrap64 (a7_3 - a7_1)), .int .i64 a6, u218003] 35 (0, 0))) ∧ Aside0 (Below w.heap.size w w'))
             case atStart => exact ⟨(x22_3), (0), (([] : List Int)), (.slice none 0 0), q109_, H', ⟨Nat.le_refl _⟩, ⟨by (with_reducible repeat (first | apply Kd.N_alloc | apply Kd.N_drewN | apply Kd.N_drew)); exact Kd.N_mono HO_22.out (fun _ hk => ⟨(by simp [Value.ownBlock]), ⟨hk.1, ⟨hk.2.1, ⟨hk.2.2.1, ⟨hk.2.2.2.1, ⟨hk.2.2.2.2.1, ⟨hk.2.2.2.2.2.1, hk.2.2.2.2.2.2⟩⟩⟩⟩⟩⟩⟩)⟩, ⟨q59_⟩, ⟨q74_⟩, ⟨q75_⟩, ⟨q76_⟩, ⟨q77_⟩, ⟨q78_⟩, ⟨q79_⟩, ⟨q80_⟩, ⟨q1_⟩⟩
             case round =>
              clear H'
              try clear c1
              try clear p1
              try clear q1
              try clear hx1
              try clear c2
              try clear p2
              try clear c3
              try clear c4
              try clear c5
              try clear c6
              try clear p6
              try clear c7
              try clear c8
              try clear c9
              try clear c10
              try clear c11
              try clear c12
              try clear p12
              try clear q12
              try clear hx12
              try clear hf12
              try clear c17
              try clear c19
              try clear c20
              try clear c21
              try clear c22
              try clear c23
              try clear c26
              try clear c27
              try clear c28
              try clear c29
              try clear c33
              try clear c34
              try clear c35
              try clear c36
              try clear c37
              try clear c39
              try clear c40
              try clear c41
              try clear c42
              try clear c43
              try clear c44
              try clear c45
              try clear c48
              try clear c48b0
              try clear c48b1
              try clear c50
              try clear c51
              try clear c52
              try clear c53
              try clear c54
              try clear c56
              try clear c57
              try clear c58
              try clear c59
              try clear c61
              try clear c62
              try clear c63
              try clear p64
              try clear c67
              try clear c68
              try clear c69
              try clear c70
              try clear c71
              try clear c72
              try clear c76
              try clear c77
              try clear c78
              try clear c79
              try clear c80
              try clear c84
              try clear c85
              try clear c86
              try clear c87
              try clear c90
              try clear c91
              try clear c92
              try clear c93
              try clear c94
              try clear c95
              try clear c97
              try clear c97b0
              try clear c97b1
              try clear c98
              try clear c98b0
              try clear c98b1
              try clear c99
              try clear c100
              try clear c101
              try clear c102
              try clear c103
              try clear c106
              try clear c107
              try clear c108
              try clear c109
              try clear c110
              try clear c111
              try clear c116
              try clear c116b0
              try clear c118
              try clear c118b0
              try clear c119
              try clear c119b0
              try clear c120
              try clear p120
              try clear q120
              try clear hx120
              try clear hf120
              try clear c122
              try clear hx122
              try clear hf122
              try clear c124
              try clear c125
              try clear c126
              try clear c127
              try clear c128
              try clear c129
              try clear hcz104_0
              try clear hcz104_1
              try clear hcz104_2
              try clear hcz104_3
              try clear hcz112_0
              try clear hcz112_1
              try clear hcz112_2
              try clear hcz112_3
              try clear hcz113_0
              try clear hcz113_1
              try clear hcz113_2
              try clear hcz113_3
              try clear hcz130_0
              try clear hcz130_1
              try clear hcz130_2
              try clear hcz130_3
              try clear hcz24_0
              try clear hcz24_1
              try clear hcz24_2
              try clear hcz24_3
              try clear hcz30_0
              try clear hcz30_1
              try clear hcz31_0
              try clear hcz31_1
              try clear hcz31_2
              try clear hcz31_3
              try clear hcz38_0
              try clear hcz38_1
              try clear hcz38_2
              try clear hcz38_3
              try clear hcz46_0
              try clear hcz46_1
              try clear hcz46_2
              try clear hcz46_3
              try clear hcz55_0
              try clear hcz55_1
              try clear hcz55_2
              try clear hcz55_3
              try clear hcz60_0
              try clear hcz64_0
              try clear hcz73_0
              try clear hcz73_1
              try clear hcz73_2
              try clear hcz73_3
              try clear hcz81_0
              try clear hcz81_1
              try clear hcz81_2
              try clear hcz81_3
              try clear hcz83_0
              try clear hcz83_1
              try clear hcz83_2
              try clear hcz83_3
              try clear hcz88_0
              try clear hcz88_1
              try clear hcz88_2
              try clear hcz88_3
              try clear hcz96_0
              try clear hcz96_1
              try clear hcz96_2
              try clear hcz96_3
              try clear hfz104_0
              try clear hfz104_1
              try clear hfz104_2
              try clear hfz104_3
              try clear hfz112_0
              try clear hfz112_1
              try clear hfz112_2
              try clear hfz112_3
              try clear hfz113_0
              try clear hfz113_1
              try clear hfz113_2
              try clear hfz113_3
              try clear hfz130_0
              try clear hfz130_1
              try clear hfz130_2
              try clear hfz130_3
              try clear hfz24_0
              try clear hfz24_1
              try clear hfz24_2
              try clear hfz24_3
              try clear hfz30_0
              try clear hfz30_1
              try clear hfz31_0
              try clear hfz31_1
              try clear hfz31_2
              try clear hfz31_3
              try clear hfz38_0
              try clear hfz38_1
              try clear hfz38_2
              try clear hfz38_3
              try clear hfz46_0
              try clear hfz46_1
              try clear hfz46_2
              try clear hfz46_3
              try clear hfz55_0
              try clear hfz55_1
              try clear hfz55_2
              try clear hfz55_3
              try clear hfz60_0
              try clear hfz64_0
              try clear hfz73_0
              try clear hfz73_1
              try clear hfz73_2
              try clear hfz73_3
              try clear hfz81_0
              try clear hfz81_1
              try clear hfz81_2
              try clear hfz81_3
              try clear hfz83_0
              try clear hfz83_1
              try clear hfz83_2
              try clear hfz83_3
              try clear hfz88_0
              try clear hfz88_1
              try clear hfz88_2
              try clear hfz88_3
              try clear hfz96_0
              try clear hfz96_1
              try clear hfz96_2
              try clear hfz96_3
              try clear hx120_0
              try clear hx122_0
              try clear p120
              try clear p2
              try clear p6
              try clear p64
              try clear q120
              obtain ⟨x22_4, x104_4, x218003_4, u218003, rfl, HA, HK4, HO_22, HO_218003, BK206, BK207, BK208, BK209, BK210, BK211, BK217, HB⟩ := hrel
              cases gk with
              | zero => exact absurd HA.out (by simp [separable_Tile.l1])
              | succ k4 =>
               have H := HA.out
               clear HA
               simp only [separable_Tile.l1] at H
               by_cases c131 : x104_4 < (wrap64 (a7_3 - a7_1))
               ·rw [if_pos c131] at H
                have c131b0 : decide (x104_4 < (wrap64 (a7_3 - a7_1))) = true := decide_eq_true c131
                clear c131
                by_cases c132 : (l3.length : Int) = 0
                ·rw [if_pos c132] at H
                 exact absurd H (by simp)
                ·rw [if_neg c132] at H
                 have c132b0 : ((l3.length : Int) == 0) = false := beq_eq_false_iff_ne.mpr c132
                 have c132b1 : ((l3.length : Int) != 0) = true := bne_iff_ne.mpr c132
                 have c132b2 : ¬ (l3 = []) := fun h_ => c132 (by rw [h_]; rfl)
                 replace H := Option.bind_eq_some_iff.mp H
                 obtain ⟨t225, A1330, H⟩ := H
                 replace H : (if 0 ≤ (Int.tmod (wrap64 ((wrap64 (x104_4 + (l3.length : Int))) - 1)) (l3.length : Int)) then (if (Int.tmod (wrap64 ((wrap64 (x104_4 + (l3.length : Int))) - 1)) (l3.length : Int)) < (x22_4.length : Int) then (separable_Tile.l2 k4 l3 a5 a6 (wrap64 (a7_1 - (wrap64 ((l3.length : Int) / 2)))) (x22_4.set ((Int.tmod (wrap64 ((wrap64 (x104_4 + (l3.length : Int))) - 1)) (l3.length : Int)) : Int).toNat t225) x104_4 (wrap64 (a7_3 - a7_1)) x104_4 (wrap64 (a7_2 - a7_0)) 0 a0_0 a0_1 a0_2 l0_3 a1_0 a1_1 l2 a4 a7_0 a7_1 a7_2 a7_3 (wrap64 (a7_2 - a7_0)) (wrap64 (a7_3 - a7_1)) a6 x218003_4) else (none)) else (none)) = some (r1, r2, r3, r4, r5) := H
                 have A133 := am_ A1330
                 clear A1330
                 obtain ⟨ji134, hji134⟩ : ∃ j_ : Int, (Int.tmod (wrap64 ((wrap64 (x104_4 + (l3.length : Int))) - 1)) (l3.length : Int)) = j_ := ⟨_, rfl⟩
                 replace H : (if 0 ≤ (ji134) then (if (ji134) < (x22_4.length : Int) then (separable_Tile.l2 k4 l3 a5 a6 (wrap64 (a7_1 - (wrap64 ((l3.length : Int) / 2)))) (x22_4.set ((ji134) : Int).toNat t225) x104_4 (wrap64 (a7_3 - a7_1)) x104_4 (wrap64 (a7_2 - a7_0)) 0 a0_0 a0_1 a0_2 l0_3 a1_0 a1_1 l2 a4 a7_0 a7_1 a7_2 a7_3 (wrap64 (a7_2 - a7_0)) (wrap64 (a7_3 - a7_1)) a6 x218003_4) else (none)) else (none)) = some (r1, r2, r3, r4, r5) := by first | (rw [hji134] at H; exact H) | (simp only [hji134] at H ⊢; exact H)
                 (try rw [hji134] at A133)
                 by_cases c135 : 0 ≤ (ji134)
                 ·rw [if_pos c135] at H
                  have c135b0 : decide (0 ≤ (ji134)) = true := decide_eq_true c135
                  clear c135
                  by_cases c136 : (ji134) < (x22_4.length : Int)
                  ·rw [if_pos c136] at H
                   have c136b0 : decide ((ji134) < (x22_4.length : Int)) = true := decide_eq_true c136
                   clear c136
                   obtain ⟨y228, hy228⟩ : ∃ y_ : List (List Int), y_ = (x22_4.set ((ji134) : Int).toNat t225) := ⟨_, rfl⟩
                   replace H : (separable_Tile.l2 k4 l3 a5 a6 (wrap64 (a7_1 - (wrap64 ((l3.length : Int) / 2)))) y228 x104_4 (wrap64 (a7_3 - a7_1)) x104_4 (wrap64 (a7_2 - a7_0)) 0 a0_0 a0_1 a0_2 l0_3 a1_0 a1_1 l2 a4 a7_0 a7_1 a7_2 a7_3 (wrap64 (a7_2 - a7_0)) (wrap64 (a7_3 - a7_1)) a6 x218003_4) = some (r1, r2, r3, r4, r5) := by first | (rw [hy228]; with_reducible exact H) | (have H2_ := (Option.bind_some _ _).symm.trans H; rw [hy228]; with_reducible exact H2_) | (have H2_ := (Option.bind_some _ _).symm.trans H; with_reducible exact H2_) | with_reducible exact H | (rw [hy228]; exact H) | exact H
                   have Ny228 := am_ hy228
                   clear hy228
                   have H' := am_ H
                   clear H
                   try go_wp2
                   have n0_ := am_ (Kd.N_drew HO_22.out)
                   have n1_ := am_ (Kd.R_drew HO_218003.out)
                   have n2_ := am_ (blk_drew BK206.out)
                   have n3_ := am_ (blk_drew BK207.out)
                   have n4_ := am_ (blk_drew BK208.out)
                   have n5_ := am_ (blk_drew BK209.out)
                   have n6_ := am_ (blk_drew BK210.out)
                   have n7_ := am_ (blk_drew BK211.out)
                   have n8_ := am_ (blk_drew BK217.out)
                   have n9_ := am_ (below_drew1 HB.out)
                   clear HO_22
                   clear HO_218003
                   clear BK206
                   clear BK207
                   clear BK208
                   clear BK209
                   clear BK210
                   clear BK211
                   clear BK217
                   clear HB
                   have HO_22 := n0_
                   have HO_218003 := n1_
                   have BK206 := n2_
                   have BK207 := n3_
                   have BK208 := n4_
                   have BK209 := n5_
                   have BK210 := n6_
                   have BK211 := n7_
                   have BK217 := n8_
                   have HB := n9_
                   clear n0_ n1_ n2_ n3_ n4_ n5_ n6_ n7_ n8_ n9_
                   refine start_ (n := 20) (S := fun w' => True) (ds := [19]) #[false, false, false, false, false, false, false, false, false, false, false, false, false, false, false, false, false, false, false, false] (by kernel_rfl) rfl rfl trivial (fun hHeld => ?_); refine with_tabW separable_Tile.tab20 separable_Tile.bits20 (fun HT_ HW_ => ?_)
                   generalize wr.drew = w138 at HO_22 HO_218003 BK206 BK207 BK208 BK209 BK210 BK211 BK217 HB hHeld ⊢
                   refine pure_ (i := 0) (N := some 107) (v := ?_) (a' := ?_) #[true, false, false, false, false, false, false, false, false, false, false, false, false, false, false, false, false, false, false, false] rfl rfl (any_of HT_.out (by kernel_rfl)) (fun _ _ _ h => h) (Or.inl ⟨by rfl, ?_⟩) ?_ ?_
                   rotate_left
                   ·intro w'
                    go_simp
                    with_reducible rfl
                   rotate_left
                   ·simp only [Act.put, List.setIfInBounds_toArray, List.set_cons_zero, List.set_cons_succ, i64_w, i32_w]
                    rfl
                   refine pure_ (i := 1) (N := some 108) (v := ?_) (a' := ?_) #[true, true, false, false, false, false, false, false, false, false, false, false, false, false, false, false, false, false, false, false] rfl rfl (any_of HT_.out (by kernel_rfl)) (fun _ _ _ h => h) (Or.inl ⟨by rfl, ?_⟩) ?_ ?_
                   rotate_left
                   ·intro w'
                    go_simp
                    with_reducible rfl
                   rotate_left
                   ·simp only [Act.put, List.setIfInBounds_toArray, List.set_cons_zero, List.set_cons_succ, i64_w, i32_w]
                    rfl
                   refine pure_ (i := 2) (N := some 109) (v := ?_) (a' := ?_) #[true, true, true, false, false, false, false, false, false, false, false, false, false, false, false, false, false, false, false, false] rfl rfl (any_of HT_.out (by kernel_rfl)) (fun _ _ _ h => h) (Or.inl ⟨by rfl, ?_⟩) ?_ ?_
                   rotate_left
                   ·intro w'
                    go_simp
                    with_reducible rfl
                   rotate_left
                   ·simp only [Act.put, List.setIfInBounds_toArray, List.set_cons_zero, List.set_cons_succ, i64_w, i32_w]
                    rfl
                   refine pure_ (i := 3) (N := some 110) (v := ?_) (a' := ?_) #[true, true, true, true, false, false, false, false, false, false, false, false, false, false, false, false, false, false, false, false] rfl rfl (any_of HT_.out (by kernel_rfl)) (fun _ _ _ h => h) (Or.inl ⟨by rfl, ?_⟩) ?_ ?_
                   rotate_left
                   ·intro w'
                    go_simp
                    with_reducible rfl
                   rotate_left
                   ·simp only [Act.put, List.setIfInBounds_toArray, List.set_cons_zero, List.set_cons_succ, i64_w, i32_w]
                    rfl
                   refine pure_ (i := 4) (N := some 111) (v := ?_) (a' := ?_) #[true, true, true, true, true, false, false, false, false, false, false, false, false, false, false, false, false, false, false, false] rfl rfl (any_of HT_.out (by kernel_rfl)) (fun _ _ _ h => h) (Or.inl ⟨by rfl, ?_⟩) ?_ ?_
                   rotate_left
                   ·intro w'
                    go_simp
                    with_reducible rfl
                   rotate_left
                   ·simp only [Act.put, List.setIfInBounds_toArray, List.set_cons_zero, List.set_cons_succ, i64_w, i32_w]
                    rfl
                   refine pure_ (i := 5) (N := some 112) (v := ?_) (a' := ?_) #[true, true, true, true, true, true, false, false, false, false, false, false, false, false, false, false, false, false, false, false] rfl rfl (any_of HT_.out (by kernel_rfl)) (fun _ _ _ h => h) (Or.inl ⟨by rfl, ?_⟩) ?_ ?_
                   rotate_left
                   ·intro w'
                    go_simp
                    with_reducible rfl
                   rotate_left
                   ·simp only [Act.put, List.setIfInBounds_toArray, List.set_cons_zero, List.set_cons_succ, i64_w, i32_w]
                    rfl
                   refine pure_ (i := 6) (N := some 113) (v := ?_) (a' := ?_) #[true, true, true, true, true, true, true, false, false, false, false, false, false, false, false, false, false, false, false, false] rfl rfl (any_of HT_.out (by kernel_rfl)) (fun _ _ _ h => h) (Or.inl ⟨by rfl, ?_⟩) ?_ ?_
                   rotate_left
                   ·intro w'
                    go_simp
                    with_reducible rfl
                   rotate_left
                   ·simp only [Act.put, List.setIfInBounds_toArray, List.set_cons_zero, List.set_cons_succ, i64_w, i32_w]
                    rfl
                   refine pure_ (i := 7) (N := some 114) (v := ?_) (a' := ?_) #[true, true, true, true, true, true, true, true, false, false, false, false, false, false, false, false, false, false, false, false] rfl rfl (any_of HT_.out (by kernel_rfl)) (fun _ _ _ h => h) (Or.inl ⟨by rfl, ?_⟩) ?_ ?_
                   rotate_left
                   ·intro w'
                    go_simp
                    with_reducible rfl
                   rotate_left
                   ·simp only [Act.put, List.setIfInBounds_toArray, List.set_cons_zero, List.set_cons_succ, i64_w, i32_w]
                    rfl
                   refine pure_ (i := 8) (N := some 115) (v := ?_) (a' := ?_) #[true, true, true, true, true, true, true, true, true, false, false, false, false, false, false, false, false, false, false, false] rfl rfl (any_of HT_.out (by kernel_rfl)) (fun _ _ _ h => h) (Or.inl ⟨by rfl, ?_⟩) ?_ ?_
                   rotate_left
                   ·intro w'
                    go_simp
                    with_reducible rfl
                   rotate_left
                   ·simp only [Act.put, List.setIfInBounds_toArray, List.set_cons_zero, List.set_cons_succ, i64_w, i32_w]
                    rfl
                   refine pure_ (i := 9) (N := some 116) (v := ?_) (a' := ?_) #[true, true, true, true, true, true, true, true, true, true, false, false, false, false, false, false, false, false, false, false] rfl rfl (any_of HT_.out (by kernel_rfl)) (fun _ _ _ h => h) (Or.inl ⟨by rfl, ?_⟩) ?_ ?_
                   rotate_left
                   ·intro w'
                    go_simp
                    with_reducible rfl
                   rotate_left
                   ·simp only [Act.put, List.setIfInBounds_toArray, List.set_cons_zero, List.set_cons_succ, i64_w, i32_w]
                    rfl
                   refine pure_ (i := 10) (N := some 117) (v := ?_) (a' := ?_) #[true, true, true, true, true, true, true, true, true, true, true, false, false, false, false, false, false, false, false, false] rfl rfl (any_of HT_.out (by kernel_rfl)) (fun _ _ _ h => h) (Or.inl ⟨by rfl, ?_⟩) ?_ ?_
                   rotate_left
                   ·intro w'
                    go_simp
                    with_reducible rfl
                   rotate_left
                   ·simp only [Act.put, List.setIfInBounds_toArray, List.set_cons_zero, List.set_cons_succ, i64_w, i32_w]
                    rfl
                   refine pure_ (i := 11) (N := some 118) (v := ?_) (a' := ?_) #[true, true, true, true, true, true, true, true, true, true, true, true, false, false, false, false, false, false, false, false] rfl rfl (any_of HT_.out (by kernel_rfl)) (fun _ _ _ h => h) (Or.inl ⟨by rfl, ?_⟩) ?_ ?_
                   rotate_left
                   ·intro w'
                    go_simp
                    with_reducible rfl
                   rotate_left
                   ·simp only [Act.put, List.setIfInBounds_toArray, List.set_cons_zero, List.set_cons_succ, i64_w, i32_w]
                    rfl
                   refine pure_ (i := 12) (N := some 119) (v := ?_) (a' := ?_) #[true, true, true, true, true, true, true, true, true, true, true, true, true, false, false, false, false, false, false, false] rfl rfl (any_of HT_.out (by kernel_rfl)) (fun _ _ _ h => h) (Or.inl ⟨by rfl, ?_⟩) ?_ ?_
                   rotate_left
                   ·intro w'
                    go_simp
                    with_reducible rfl
                   rotate_left
                   ·simp only [Act.put, List.setIfInBounds_toArray, List.set_cons_zero, List.set_cons_succ, i64_w, i32_w]
                    rfl
                   refine pure_ (i := 13) (N := some 120) (v := ?_) (a' := ?_) #[true, true, true, true, true, true, true, true, true, true, true, true, true, true, false, false, false, false, false, false] rfl rfl (any_of HT_.out (by kernel_rfl)) (fun _ _ _ h => h) (Or.inl ⟨by rfl, ?_⟩) ?_ ?_
                   rotate_left
                   ·intro w'
                    go_simp
                    with_reducible rfl
                   rotate_left
                   ·simp only [Act.put, List.setIfInBounds_toArray, List.set_cons_zero, List.set_cons_succ, i64_w, i32_w]
                    rfl
                   refine pure_ (i := 14) (N := some 121) (v := ?_) (a' := ?_) #[true, true, true, true, true, true, true, true, true, true, true, true, true, true, true, false, false, false, false, false] rfl rfl (any_of HT_.out (by kernel_rfl)) (fun _ _ _ h => h) (Or.inl ⟨by rfl, ?_⟩) ?_ ?_
                   rotate_left
                   ·intro w'
                    go_simp
                    with_reducible rfl
                   rotate_left
                   ·simp only [Act.put, List.setIfInBounds_toArray, List.set_cons_zero, List.set_cons_succ, i64_w, i32_w]
                    rfl
                   refine pure_ (i := 15) (N := some 122) (v := ?_) (a' := ?_) #[true, true, true, true, true, true, true, true, true, true, true, true, true, true, true, true, false, false, false, false] rfl rfl (any_of HT_.out (by kernel_rfl)) (fun _ _ _ h => h) (Or.inl ⟨by rfl, ?_⟩) ?_ ?_
                   rotate_left
                   ·intro w'
                    go_simp
                    with_reducible rfl
                   rotate_left
                   ·simp only [Act.put, List.setIfInBounds_toArray, List.set_cons_zero, List.set_cons_succ, i64_w, i32_w]
                    rfl
                   refine pure_ (i := 16) (N := some 123) (v := ?_) (a' := ?_) #[true, true, true, true, true, true, true, true, true, true, true, true, true, true, true, true, true, false, false, false] rfl rfl (any_of HT_.out (by kernel_rfl)) (fun _ _ _ h => h) (Or.inl ⟨by rfl, ?_⟩) ?_ ?_
                   rotate_left
                   ·intro w'
                    go_simp
                    with_reducible rfl
                   rotate_left
                   ·simp only [Act.put, List.setIfInBounds_toArray, List.set_cons_zero, List.set_cons_succ, i64_w, i32_w]
                    rfl
                   refine one_ (i := 17) (N := some 124) #[true, true, true, true, true, true, true, true, true, true, true, true, true, true, true, true, true, true, false, false] rfl rfl (one_of HT_.out (by kernel_rfl)) (by decide) (fun K hK => ?_)
                   refine goesR_ Try.func43 (by kernel_rfl) rfl #[.int .i64 (wrap64 ((wrap64 ((wrap64 ((wrap64 (a7_1 - (wrap64 ((l3.length : Int) / 2)))) + x104_4)) + (l3.length : Int))) - 1))] #[.pointer (some ⟨gb210, 0, none⟩), .pointer (some ⟨gb208, 0, none⟩), .pointer (some ⟨gb206, 0, none⟩), .pointer (some ⟨gb207, 0, none⟩), .pointer (some ⟨gb209, 0, none⟩)] #[.int .i64 (wrap64 ((wrap64 ((wrap64 ((wrap64 (a7_1 - (wrap64 ((l3.length : Int) / 2)))) + x104_4)) + (l3.length : Int))) - 1)), .pointer (some ⟨gb210, 0, none⟩), .pointer (some ⟨gb208, 0, none⟩), .pointer (some ⟨gb206, 0, none⟩), .pointer (some ⟨gb207, 0, none⟩), .pointer (some ⟨gb209, 0, none⟩)] (by rfl) rfl rfl (by first | rfl | (go_simp; rfl)) q60_ (by first | rfl | simp) ?_
                   with_reducible refine (separable_Tile_1.calls k4 (wrap64 ((wrap64 ((wrap64 ((wrap64 (a7_1 - (wrap64 ((l3.length : Int) / 2)))) + x104_4)) + (l3.length : Int))) - 1)) gb210 a7_0 a7_1 a7_2 a7_3 gb208 A2 c2 l2 gb206 a0_0 a0_1 a0_2 A0_3 c0_3 l0_3 gb207 a1_0 a1_1 gb209 a4 t225 _ ?side1 ?side2 ?side3 ?side4 ?side5 ?side6 ?side7 ?side8 ?side9 ?side10 ?side11 ?side12 ?side13 ?side14 ?side15 ?side16 ?side17 ?side18 ?side19 A133.out).mono ?_
                   (case side1 => exact q78_)
                   (case side2 => repeat (first | exact (Kd.C_below HR2.out HB.out) | (with_reducible refine Kd.C_alloc ?_ _) | (with_reducible refine Kd.C_drewN ?_ _) | (with_reducible refine Kd.C_drew ?_)))
                   (case side3 => exact HC2.out)
                   (case side4 => exact q76_)
                   (case side5 => exact NB210_208.out)
                   (case side6 => repeat (first | exact (Kd.C_below HR0_3.out HB.out) | (with_reducible refine Kd.C_alloc ?_ _) | (with_reducible refine Kd.C_drewN ?_ _) | (with_reducible refine Kd.C_drew ?_)))
                   (case side7 => exact HC0_3.out)
                   (case side8 => exact q74_)
                   (case side9 => exact NB210_206.out)
                   (case side10 => exact NB208_206.out)
                   (case side11 => exact q75_)
                   (case side12 => exact NB210_207.out)
                   (case side13 => exact NB208_207.out)
                   (case side14 => exact NB206_207.out)
                   (case side15 => exact q77_)
                   (case side16 => exact NB210_209.out)
                   (case side17 => exact NB208_209.out)
                   (case side18 => exact NB206_209.out)
                   (case side19 => exact NB207_209.out)
                   rintro e w139 ⟨v226, rfl, ho0, hb⟩
                   refine ⟨_, rfl, ?_⟩
                   have n0_ := am_ (Kd.N_elder' q89_ (Kd.R_base ho0) hb)
                   have n1_ := am_ (Kd.R_elder' q87_ (Kd.R_base ho0) hb)
                   have n2_ := am_ (Kd.R_lower (Kd.R_newB (Kd.R_new' ho0 (Kd.R_lt q87_)) (g := gb209) (o := .cells #[.int .i64 a4] 3 (0, 0)) q77_) (below_size q1_))
                   have n3_ := am_ (blk_below (g := gb206) (o := .cells #[.int .i64 a0_0, .int .i64 a0_1, .int .i64 a0_2, .slice A0_3 l0_3.length c0_3] 35 (0, 0)) q74_ hb)
                   have n4_ := am_ (blk_below (g := gb207) (o := .cells #[.int .i64 a1_0, .int .i64 a1_1] 38 (0, 0)) q75_ hb)
                   have n5_ := am_ (blk_below (g := gb208) (o := .cells #[.slice A2 l2.length c2] 22 (0, 0)) q76_ hb)
                   have n6_ := am_ (blk_below (g := gb209) (o := .cells #[.int .i64 a4] 3 (0, 0)) q77_ hb)
                   have n7_ := am_ (blk_below (g := gb210) (o := .cells #[.int .i64 a7_0, .int .i64 a7_1, .int .i64 a7_2, .int .i64 a7_3] 33 (0, 0)) q78_ hb)
                   have n8_ := am_ (blk_below (g := gb211) (o := .cells #[.int .i64 0, .int .i64 0, .int .i64 0, .slice none 0 0] 35 (0, 0)) q79_ hb)
                   have n9_ := am_ (blk_below (g := gb217) (o := .cells #[.int .i64 (wrap64 (a7_2 - a7_0)), .int .i64 (wrap64 (a7_3 - a7_1)), .int .i64 a6, u218003] 35 (0, 0)) q80_ hb)
                   have n10_ := am_ (below_step q1_ hb)
                   clear HO_22
                   clear HO_218003
                   clear BK206
                   clear BK207
                   clear BK208
                   clear BK209
                   clear BK210
                   clear BK211
                   clear BK217
                   clear HB
                   have HO_22 := n0_
                   have HO_218003 := n1_
                   have HO227 := n2_
                   have BK206 := n3_
                   have BK207 := n4_
                   have BK208 := n5_
                   have BK209 := n6_
                   have BK210 := n7_
                   have BK211 := n8_
                   have BK217 := n9_
                   have HB := n10_
                   clear n0_ n1_ n2_ n3_ n4_ n5_ n6_ n7_ n8_ n9_ n10_
                   (try clear hb)
                   (try clear hb2)
                   (try clear hk)
                   (try clear hi)
                   (try clear ho0)
                   have p137 : 0 ≤ ((ji134) : Int) := of_decide_eq_true q108_
                   have q137 : ((ji134) : Int) < ((x22_4.length : Int) : Int) := of_decide_eq_true q108_
                   obtain ⟨go137, co137, eo137, gb137, gl137, cl137, HG137⟩ := Kd.N_form HO_22.out (by omega)
                   (first | cases eo137 | (injection eo137 with ea_ en_ ec_; (first | subst ea_ | (injection ea_ with ea_; subst ea_)); subst ec_; clear en_))
                   have GB137 := am_ gb137
                   have GG137 := am_ HG137
                   clear gb137 gl137 HG137
                   obtain ⟨ce137, hcl137, hM137, hcc137, hfr137⟩ := Kd.N_elem HO_22.out [] ((ji134) : Int) p137 q137
                   obtain ⟨ua137_0, uc137_0, rfl, ul137_0, ge137_0⟩ := Kd.FK_slice_open hM137
                   have hx137_0 := hcc137 0 _ rfl
                   have hf137_0 := hfr137 0
                   (try simp only [show ((Kd.slice 3 (Kd.int .i64))).sz = 1 from rfl, Nat.mul_one, Nat.add_zero] at hx137_0)
                   (try simp only [show ((Kd.slice 3 (Kd.int .i64))).sz = 1 from rfl, Nat.mul_one, Nat.add_zero] at hf137_0)
                   clear hcl137 hcc137 hfr137 hM137
                   replace p137 := eq_true p137
                   replace q137 := eq_true q137
                   obtain ⟨Av226, cv226, ev226⟩ := Kd.R_slice HO227.out
                   subst ev226
                   have HX140 := am_ (show Kd.N (Kd.slice 3 (Kd.int .i64)) 22 _ w.heap.size (fun k_ => some k_ ≠ (u218003 : Value).ownBlock ∧ some k_ ≠ ((.slice Av226 t225.length cv226) : Value).ownBlock ∧ k_ ≠ gb206 ∧ k_ ≠ gb207 ∧ k_ ≠ gb208 ∧ k_ ≠ gb209 ∧ k_ ≠ gb210 ∧ k_ ≠ gb211 ∧ k_ ≠ gb217) (.slice (some ⟨go137, 0, none⟩) x22_4.length co137) x22_4 from (Kd.N_mono (HO_22.out) (fun k_ hk => ⟨hk.1.1, ⟨hk.2, ⟨hk.1.2.1, ⟨hk.1.2.2.1, ⟨hk.1.2.2.2.1, ⟨hk.1.2.2.2.2.1, ⟨hk.1.2.2.2.2.2.1, ⟨hk.1.2.2.2.2.2.2.1, hk.1.2.2.2.2.2.2.2⟩⟩⟩⟩⟩⟩⟩⟩)))
                   replace HX140 := am_ (show Kd.N (Kd.slice 3 (Kd.int .i64)) 22 _ w.heap.size (fun k_ => some k_ ≠ (u218003 : Value).ownBlock ∧ k_ ≠ gb206 ∧ k_ ≠ gb207 ∧ k_ ≠ gb208 ∧ k_ ≠ gb209 ∧ k_ ≠ gb210 ∧ k_ ≠ gb211 ∧ k_ ≠ gb217) (.slice (some ⟨go137, 0, none⟩) x22_4.length co137) x22_4 from Kd.N_mono HX140.out (fun k_ hk => ⟨hk.1, ⟨hk.2.2.1, ⟨hk.2.2.2.1, ⟨hk.2.2.2.2.1, ⟨hk.2.2.2.2.2.1, ⟨hk.2.2.2.2.2.2.1, ⟨hk.2.2.2.2.2.2.2.1, hk.2.2.2.2.2.2.2.2⟩⟩⟩⟩⟩⟩⟩))
                   have HO_22 := HX140
                   obtain ⟨ce140, hcl140, hM140, hcc140, hfr140⟩ := Kd.N_elem HX140.out [] ((ji134) : Int) (of_decide_eq_true q108_) (by have h_ : ((ji134) : Int) < ((x22_4.length : Int) : Int) := of_decide_eq_true q108_; first | exact h_ | (have e_ := (Kd.N_reads' HO_22.out).1; omega) | simpa using h_)
                   obtain ⟨ua140_0, uc140_0, rfl, ul140_0, ge140_0⟩ := Kd.FK_slice_open hM140
                   have HP140 := (Kd.N_seg HX140.out ((ji134) : Int) (of_decide_eq_true q108_) (by have h_ : ((ji134) : Int) < ((x22_4.length : Int) : Int) := of_decide_eq_true q108_; first | exact h_ | (have e_ := (Kd.N_reads' HO_22.out).1; omega) | simpa using h_) (seg := [(.slice Av226 t225.length cv226)]) (j := 0) hcl140 hcc140 (show 1 ≤ 1 from by decide) (x' := t225) (Kd.FK_slice_mk (Kd.R_reads' (Kd.R_mono (ok' := (fun k_ => ((fun k_ => some k_ ≠ (u218003 : Value).ownBlock ∧ k_ ≠ gb206 ∧ k_ ≠ gb207 ∧ k_ ≠ gb208 ∧ k_ ≠ gb209 ∧ k_ ≠ gb210 ∧ k_ ≠ gb211 ∧ k_ ≠ gb217)) k_ ∧ k_ ≠ go137)) (Kd.R_types (Kd.R_types (Kd.R_types (Kd.R_types (Kd.R_types (Kd.R_types (Kd.R_apart' (HO227.out) (Kd.N_typed HO_22.out) (by decide)) BK206.out (by decide)) BK207.out (by decide)) BK208.out (by decide)) BK210.out (by decide)) BK211.out (by decide)) BK217.out (by decide)) (fun k_ hk => ⟨⟨hk.1.1.1.1.1.1.1.1.2, ⟨hk.1.1.1.1.1.2, ⟨hk.1.1.1.1.2, ⟨hk.1.1.1.2, ⟨hk.1.1.1.1.1.1.1.2, ⟨hk.1.1.2, ⟨hk.1.2, hk.2⟩⟩⟩⟩⟩⟩⟩, fun e_ => (hk.1.1.1.1.1.1.2) (by rw [e_]; rfl)⟩))).2.1 (Kd.R_F (Kd.R_mono (ok' := (fun k_ => ((fun k_ => some k_ ≠ (u218003 : Value).ownBlock ∧ k_ ≠ gb206 ∧ k_ ≠ gb207 ∧ k_ ≠ gb208 ∧ k_ ≠ gb209 ∧ k_ ≠ gb210 ∧ k_ ≠ gb211 ∧ k_ ≠ gb217)) k_ ∧ k_ ≠ go137)) (Kd.R_types (Kd.R_types (Kd.R_types (Kd.R_types (Kd.R_types (Kd.R_types (Kd.R_apart' (HO227.out) (Kd.N_typed HO_22.out) (by decide)) BK206.out (by decide)) BK207.out (by decide)) BK208.out (by decide)) BK210.out (by decide)) BK211.out (by decide)) BK217.out (by decide)) (fun k_ hk => ⟨⟨hk.1.1.1.1.1.1.1.1.2, ⟨hk.1.1.1.1.1.2, ⟨hk.1.1.1.1.2, ⟨hk.1.1.1.2, ⟨hk.1.1.1.1.1.1.1.2, ⟨hk.1.1.2, ⟨hk.1.2, hk.2⟩⟩⟩⟩⟩⟩⟩, fun e_ => (hk.1.1.1.1.1.1.2) (by rw [e_]; rfl)⟩)))) (fun _ hk => hk)).1
                   (try simp only [show ((Kd.slice 3 (Kd.int .i64))).sz = 1 from rfl, Nat.mul_one, Nat.add_zero] at HP140)
                   rw [← Ny228.out] at HP140
                   have HQ140 := am_ HP140
                   clear hcl140 hcc140 hfr140 hM140 HP140
                   refine hK.out _ _ trivial (fun hHeld => ?_)
                   clear hK K
                   refine norm_ (a' := ?_) ?_ ?_
                   rotate_left
                   ·show Act.put _ (some 124) _ = _
                    simp only [Act.put, List.setIfInBounds_toArray, List.set_cons_zero, List.set_cons_succ, i64_w, i32_w]
                    rfl
                   refine pure_ (i := 18) (N := some 125) (v := ?_) (a' := ?_) #[true, true, true, true, true, true, true, true, true, true, true, true, true, true, true, true, true, true, true, false] rfl rfl (any_of HT_.out (by kernel_rfl)) (fun _ _ _ h => h) (Or.inl ⟨by rfl, ?_⟩) ?_ ?_
                   rotate_left
                   ·intro w'
                    go_simp
                    with_reducible rfl
                   rotate_left
                   ·simp only [Act.put, List.setIfInBounds_toArray, List.set_cons_zero, List.set_cons_succ, i64_w, i32_w]
                    rfl
                   refine last_ (i := 19) (N := none) #[true, true, true, true, true, true, true, true, true, true, true, true, true, true, true, true, true, true, true, true] rfl rfl (one_of HT_.out (by kernel_rfl)) (by decide) (fun K hK => ?_)
                   refine skip_ (w1 := ?_) (by rfl) rfl ?_ ?_
                   rotate_left
                   ·go_simp
                    rfl
                   refine hK.out _ _ ?_
                   clear hK K
                   refine done_ (done_of HT_.out (by kernel_rfl)) ?_
                   have hnb141 := NB217_206.out
                   have hnc141 := NB206_217.out
                   have hnb142 := NB217_207.out
                   have hnc142 := NB207_217.out
                   have hnb143 := NB217_208.out
                   have hnc143 := NB208_217.out
                   have hnb144 := NB217_209.out
                   have hnc144 := NB209_217.out
                   have hnb145 := NB217_210.out
                   have hnc145 := NB210_217.out
                   have hnb146 := NB217_211.out
                   have hnc146 := NB211_217.out
                   have hcz147_0 : w139.cell? ⟨gb217, 0, none⟩ = some (.int .i64 (wrap64 (a7_2 - a7_0))) := (blk_cell BK217.out 0).trans rfl
                   have hcz147_1 : w139.cell? ⟨gb217, 1, none⟩ = some (.int .i64 (wrap64 (a7_3 - a7_1))) := (blk_cell BK217.out 1).trans rfl
                   have hcz147_2 : w139.cell? ⟨gb217, 2, none⟩ = some (.int .i64 a6) := (blk_cell BK217.out 2).trans rfl
                   have hcz147_3 : w139.cell? ⟨gb217, 3, none⟩ = some (u218003) := (blk_cell BK217.out 3).trans rfl
                   have hfz147_0 := blk_frozen BK217.out 0
                   have hfz147_1 := blk_frozen BK217.out 1
                   have hfz147_2 := blk_frozen BK217.out 2
                   have hfz147_3 := blk_frozen BK217.out 3
                   have hny_gb217 : gb217 ≠ go137 := (by have h_ := Kd.N_away HO_22.out (fun _ hk => hk.2.2.2.2.2.2.2); intro e_; exact h_ (by rw [e_]; rfl))
                   have hnz_gb217 := hny_gb217.symm
                   try go_wp2
                   go_loopg [128] k4 (fun kq v128 w' => ∃ (x128_5 : Int) (x218003_5 : List Int) (u218003 : Value), v128 = .int .i64 x128_5 ∧ Aside0 (separable_Tile.l2 kq l3 a5 a6 (wrap64 (a7_1 - (wrap64 ((l3.length : Int) / 2)))) y228 x104_4 (wrap64 (a7_3 - a7_1)) x104_4 (wrap64 (a7_2 - a7_0)) x128_5 a0_0 a0_1 a0_2 l0_3 a1_0 a1_1 l2 a4 a7_0 a7_1 a7_2 a7_3 (wrap64 (a7_2 - a7_0)) (wrap64 (a7_3 - a7_1)) a6 x218003_5 = some (r1, r2, r3, r4, r5)) ∧ Aside0 (kq ≤ k4) ∧ Aside0 (Kd.N (Kd.slice 3 (Kd.int .i64)) 22 w' w.heap.size (fun k_ => some k_ ≠ (u218003 : Value).ownBlock ∧ k_ ≠ gb206 ∧ k_ ≠ gb207 ∧ k_ ≠ gb208 ∧ k_ ≠ gb209 ∧ k_ ≠ gb210 ∧ k_ ≠ gb211 ∧ k_ ≠ gb217) (.slice (some ⟨go137, 0, none⟩) x22_4.length co137) y228) ∧ Aside0 (Kd.R (Kd.int .i64) 3 w' w.heap.size (fun k_ => k_ ≠ gb209) u218003 x218003_5) ∧ Aside0 (w'.heap[gb206]? = some (.cells #[.int .i64 a0_0, .int .i64 a0_1, .int .i64 a0_2, (.slice A0_3 l0_3.length c0_3)] 35 (0, 0))) ∧ Aside0 (w'.heap[gb207]? = some (.cells #[.int .i64 a1_0, .int .i64 a1_1] 38 (0, 0))) ∧ Aside0 (w'.heap[gb208]? = some (.cells #[(.slice A2 l2.length c2)] 22 (0, 0))) ∧ Aside0 (w'.heap[gb209]? = some (.cells #[.int .i64 a4] 3 (0, 0))) ∧ Aside0 (w'.heap[gb210]? = some (.cells #[.int .i64 a7_0, .int .i64 a7_1, .int .i64 a7_2, .int .i64 a7_3] 33 (0, 0))) ∧ Aside0 (w'.heap[gb211]? = some (.cells #[.int .i64 0, .int .i64 0, .int .i64 0, (.slice none 0 0)] 35 (0, 0))) ∧ Aside0 (w'.heap[gb217]? = some (.cells #[.int .i64 (wrap64 (a7_2 - a7_0)), .int .i64 (wrap64 (a7_3 - a7_1)), .int .i64 a6, u218003] 35 (0, 0))) ∧ Aside0 (Below w.heap.size w w'))
                   case atStart => exact ⟨(0), (x218003_4), (u218003), q109_, H', ⟨Nat.le_refl _⟩, ⟨by (with_reducible repeat (first | apply Kd.N_alloc | apply Kd.N_drewN | apply Kd.N_drew)); exact HQ140.out⟩, ⟨by (with_reducible repeat (first | apply Kd.R_alloc | apply Kd.R_drewN | apply Kd.R_drew)); exact Kd.R_mono (Kd.R_far (p := ⟨go137, ((ji134) : Int).toNat, none⟩) (Kd.R_types HO_218003.out GG137.out (by decide)) (fun _ hk => hk.2) ((.slice Av226 t225.length cv226))) (fun _ hk => hk.1.1)⟩, ⟨by (with_reducible repeat (first | refine blk_drewN ?_ _ | refine blk_drew ?_ | refine blk_alloc ?_ _)); refine blk_far ?_ (by have h_ := Kd.N_away HO_22.out (fun _ hk => hk.2.1); intro e_; exact h_ (by rw [e_]; rfl)) _; (with_reducible repeat (first | refine blk_drewN ?_ _ | refine blk_drew ?_ | refine blk_alloc ?_ _)); exact BK206.out⟩, ⟨by (with_reducible repeat (first | refine blk_drewN ?_ _ | refine blk_drew ?_ | refine blk_alloc ?_ _)); refine blk_far ?_ (by have h_ := Kd.N_away HO_22.out (fun _ hk => hk.2.2.1); intro e_; exact h_ (by rw [e_]; rfl)) _; (with_reducible repeat (first | refine blk_drewN ?_ _ | refine blk_drew ?_ | refine blk_alloc ?_ _)); exact BK207.out⟩, ⟨by (with_reducible repeat (first | refine blk_drewN ?_ _ | refine blk_drew ?_ | refine blk_alloc ?_ _)); refine blk_far ?_ (by have h_ := Kd.N_away HO_22.out (fun _ hk => hk.2.2.2.1); intro e_; exact h_ (by rw [e_]; rfl)) _; (with_reducible repeat (first | refine blk_drewN ?_ _ | refine blk_drew ?_ | refine blk_alloc ?_ _)); exact BK208.out⟩, ⟨by (with_reducible repeat (first | refine blk_drewN ?_ _ | refine blk_drew ?_ | refine blk_alloc ?_ _)); refine blk_far ?_ (by have h_ := Kd.N_away HO_22.out (fun _ hk => hk.2.2.2.2.1); intro e_; exact h_ (by rw [e_]; rfl)) _; (with_reducible repeat (first | refine blk_drewN ?_ _ | refine blk_drew ?_ | refine blk_alloc ?_ _)); exact BK209.out⟩, ⟨by (with_reducible repeat (first | refine blk_drewN ?_ _ | refine blk_drew ?_ | refine blk_alloc ?_ _)); refine blk_far ?_ (by have h_ := Kd.N_away HO_22.out (fun _ hk => hk.2.2.2.2.2.1); intro e_; exact h_ (by rw [e_]; rfl)) _; (with_reducible repeat (first | refine blk_drewN ?_ _ | refine blk_drew ?_ | refine blk_alloc ?_ _)); exact BK210.out⟩, ⟨by (with_reducible repeat (first | refine blk_drewN ?_ _ | refine blk_drew ?_ | refine blk_alloc ?_ _)); refine blk_far ?_ (by have h_ := Kd.N_away HO_22.out (fun _ hk => hk.2.2.2.2.2.2.1); intro e_; exact h_ (by rw [e_]; rfl)) _; (with_reducible repeat (first | refine blk_drewN ?_ _ | refine blk_drew ?_ | refine blk_alloc ?_ _)); exact BK211.out⟩, ⟨by (with_reducible repeat (first | refine blk_drewN ?_ _ | refine blk_drew ?_ | refine blk_alloc ?_ _)); refine blk_far ?_ (by have h_ := Kd.N_away HO_22.out (fun _ hk => hk.2.2.2.2.2.2.2); intro e_; exact h_ (by rw [e_]; rfl)) _; (with_reducible repeat (first | refine blk_drewN ?_ _ | refine blk_drew ?_ | refine blk_alloc ?_ _)); exact BK217.out⟩, ⟨by repeat (first | (with_reducible first | exact HB.out | apply below_alloc | apply pw_below_drewN | apply below_drew1 | refine below_set ?_ GB137.out | refine below_set ?_ GE206.out | refine below_set ?_ GE207.out | refine below_set ?_ GE208.out | refine below_set ?_ GE209.out | refine below_set ?_ GE210.out | refine below_set ?_ GE211.out | refine below_set ?_ GE217.out) | exact HB.out)⟩⟩
                   case round =>
                    clear H'
                    try clear c1
                    try clear p1
                    try clear q1
                    try clear hx1
                    try clear c2
                    try clear p2
                    try clear c3
                    try clear c4
                    try clear c5
                    try clear c6
                    try clear p6
                    try clear c7
                    try clear c8
                    try clear c9
                    try clear c10
                    try clear c11
                    try clear c12
                    try clear p12
                    try clear q12
                    try clear hx12
                    try clear hf12
                    try clear c13
                    try clear p13
                    try clear q13
                    try clear hx13
                    try clear hf13
                    try clear c14
                    try clear c17
                    try clear c19
                    try clear c20
                    try clear c21
                    try clear c22
                    try clear c23
                    try clear c26
                    try clear c27
                    try clear c28
                    try clear c29
                    try clear c33
                    try clear c34
                    try clear c35
                    try clear c36
                    try clear c37
                    try clear c39
                    try clear c40
                    try clear c41
                    try clear c42
                    try clear c43
                    try clear c44
                    try clear c45
                    try clear c48
                    try clear c48b0
                    try clear c48b1
                    try clear c50
                    try clear c51
                    try clear c52
                    try clear c53
                    try clear c54
                    try clear c56
                    try clear c57
                    try clear c58
                    try clear c59
                    try clear c61
                    try clear c62
                    try clear c63
                    try clear p64
                    try clear c67
                    try clear c68
                    try clear c69
                    try clear c70
                    try clear c71
                    try clear c72
                    try clear c76
                    try clear c77
                    try clear c78
                    try clear c79
                    try clear c80
                    try clear c84
                    try clear c85
                    try clear c86
                    try clear c87
                    try clear c90
                    try clear c91
                    try clear c92
                    try clear c93
                    try clear c94
                    try clear c95
                    try clear c97
                    try clear c97b0
                    try clear c97b1
                    try clear c98
                    try clear c98b0
                    try clear c98b1
                    try clear c99
                    try clear c100
                    try clear c101
                    try clear c102
                    try clear c103
                    try clear c106
                    try clear c107
                    try clear c108
                    try clear c109
                    try clear c110
                    try clear c111
                    try clear c116
                    try clear c116b0
                    try clear c118
                    try clear c118b0
                    try clear c119
                    try clear c119b0
                    try clear c120
                    try clear p120
                    try clear q120
                    try clear hx120
                    try clear hf120
                    try clear c122
                    try clear hx122
                    try clear hf122
                    try clear c124
                    try clear c125
                    try clear c126
                    try clear c127
                    try clear c128
                    try clear c129
                    try clear c131
                    try clear c131b0
                    try clear c132
                    try clear c132b0
                    try clear c132b1
                    try clear c132b2
                    try clear c135
                    try clear c135b0
                    try clear c136
                    try clear c136b0
                    try clear c137
                    try clear p137
                    try clear q137
                    try clear hx137
                    try clear hf137
                    try clear c140
                    try clear c141
                    try clear c142
                    try clear c143
                    try clear c144
                    try clear c145
                    try clear c146
                    try clear hcz104_0
                    try clear hcz104_1
                    try clear hcz104_2
                    try clear hcz104_3
                    try clear hcz112_0
                    try clear hcz112_1
                    try clear hcz112_2
                    try clear hcz112_3
                    try clear hcz113_0
                    try clear hcz113_1
                    try clear hcz113_2
                    try clear hcz113_3
                    try clear hcz130_0
                    try clear hcz130_1
                    try clear hcz130_2
                    try clear hcz130_3
                    try clear hcz147_0
                    try clear hcz147_1
                    try clear hcz147_2
                    try clear hcz147_3
                    try clear hcz24_0
                    try clear hcz24_1
                    try clear hcz24_2
                    try clear hcz24_3
                    try clear hcz30_0
                    try clear hcz30_1
                    try clear hcz31_0
                    try clear hcz31_1
                    try clear hcz31_2
                    try clear hcz31_3
                    try clear hcz38_0
                    try clear hcz38_1
                    try clear hcz38_2
                    try clear hcz38_3
                    try clear hcz46_0
                    try clear hcz46_1
                    try clear hcz46_2
                    try clear hcz46_3
                    try clear hcz55_0
                    try clear hcz55_1
                    try clear hcz55_2
                    try clear hcz55_3
                    try clear hcz60_0
                    try clear hcz64_0
                    try clear hcz73_0
                    try clear hcz73_1
                    try clear hcz73_2
                    try clear hcz73_3
                    try clear hcz81_0
                    try clear hcz81_1
                    try clear hcz81_2
                    try clear hcz81_3
                    try clear hcz83_0
                    try clear hcz83_1
                    try clear hcz83_2
                    try clear hcz83_3
                    try clear hcz88_0
                    try clear hcz88_1
                    try clear hcz88_2
                    try clear hcz88_3
                    try clear hcz96_0
                    try clear hcz96_1
                    try clear hcz96_2
                    try clear hcz96_3
                    try clear hfz104_0
                    try clear hfz104_1
                    try clear hfz104_2
                    try clear hfz104_3
                    try clear hfz112_0
                    try clear hfz112_1
                    try clear hfz112_2
                    try clear hfz112_3
                    try clear hfz113_0
                    try clear hfz113_1
                    try clear hfz113_2
                    try clear hfz113_3
                    try clear hfz130_0
                    try clear hfz130_1
                    try clear hfz130_2
                    try clear hfz130_3
                    try clear hfz147_0
                    try clear hfz147_1
                    try clear hfz147_2
                    try clear hfz147_3
                    try clear hfz24_0
                    try clear hfz24_1
                    try clear hfz24_2
                    try clear hfz24_3
                    try clear hfz30_0
                    try clear hfz30_1
                    try clear hfz31_0
                    try clear hfz31_1
                    try clear hfz31_2
                    try clear hfz31_3
                    try clear hfz38_0
                    try clear hfz38_1
                    try clear hfz38_2
                    try clear hfz38_3
                    try clear hfz46_0
                    try clear hfz46_1
                    try clear hfz46_2
                    try clear hfz46_3
                    try clear hfz55_0
                    try clear hfz55_1
                    try clear hfz55_2
                    try clear hfz55_3
                    try clear hfz60_0
                    try clear hfz64_0
                    try clear hfz73_0
                    try clear hfz73_1
                    try clear hfz73_2
                    try clear hfz73_3
                    try clear hfz81_0
                    try clear hfz81_1
                    try clear hfz81_2
                    try clear hfz81_3
                    try clear hfz83_0
                    try clear hfz83_1
                    try clear hfz83_2
                    try clear hfz83_3
                    try clear hfz88_0
                    try clear hfz88_1
                    try clear hfz88_2
                    try clear hfz88_3
                    try clear hfz96_0
                    try clear hfz96_1
                    try clear hfz96_2
                    try clear hfz96_3
                    try clear hx120_0
                    try clear hx122_0
                    try clear hx137_0
                    try clear p1
                    try clear p12
                    try clear p120
                    try clear p137
                    try clear p2
                    try clear p6
                    try clear p64
                    try clear q1
                    try clear q12
                    try clear q120
                    try clear q137
                    obtain ⟨x128_5, x218003_5, u218003, rfl, HA, HK5, HO_22, HO_218003, BK206, BK207, BK208, BK209, BK210, BK211, BK217, HB⟩ := hrel
                    have hl22_5 := (Kd.N_reads' HO_22.out).1
                    rw [hl22_5] at HO_22
                    (try simp only [hl22_5])
                    (try simp only [hl22_5] at BK206)
                    (try simp only [hl22_5] at BK207)
                    (try simp only [hl22_5] at BK208)
                    (try simp only [hl22_5] at BK209)
                    (try simp only [hl22_5] at BK210)
                    (try simp only [hl22_5] at BK211)
                    (try simp only [hl22_5] at BK217)
                    (try simp only [hl22_5] at HO_218003)
                    cases gk with
                    | zero => exact absurd HA.out (by simp [separable_Tile.l2])
                    | succ k5 =>
                     have H := HA.out
                     clear HA
                     simp only [separable_Tile.l2] at H
                     by_cases c148 : x128_5 < (wrap64 (a7_2 - a7_0))
                     ·rw [if_pos c148] at H
                      have c148b0 : decide (x128_5 < (wrap64 (a7_2 - a7_0))) = true := decide_eq_true c148
                      clear c148
                      have H' := am_ H
                      clear H
                      go_wp2
                      go_loopg [26, 133] k5 (fun kq v26 v133 w' => ∃ (x26_6 : Int) (x133_6 : Int), v26 = .int .i64 x26_6 ∧ v133 = .int .i64 x133_6 ∧ Aside0 (separable_Tile.l3 kq l3 a5 a6 (wrap64 (a7_1 - (wrap64 ((l3.length : Int) / 2)))) y228 x104_4 x128_5 x26_6 (wrap64 (a7_3 - a7_1)) x104_4 (wrap64 (a7_2 - a7_0)) x128_5 l3 (l3.length : Int) x133_6 a0_0 a0_1 a0_2 l0_3 a1_0 a1_1 l2 a4 a7_0 a7_1 a7_2 a7_3 (wrap64 (a7_2 - a7_0)) (wrap64 (a7_3 - a7_1)) a6 x218003_5 = some (r1, r2, r3, r4, r5)) ∧ Aside0 (kq ≤ k5) ∧ Aside0 (Kd.N (Kd.slice 3 (Kd.int .i64)) 22 w' w.heap.size (fun k_ => some k_ ≠ (u218003 : Value).ownBlock ∧ k_ ≠ gb206 ∧ k_ ≠ gb207 ∧ k_ ≠ gb208 ∧ k_ ≠ gb209 ∧ k_ ≠ gb210 ∧ k_ ≠ gb211 ∧ k_ ≠ gb217) (.slice (some ⟨go137, 0, none⟩) y228.length co137) y228) ∧ Aside0 (Kd.R (Kd.int .i64) 3 w' w.heap.size (fun k_ => k_ ≠ gb209) u218003 x218003_5) ∧ Aside0 (w'.heap[gb206]? = some (.cells #[.int .i64 a0_0, .int .i64 a0_1, .int .i64 a0_2, (.slice A0_3 l0_3.length c0_3)] 35 (0, 0))) ∧ Aside0 (w'.heap[gb207]? = some (.cells #[.int .i64 a1_0, .int .i64 a1_1] 38 (0, 0))) ∧ Aside0 (w'.heap[gb208]? = some (.cells #[(.slice A2 l2.length c2)] 22 (0, 0))) ∧ Aside0 (w'.heap[gb209]? = some (.cells #[.int .i64 a4] 3 (0, 0))) ∧ Aside0 (w'.heap[gb210]? = some (.cells #[.int .i64 a7_0, .int .i64 a7_1, .int .i64 a7_2, .int .i64 a7_3] 33 (0, 0))) ∧ Aside0 (w'.heap[gb211]? = some (.cells #[.int .i64 0, .int .i64 0, .int .i64 0, (.slice none 0 0)] 35 (0, 0))) ∧ Aside0 (w'.heap[gb217]? = some (.cells #[.int .i64 (wrap64 (a7_2 - a7_0)), .int .i64 (wrap64 (a7_3 - a7_1)), .int .i64 a6, u218003] 35 (0, 0))) ∧ Aside0 (Below w.heap.size w w'))
                      case atStart => exact ⟨(0), (0), q109_, q109_, H', ⟨Nat.le_refl _⟩, ⟨q63_⟩, ⟨q61_⟩, ⟨q52_⟩, ⟨q53_⟩, ⟨q54_⟩, ⟨q55_⟩, ⟨q56_⟩, ⟨q57_⟩, ⟨q58_⟩, ⟨q1_⟩⟩
                      case round =>
                       clear H'
                       try clear c1
                       try clear p1
                       try clear q1
                       try clear hx1
                       try clear c2
                       try clear p2
                       try clear c3
                       try clear c4
                       try clear c5
                       try clear c6
                       try clear p6
                       try clear c7
                       try clear c8
                       try clear c9
                       try clear c10
                       try clear c11
                       try clear c12
                       try clear p12
                       try clear q12
                       try clear hx12
                       try clear hf12
                       try clear c13
                       try clear p13
                       try clear q13
                       try clear hx13
                       try clear hf13
                       try clear c14
                       try clear c17
                       try clear c19
                       try clear c20
                       try clear c21
                       try clear c22
                       try clear c23
                       try clear c26
                       try clear c27
                       try clear c28
                       try clear c29
                       try clear c33
                       try clear c34
                       try clear c35
                       try clear c36
                       try clear c37
                       try clear c39
                       try clear c40
                       try clear c41
                       try clear c42
                       try clear c43
                       try clear c44
                       try clear c45
                       try clear c48
                       try clear c48b0
                       try clear c48b1
                       try clear c50
                       try clear c51
                       try clear c52
                       try clear c53
                       try clear c54
                       try clear c56
                       try clear c57
                       try clear c58
                       try clear c59
                       try clear c61
                       try clear c62
                       try clear c63
                       try clear p64
                       try clear c67
                       try clear c68
                       try clear c69
                       try clear c70
                       try clear c71
                       try clear c72
                       try clear c76
                       try clear c77
                       try clear c78
                       try clear c79
                       try clear c80
                       try clear c84
                       try clear c85
                       try clear c86
                       try clear c87
                       try clear c90
                       try clear c91
                       try clear c92
                       try clear c93
                       try clear c94
                       try clear c95
                       try clear c97
                       try clear c97b0
                       try clear c97b1
                       try clear c98
                       try clear c98b0
                       try clear c98b1
                       try clear c99
                       try clear c100
                       try clear c101
                       try clear c102
                       try clear c103
                       try clear c106
                       try clear c107
                       try clear c108
                       try clear c109
                       try clear c110
                       try clear c111
                       try clear c116
                       try clear c116b0
                       try clear c118
                       try clear c118b0
                       try clear c119
                       try clear c119b0
                       try clear c120
                       try clear p120
                       try clear q120
                       try clear hx120
                       try clear hf120
                       try clear c122
                       try clear hx122
                       try clear hf122
                       try clear c124
                       try clear c125
                       try clear c126
                       try clear c127
                       try clear c128
                       try clear c129
                       try clear c131
                       try clear c131b0
                       try clear c132
                       try clear c132b0
                       try clear c132b1
                       try clear c132b2
                       try clear c135
                       try clear c135b0
                       try clear c136
                       try clear c136b0
                       try clear c137
                       try clear p137
                       try clear q137
                       try clear hx137
                       try clear hf137
                       try clear c140
                       try clear c141
                       try clear c142
                       try clear c143
                       try clear c144
                       try clear c145
                       try clear c146
                       try clear c148
                       try clear c148b0
                       try clear hcz104_0
                       try clear hcz104_1
                       try clear hcz104_2
                       try clear hcz104_3
                       try clear hcz112_0
                       try clear hcz112_1
                       try clear hcz112_2
                       try clear hcz112_3
                       try clear hcz113_0
                       try clear hcz113_1
                       try clear hcz113_2
                       try clear hcz113_3
                       try clear hcz130_0
                       try clear hcz130_1
                       try clear hcz130_2
                       try clear hcz130_3
                       try clear hcz147_0
                       try clear hcz147_1
                       try clear hcz147_2
                       try clear hcz147_3
                       try clear hcz24_0
                       try clear hcz24_1
                       try clear hcz24_2
                       try clear hcz24_3
                       try clear hcz30_0
                       try clear hcz30_1
                       try clear hcz31_0
                       try clear hcz31_1
                       try clear hcz31_2
                       try clear hcz31_3
                       try clear hcz38_0
                       try clear hcz38_1
                       try clear hcz38_2
                       try clear hcz38_3
                       try clear hcz46_0
                       try clear hcz46_1
                       try clear hcz46_2
                       try clear hcz46_3
                       try clear hcz55_0
                       try clear hcz55_1
                       try clear hcz55_2
                       try clear hcz55_3
                       try clear hcz60_0
                       try clear hcz64_0
                       try clear hcz73_0
                       try clear hcz73_1
                       try clear hcz73_2
                       try clear hcz73_3
                       try clear hcz81_0
                       try clear hcz81_1
                       try clear hcz81_2
                       try clear hcz81_3
                       try clear hcz83_0
                       try clear hcz83_1
                       try clear hcz83_2
                       try clear hcz83_3
                       try clear hcz88_0
                       try clear hcz88_1
                       try clear hcz88_2
                       try clear hcz88_3
                       try clear hcz96_0
                       try clear hcz96_1
                       try clear hcz96_2
                       try clear hcz96_3
                       try clear hfz104_0
                       try clear hfz104_1
                       try clear hfz104_2
                       try clear hfz104_3
                       try clear hfz112_0
                       try clear hfz112_1
                       try clear hfz112_2
                       try clear hfz112_3
                       try clear hfz113_0
                       try clear hfz113_1
                       try clear hfz113_2
                       try clear hfz113_3
                       try clear hfz130_0
                       try clear hfz130_1
                       try clear hfz130_2
                       try clear hfz130_3
                       try clear hfz147_0
                       try clear hfz147_1
                       try clear hfz147_2
                       try clear hfz147_3
                       try clear hfz24_0
                       try clear hfz24_1
                       try clear hfz24_2
                       try clear hfz24_3
                       try clear hfz30_0
                       try clear hfz30_1
                       try clear hfz31_0
                       try clear hfz31_1
                       try clear hfz31_2
                       try clear hfz31_3
                       try clear hfz38_0
                       try clear hfz38_1
                       try clear hfz38_2
                       try clear hfz38_3
                       try clear hfz46_0
                       try clear hfz46_1
                       try clear hfz46_2
                       try clear hfz46_3
                       try clear hfz55_0
                       try clear hfz55_1
                       try clear hfz55_2
                       try clear hfz55_3
                       try clear hfz60_0
                       try clear hfz64_0
                       try clear hfz73_0
                       try clear hfz73_1
                       try clear hfz73_2
                       try clear hfz73_3
                       try clear hfz81_0
                       try clear hfz81_1
                       try clear hfz81_2
                       try clear hfz81_3
                       try clear hfz83_0
                       try clear hfz83_1
                       try clear hfz83_2
                       try clear hfz83_3
                       try clear hfz88_0
                       try clear hfz88_1
                       try clear hfz88_2
                       try clear hfz88_3
                       try clear hfz96_0
                       try clear hfz96_1
                       try clear hfz96_2
                       try clear hfz96_3
                       try clear hx120_0
                       try clear hx122_0
                       try clear hx137_0
                       try clear p1
                       try clear p12
                       try clear p120
                       try clear p13
                       try clear p137
                       try clear p2
                       try clear p6
                       try clear p64
                       try clear q1
                       try clear q12
                       try clear q120
                       try clear q13
                       try clear q137
                       obtain ⟨x26_6, x133_6, rfl, rfl, HA, HK6, HO_22, HO_218003, BK206, BK207, BK208, BK209, BK210, BK211, BK217, HB⟩ := hrel
                       cases gk with
                       | zero => exact absurd HA.out (by simp [separable_Tile.l3])
                       | succ k6 =>
                        have H := HA.out
                        clear HA
                        simp only [separable_Tile.l3] at H
                        by_cases c149 : x133_6 < (l3.length : Int)
                        ·rw [if_pos c149] at H
                         have c149b0 : decide (x133_6 < (l3.length : Int)) = true := decide_eq_true c149
                         clear c149
                         by_cases c150 : 0 ≤ x133_6
                         ·rw [if_pos c150] at H
                          have c150b0 : decide (0 ≤ x133_6) = true := decide_eq_true c150
                          clear c150
                          by_cases c151 : x133_6 < (l3.length : Int)
                          ·rw [if_pos c151] at H
                           have c151b0 : decide (x133_6 < (l3.length : Int)) = true := decide_eq_true c151
                           clear c151
                           by_cases c152 : (l3.length : Int) = 0
                           ·rw [if_pos c152] at H
                            exact absurd H (by simp)
                           ·rw [if_neg c152] at H
                            have c152b0 : ((l3.length : Int) == 0) = false := beq_eq_false_iff_ne.mpr c152
                            have c152b1 : ((l3.length : Int) != 0) = true := bne_iff_ne.mpr c152
                            have c152b2 : ¬ (l3 = []) := fun h_ => c152 (by rw [h_]; rfl)
                            obtain ⟨ji153, hji153⟩ : ∃ j_ : Int, (Int.tmod (wrap64 (x104_4 + x133_6)) (l3.length : Int)) = j_ := ⟨_, rfl⟩
                            replace H : (if 0 ≤ (ji153) then (if (ji153) < (y228.length : Int) then (if 0 ≤ x128_5 then (if x128_5 < ((rd_L1 y228 (ji153)).length : Int) then (separable_Tile.l3 k6 l3 a5 a6 (wrap64 (a7_1 - (wrap64 ((l3.length : Int) / 2)))) y228 x104_4 x128_5 (wrap64 (x26_6 + (wrap64 ((rd l3 x133_6) * (rd (rd_L1 y228 (ji153)) x128_5))))) (wrap64 (a7_3 - a7_1)) x104_4 (wrap64 (a7_2 - a7_0)) x128_5 l3 (l3.length : Int) (wrap64 (x133_6 + 1)) a0_0 a0_1 a0_2 l0_3 a1_0 a1_1 l2 a4 a7_0 a7_1 a7_2 a7_3 (wrap64 (a7_2 - a7_0)) (wrap64 (a7_3 - a7_1)) a6 x218003_5) else (none)) else (none)) else (none)) else (none)) = some (r1, r2, r3, r4, r5) := by first | (rw [hji153] at H; exact H) | (simp only [hji153] at H ⊢; exact H)
                            by_cases c154 : 0 ≤ (ji153)
                            ·rw [if_pos c154] at H
                             have c154b0 : decide (0 ≤ (ji153)) = true := decide_eq_true c154
                             clear c154
                             by_cases c155 : (ji153) < (y228.length : Int)
                             ·rw [if_pos c155] at H
                              have c155b0 : decide ((ji153) < (y228.length : Int)) = true := decide_eq_true c155
                              clear c155
                              by_cases c156 : 0 ≤ x128_5
                              ·rw [if_pos c156] at H
                               have c156b0 : decide (0 ≤ x128_5) = true := decide_eq_true c156
                               clear c156
                               by_cases c157 : x128_5 < ((rd_L1 y228 (ji153)).length : Int)
                               ·rw [if_pos c157] at H
                                have c157b0 : decide (x128_5 < ((rd_L1 y228 (ji153)).length : Int)) = true := decide_eq_true c157
                                clear c157
                                have H' := am_ H
                                clear H
                                have p229 : 0 ≤ (x133_6 : Int) := of_decide_eq_true q108_
                                have q229 : x133_6 < (l3.length : Int) := of_decide_eq_true q108_
                                obtain ⟨ad229, e229, hx229_0⟩ := Kd.at_int HR3.out x133_6 p229 q229
                                cases e229
                                replace hx229_0 := (HB.out.cell (World.block_lt_of_cell? w _ hx229_0)).trans hx229_0
                                replace p229 := eq_true p229
                                replace q229 := eq_true q229
                                have p230 : 0 ≤ ((ji153) : Int) := of_decide_eq_true q108_
                                have q230 : (ji153) < (y228.length : Int) := of_decide_eq_true q108_
                                obtain ⟨ad230, A230_0, c230_0, e230, hx230_0, hl230_0, hi230_0⟩ := at_L1 (Kd.N_reads' HO_22.out).2.2 (ji153) p230 q230
                                obtain rfl : (⟨go137, 0, none⟩ : Addr) = ad230 := (by injection e230)
                                obtain ⟨ce230, hce230, hMe230, hcc230⟩ := Kd.N_get HO_22.out [] (ji153) p230 (by first | exact q230 | exact of_decide_eq_true q108_ | (have e_ := (Kd.N_reads' HO_22.out).1; omega))
                                obtain ⟨ua230_0, uc230_0, rfl, ul230_0, ge230_0⟩ := Kd.FK_slice_open hMe230
                                have hv230_0 := hcc230 0 _ rfl
                                rw [Nat.add_zero, show ((Kd.slice 3 (Kd.int .i64))).sz = 1 from rfl, Nat.mul_one] at hv230_0
                                replace hv230_0 := Option.some.inj (hv230_0.symm.trans hx230_0)
                                injection hv230_0 with hva_ hvn_ hvc_
                                rw [hva_] at ge230_0
                                rw [hvc_] at ul230_0
                                have HL230_0 := am_ (show Kd.V (Kd.int .i64) 3 _ w.heap.size _ _ (rd_L1 y228 (ji153)) from Kd.V_mk ul230_0 ge230_0)
                                clear hva_ hvn_ hvc_ ge230_0 ul230_0
                                clear hcc230 hce230
                                (first | simp only [add_plain] at hx230_0 | simp only [add_at] at hx230_0 | simp only [Addr.add, Nat.zero_add] at hx230_0 | skip)
                                have HR230_0 := am_ hi230_0
                                have HC230_0 := am_ hl230_0
                                clear hi230_0 hl230_0
                                replace p230 := eq_true p230
                                replace q230 := eq_true q230
                                have p231 : 0 ≤ (x128_5 : Int) := of_decide_eq_true q108_
                                have q231 : x128_5 < ((rd_L1 y228 (ji153)).length : Int) := of_decide_eq_true q108_
                                obtain ⟨ad231, e231, hx231_0⟩ := Kd.at_int (by repeat (first | (with_reducible exact HR230_0.out) | (with_reducible refine Kd.C_alloc ?_ _) | (with_reducible refine Kd.C_drewN ?_ _) | (with_reducible refine Kd.C_drew ?_) | exact HR230_0.out)) x128_5 p231 q231
                                cases e231
                                replace p231 := eq_true p231
                                replace q231 := eq_true q231
                                go_wp2
                                go_roundg k6
                                case measure => have := HJ8.out; have := HJ48.out; have := HK3.out; have := HK4.out; have := HK5.out; have := HK6.out; omega
                                case rel => exact ⟨(wrap64 (x26_6 + (wrap64 ((rd l3 x133_6) * (rd (rd_L1 y228 (ji153)) x128_5))))), (wrap64 (x133_6 + 1)), (by first | rfl | (simp; done) | (simp only [← hji153] <;> (first | rfl | simp)) | (simp [*]; done)), q109_, q105_, ⟨by have := HJ8.out; have := HJ48.out; have := HK3.out; have := HK4.out; have := HK5.out; have := HK6.out; omega⟩, ⟨q63_⟩, ⟨q61_⟩, ⟨q52_⟩, ⟨q53_⟩, ⟨q54_⟩, ⟨q55_⟩, ⟨q56_⟩, ⟨q57_⟩, ⟨q58_⟩, ⟨q1_⟩⟩
                               ·rw [if_neg c157] at H
                                exact absurd H (by simp)
                              ·rw [if_neg c156] at H
                               exact absurd H (by simp)
                             ·rw [if_neg c155] at H
                              exact absurd H (by simp)
                            ·rw [if_neg c154] at H
                             exact absurd H (by simp)
                          ·rw [if_neg c151] at H
                           exact absurd H (by simp)
                         ·rw [if_neg c150] at H
                          exact absurd H (by simp)
                        ·rw [if_neg c149] at H
                         have c149b0 : decide (x133_6 < (l3.length : Int)) = false := decide_eq_false c149
                         clear c149
                         replace H := Option.bind_eq_some_iff.mp H
                         obtain ⟨t232, A1580, H⟩ := H
                         replace H : ((fixed_Clamp.f t232 a6).bind fun t233 => (if x218003_5.length < 17592186044416 then (separable_Tile.l2 k6 l3 a5 a6 (wrap64 (a7_1 - (wrap64 ((l3.length : Int) / 2)))) y228 x104_4 (wrap64 (a7_3 - a7_1)) x104_4 (wrap64 (a7_2 - a7_0)) (wrap64 (x128_5 + 1)) a0_0 a0_1 a0_2 l0_3 a1_0 a1_1 l2 a4 a7_0 a7_1 a7_2 a7_3 (wrap64 (a7_2 - a7_0)) (wrap64 (a7_3 - a7_1)) a6 (x218003_5 ++ [t233])) else (none))) = some (r1, r2, r3, r4, r5) := H
                         have A158 := am_ A1580
                         clear A1580
                         replace H := Option.bind_eq_some_iff.mp H
                         obtain ⟨t233, A1590, H⟩ := H
                         replace H : (if x218003_5.length < 17592186044416 then (separable_Tile.l2 k6 l3 a5 a6 (wrap64 (a7_1 - (wrap64 ((l3.length : Int) / 2)))) y228 x104_4 (wrap64 (a7_3 - a7_1)) x104_4 (wrap64 (a7_2 - a7_0)) (wrap64 (x128_5 + 1)) a0_0 a0_1 a0_2 l0_3 a1_0 a1_1 l2 a4 a7_0 a7_1 a7_2 a7_3 (wrap64 (a7_2 - a7_0)) (wrap64 (a7_3 - a7_1)) a6 (x218003_5 ++ [t233])) else (none)) = some (r1, r2, r3, r4, r5) := H
                         have A159 := am_ A1590
                         clear A1590
                         by_cases c160 : x218003_5.length < 17592186044416
                         ·rw [if_pos c160] at H
                          have LMc160 := am_ c160
                          clear c160
                          obtain ⟨y234, hy234⟩ : ∃ y_ : List Int, y_ = (x218003_5 ++ [t233]) := ⟨_, rfl⟩
                          replace H : (separable_Tile.l2 k6 l3 a5 a6 (wrap64 (a7_1 - (wrap64 ((l3.length : Int) / 2)))) y228 x104_4 (wrap64 (a7_3 - a7_1)) x104_4 (wrap64 (a7_2 - a7_0)) (wrap64 (x128_5 + 1)) a0_0 a0_1 a0_2 l0_3 a1_0 a1_1 l2 a4 a7_0 a7_1 a7_2 a7_3 (wrap64 (a7_2 - a7_0)) (wrap64 (a7_3 - a7_1)) a6 y234) = some (r1, r2, r3, r4, r5) := by first | (rw [hy234]; with_reducible exact H) | (have H2_ := (Option.bind_some _ _).symm.trans H; rw [hy234]; with_reducible exact H2_) | (have H2_ := (Option.bind_some _ _).symm.trans H; with_reducible exact H2_) | with_reducible exact H | (rw [hy234]; exact H) | exact H
                          have Ny234 := am_ hy234
                          clear hy234
                          have H' := am_ H
                          clear H
                          try go_wp2
                          have n0_ := am_ (Kd.N_drew HO_22.out)
                          have n1_ := am_ (Kd.R_drew HO_218003.out)
                          have n2_ := am_ (blk_drew BK206.out)
                          have n3_ := am_ (blk_drew BK207.out)
                          have n4_ := am_ (blk_drew BK208.out)
                          have n5_ := am_ (blk_drew BK209.out)
                          have n6_ := am_ (blk_drew BK210.out)
                          have n7_ := am_ (blk_drew BK211.out)
                          have n8_ := am_ (blk_drew BK217.out)
                          have n9_ := am_ (below_drew1 HB.out)
                          clear HO_22
                          clear HO_218003
                          clear BK206
                          clear BK207
                          clear BK208
                          clear BK209
                          clear BK210
                          clear BK211
                          clear BK217
                          clear HB
                          have HO_22 := n0_
                          have HO_218003 := n1_
                          have BK206 := n2_
                          have BK207 := n3_
                          have BK208 := n4_
                          have BK209 := n5_
                          have BK210 := n6_
                          have BK211 := n7_
                          have BK217 := n8_
                          have HB := n9_
                          clear n0_ n1_ n2_ n3_ n4_ n5_ n6_ n7_ n8_ n9_
                          refine start_ (n := 11) (S := fun w' => w'.cell? ⟨gb217, 0, none⟩ = some (.int .i64 (wrap64 (a7_2 - a7_0))) ∧ w'.cell? ⟨gb217, 1, none⟩ = some (.int .i64 (wrap64 (a7_3 - a7_1))) ∧ w'.cell? ⟨gb217, 2, none⟩ = some (.int .i64 a6) ∧ w'.cell? ⟨gb217, 3, none⟩ = some (u218003)) (ds := [10]) #[false, false, false, false, false, false, false, false, false, false, false] (by kernel_rfl) rfl rfl ⟨(blk_cell BK217.out 0).trans rfl, (blk_cell BK217.out 1).trans rfl, (blk_cell BK217.out 2).trans rfl, (blk_cell BK217.out 3).trans rfl⟩ (fun hHeld => ?_); refine with_tabW separable_Tile.tab30 separable_Tile.bits30 (fun HT_ HW_ => ?_)
                          generalize wr.drew = w161 at HO_22 HO_218003 BK206 BK207 BK208 BK209 BK210 BK211 BK217 HB hHeld ⊢
                          refine pure_ (i := 0) (N := some 155) (v := ?_) (a' := ?_) #[true, false, false, false, false, false, false, false, false, false, false] rfl rfl (any_of HT_.out (by kernel_rfl)) (fun _ _ _ h => h) (Or.inl ⟨by rfl, ?_⟩) ?_ ?_
                          rotate_left
                          ·intro w'
                           go_simp
                           with_reducible rfl
                          rotate_left
                          ·simp only [Act.put, List.setIfInBounds_toArray, List.set_cons_zero, List.set_cons_succ, i64_w, i32_w]
                           rfl
                          refine pure_ (i := 2) (N := some 157) (v := ?_) (a' := ?_) #[true, false, true, false, false, false, false, false, false, false, false] rfl rfl (any_of HT_.out (by kernel_rfl)) (fun _ _ _ h => h) (Or.inl ⟨by rfl, ?_⟩) ?_ ?_
                          rotate_left
                          ·intro w'
                           go_simp
                           with_reducible rfl
                          rotate_left
                          ·simp only [Act.put, List.setIfInBounds_toArray, List.set_cons_zero, List.set_cons_succ, i64_w, i32_w]
                           rfl
                          refine pure_ (i := 3) (N := some 158) (v := ?_) (a' := ?_) #[true, false, true, true, false, false, false, false, false, false, false] rfl rfl (any_of HT_.out (by kernel_rfl)) (fun _ _ _ h => h) (Or.inl ⟨by rfl, ?_⟩) ?_ ?_
                          rotate_left
                          ·intro w'
                           go_simp
                           with_reducible rfl
                          rotate_left
                          ·simp only [Act.put, List.setIfInBounds_toArray, List.set_cons_zero, List.set_cons_succ, i64_w, i32_w]
                           rfl
                          refine pure_ (i := 5) (N := some 160) (v := ?_) (a' := ?_) #[true, false, true, true, false, true, false, false, false, false, false] rfl rfl (any_of HT_.out (by kernel_rfl)) (fun _ _ _ h => h) (Or.inl ⟨by rfl, ?_⟩) ?_ ?_
                          rotate_left
                          ·intro w'
                           go_simp
                           with_reducible rfl
                          rotate_left
                          ·simp only [Act.put, List.setIfInBounds_toArray, List.set_cons_zero, List.set_cons_succ, i64_w, i32_w]
                           rfl
                          refine take_ (i := 1) (N := some 156) (v := ?_) (a' := ?_) #[true, true, true, true, false, true, false, false, false, false, false] rfl rfl (take_ofW HT_.out HW_.out (by kernel_rfl)) (fun _ _ _ h => h) (Or.inl ⟨by rfl, ?_⟩) hHeld ?_ ?_
                          rotate_left
                          ·rintro w' ⟨s0, s1, s2, s3⟩
                           go_simp
                           with_reducible rfl
                          rotate_left
                          ·simp only [Act.put, List.setIfInBounds_toArray, List.set_cons_zero, List.set_cons_succ, i64_w, i32_w]
                           rfl
                          refine one_ (i := 4) (N := some 159) #[true, true, true, true, true, true, false, false, false, false, false] rfl rfl (one_of HT_.out (by kernel_rfl)) (by decide) (fun K hK => ?_)
                          refine goes_ Try.func45 (by kernel_rfl) rfl #[.int .i64 x26_6, .int .i64 a5] (by rfl) rfl rfl q60_ ?_
                          with_reducible refine (fixed_Shift.calls k6 x26_6 a5 t232 _ A158.out).mono ?_
                          rintro e w' ⟨rfl, ⟨nd, rfl⟩⟩
                          refine ⟨_, rfl, ?_⟩
                          refine hK.out _ _ ⟨(blk_cell BK217.out 0).trans rfl, (blk_cell BK217.out 1).trans rfl, (blk_cell BK217.out 2).trans rfl, (blk_cell BK217.out 3).trans rfl⟩ (fun hHeld => ?_)
                          clear hK K
                          refine norm_ (a' := ?_) ?_ ?_
                          rotate_left
                          ·show Act.put _ (some 159) _ = _
                           simp only [Act.put, List.setIfInBounds_toArray, List.set_cons_zero, List.set_cons_succ, i64_w, i32_w]
                           rfl
                          refine one_ (i := 6) (N := some 161) #[true, true, true, true, true, true, true, false, false, false, false] rfl rfl (one_of HT_.out (by kernel_rfl)) (by decide) (fun K hK => ?_)
                          refine goes_ Try.func46 (by kernel_rfl) rfl #[.int .i64 t232, .int .i64 a6] (by rfl) rfl rfl q60_ ?_
                          with_reducible refine (fixed_Clamp.calls t232 a6 t233 _ A159.out).mono ?_
                          rintro e w162 ⟨rfl, hb⟩
                          refine ⟨_, rfl, ?_⟩
                          have n0_ := am_ (Kd.N_below q89_ hb)
                          have n1_ := am_ (Kd.R_below q87_ hb)
                          have n2_ := am_ (blk_below (g := gb206) (o := .cells #[.int .i64 a0_0, .int .i64 a0_1, .int .i64 a0_2, .slice A0_3 l0_3.length c0_3] 35 (0, 0)) q74_ hb)
                          have n3_ := am_ (blk_below (g := gb207) (o := .cells #[.int .i64 a1_0, .int .i64 a1_1] 38 (0, 0)) q75_ hb)
                          have n4_ := am_ (blk_below (g := gb208) (o := .cells #[.slice A2 l2.length c2] 22 (0, 0)) q76_ hb)
                          have n5_ := am_ (blk_below (g := gb209) (o := .cells #[.int .i64 a4] 3 (0, 0)) q77_ hb)
                          have n6_ := am_ (blk_below (g := gb210) (o := .cells #[.int .i64 a7_0, .int .i64 a7_1, .int .i64 a7_2, .int .i64 a7_3] 33 (0, 0)) q78_ hb)
                          have n7_ := am_ (blk_below (g := gb211) (o := .cells #[.int .i64 0, .int .i64 0, .int .i64 0, .slice none 0 0] 35 (0, 0)) q79_ hb)
                          have n8_ := am_ (blk_below (g := gb217) (o := .cells #[.int .i64 (wrap64 (a7_2 - a7_0)), .int .i64 (wrap64 (a7_3 - a7_1)), .int .i64 a6, u218003] 35 (0, 0)) q80_ hb)
                          have n9_ := am_ (below_step q1_ hb)
                          clear HO_22
                          clear HO_218003
                          clear BK206
                          clear BK207
                          clear BK208
                          clear BK209
                          clear BK210
                          clear BK211
                          clear BK217
                          clear HB
                          have HO_22 := n0_
                          have HO_218003 := n1_
                          have BK206 := n2_
                          have BK207 := n3_
                          have BK208 := n4_
                          have BK209 := n5_
                          have BK210 := n6_
                          have BK211 := n7_
                          have BK217 := n8_
                          have HB := n9_
                          clear n0_ n1_ n2_ n3_ n4_ n5_ n6_ n7_ n8_ n9_
                          (try clear hb)
                          (try clear hb2)
                          (try clear hk)
                          (try clear hi)
                          refine hK.out _ _ ⟨(blk_cell BK217.out 0).trans rfl, (blk_cell BK217.out 1).trans rfl, (blk_cell BK217.out 2).trans rfl, (blk_cell BK217.out 3).trans rfl⟩ (fun hHeld => ?_)
                          clear hK K
                          refine norm_ (a' := ?_) ?_ ?_
                          rotate_left
                          ·show Act.put _ (some 161) _ = _
                           simp only [Act.put, List.setIfInBounds_toArray, List.set_cons_zero, List.set_cons_succ, i64_w, i32_w]
                           rfl
                          refine one_ (i := 7) (N := some 162) #[true, true, true, true, true, true, true, true, false, false, false] rfl rfl (one_of HT_.out (by kernel_rfl)) (by decide) (fun K hK => ?_)
                          refine value_ (w1 := ?_) (v := ?_) (by rfl) rfl ?_ ?_
                          rotate_left 2
                          ·go_simp
                           constructor
                           ·rfl
                           ·rfl
                          refine hK.out _ _ ⟨(blk_cell (blk_alloc BK217.out _) 0).trans rfl, (blk_cell (blk_alloc BK217.out _) 1).trans rfl, (blk_cell (blk_alloc BK217.out _) 2).trans rfl, (blk_cell (blk_alloc BK217.out _) 3).trans rfl⟩ (fun hHeld => ?_)
                          clear hK K
                          refine norm_ (a' := ?_) ?_ ?_
                          rotate_left
                          ·show Act.put _ (some 162) _ = _
                           simp only [Act.put, List.setIfInBounds_toArray, List.set_cons_zero, List.set_cons_succ, i64_w, i32_w]
                           rfl
                          refine one_ (i := 8) (N := some 163) #[true, true, true, true, true, true, true, true, true, false, false] rfl rfl (one_of HT_.out (by kernel_rfl)) (by decide) (fun K hK => ?_)
                          refine Kd.R_append_step (Kd.int .i64) (w0 := w) w.heap.size (by rfl) (.tmp 156) (.tmp 162) 22 3 (.int .i64 0) 8 rfl Try.underlying22 info3 rfl (by decide) (by omega) u218003 x218003_5 t233 [.int .i64 t233] (fun k_ => k_ ≠ gb209) (fun _ => False) rfl rfl ?aP (fun _ hk => hk.elim) ?aF ?aO ?aB ?aS ?aL ?_
                          (case aP => exact rfl)
                          (case aB => exact q1_)
                          (case aF => exact (fun k_ hk => Kd.freshB (g := gb209) (o := .cells #[.int .i64 a4] 3 (0, 0)) q77_ k_ hk))
                          (case aO => exact q87_)
                          (case aS => exact (below_size q1_))
                          (case aL => have := LMc160.out; omega)
                          intro v235 w163 ho hb hg hat
                          rw [← Ny234.out] at ho
                          have n0_ := am_ (Kd.N_afterv (ok := (fun k_ => k_ ≠ gb206 ∧ k_ ≠ gb207 ∧ k_ ≠ gb208 ∧ k_ ≠ gb209 ∧ k_ ≠ gb210 ∧ k_ ≠ gb211 ∧ k_ ≠ gb217)) (by (with_reducible repeat (first | apply Kd.N_alloc | apply Kd.N_drewN | apply Kd.N_drew)); exact Kd.N_mono HO_22.out (fun _ hk => ⟨⟨hk.2.1, ⟨hk.2.2.1, ⟨hk.2.2.2.1, ⟨hk.2.2.2.2.1, ⟨hk.2.2.2.2.2.1, ⟨hk.2.2.2.2.2.2.1, hk.2.2.2.2.2.2.2⟩⟩⟩⟩⟩⟩, hk.1⟩)) hg hat)
                          have n1_ := am_ (blk_grown (g := gb206) (o := .cells #[.int .i64 a0_0, .int .i64 a0_1, .int .i64 a0_2, .slice A0_3 l0_3.length c0_3] 35 (0, 0)) q74_ hg (Kd.R_ne HO_218003.out BK206.out (by decide)))
                          have n2_ := am_ (blk_grown (g := gb207) (o := .cells #[.int .i64 a1_0, .int .i64 a1_1] 38 (0, 0)) q75_ hg (Kd.R_ne HO_218003.out BK207.out (by decide)))
                          have n3_ := am_ (blk_grown (g := gb208) (o := .cells #[.slice A2 l2.length c2] 22 (0, 0)) q76_ hg (Kd.R_ne HO_218003.out BK208.out (by decide)))
                          have n4_ := am_ (blk_grown (g := gb209) (o := .cells #[.int .i64 a4] 3 (0, 0)) q77_ hg (Kd.R_away HO_218003.out (fun _ hk => hk)))
                          have n5_ := am_ (blk_grown (g := gb210) (o := .cells #[.int .i64 a7_0, .int .i64 a7_1, .int .i64 a7_2, .int .i64 a7_3] 33 (0, 0)) q78_ hg (Kd.R_ne HO_218003.out BK210.out (by decide)))
                          have n6_ := am_ (blk_grown (g := gb211) (o := .cells #[.int .i64 0, .int .i64 0, .int .i64 0, .slice none 0 0] 35 (0, 0)) q79_ hg (Kd.R_ne HO_218003.out BK211.out (by decide)))
                          have n7_ := am_ (blk_grown (g := gb217) (o := .cells #[.int .i64 (wrap64 (a7_2 - a7_0)), .int .i64 (wrap64 (a7_3 - a7_1)), .int .i64 a6, u218003] 35 (0, 0)) q80_ hg (Kd.R_ne HO_218003.out BK217.out (by decide)))
                          have n8_ := am_ (hb)
                          have n9_ := am_ (ho)
                          clear HO_22
                          clear BK206
                          clear BK207
                          clear BK208
                          clear BK209
                          clear BK210
                          clear BK211
                          clear BK217
                          clear HB
                          clear HO_218003
                          have HO_22 := n0_
                          have BK206 := n1_
                          have BK207 := n2_
                          have BK208 := n3_
                          have BK209 := n4_
                          have BK210 := n5_
                          have BK211 := n6_
                          have BK217 := n7_
                          have HB := n8_
                          have HO236 := n9_
                          clear n0_ n1_ n2_ n3_ n4_ n5_ n6_ n7_ n8_ n9_
                          clear ho hb hg hat
                          obtain ⟨Ao164, co164, eo164⟩ := Kd.R_slice HO236.out
                          (first | subst eo164 | (injection eo164 with f1_ f2_ f3_; have f4_ := f1_.symm; have f5_ := f3_.symm; clear f1_ f2_ f3_; subst f4_; subst f5_))
                          refine hK.out _ _ ⟨(blk_cell BK217.out 0).trans rfl, (blk_cell BK217.out 1).trans rfl, (blk_cell BK217.out 2).trans rfl, (blk_cell BK217.out 3).trans rfl⟩ (fun hHeld => ?_)
                          clear hK K
                          refine norm_ (a' := ?_) ?_ ?_
                          rotate_left
                          ·show Act.put _ (some 163) _ = _
                           simp only [Act.put, List.setIfInBounds_toArray, List.set_cons_zero, List.set_cons_succ, i64_w, i32_w]
                           rfl
                          refine pure_ (i := 9) (N := some 164) (v := ?_) (a' := ?_) #[true, true, true, true, true, true, true, true, true, true, false] rfl rfl (any_of HT_.out (by kernel_rfl)) (fun _ _ _ h => h) (Or.inl ⟨by rfl, ?_⟩) ?_ ?_
                          rotate_left
                          ·intro w'
                           go_simp
                           with_reducible rfl
                          rotate_left
                          ·simp only [Act.put, List.setIfInBounds_toArray, List.set_cons_zero, List.set_cons_succ, i64_w, i32_w]
                           rfl
                          refine last_ (i := 10) (N := none) #[true, true, true, true, true, true, true, true, true, true, true] rfl rfl (one_of HT_.out (by kernel_rfl)) (by decide) (fun K hK => ?_)
                          have hs165 : w163.cell? ⟨gb217, 3, none⟩ = some (u218003) := (blk_cell BK217.out 3).trans rfl
                          have hfs165 := blk_frozen BK217.out 3
                          have hns165_0 := NB206_217.out
                          have hns165_1 := NB207_217.out
                          have hns165_2 := NB208_217.out
                          have hns165_3 := NB209_217.out
                          have hns165_4 := NB210_217.out
                          have hns165_5 := NB211_217.out
                          have hms165_0 := NB217_206.out
                          have hms165_1 := NB217_207.out
                          have hms165_2 := NB217_208.out
                          have hms165_3 := NB217_209.out
                          have hms165_4 := NB217_210.out
                          have hms165_5 := NB217_211.out
                          refine skip_ (w1 := ?_) (by rfl) rfl ?_ ?_
                          rotate_left
                          ·go_simp
                           rfl
                          refine hK.out _ _ ?_
                          clear hK K
                          refine done_ (done_of HT_.out (by kernel_rfl)) ?_
                          try go_wp2
                          (try simp only [← hl22_5])
                          go_roundg k6
                          case measure => have := HJ8.out; have := HJ48.out; have := HK3.out; have := HK4.out; have := HK5.out; have := HK6.out; omega
                          case rel => exact ⟨(wrap64 (x128_5 + 1)), (y234), (.slice Ao164 y234.length co164), q109_, q105_, ⟨by have := HJ8.out; have := HJ48.out; have := HK3.out; have := HK4.out; have := HK5.out; have := HK6.out; omega⟩, ⟨by (try simp only [hl22_5]); (with_reducible repeat (first | apply Kd.N_alloc | apply Kd.N_drewN | apply Kd.N_drew)); exact Kd.N_mono (Kd.N_far (p := ⟨gb217, 3, none⟩) (Kd.N_mono HO_22.out (fun k_ hk => (⟨hk, hk.1.2.2.2.2.2.2⟩ : _ ∧ k_ ≠ gb217))) (fun _ hk => hk.2) (.slice Ao164 y234.length co164)) (fun _ hk => ⟨hk.1.2, ⟨hk.1.1.1, ⟨hk.1.1.2.1, ⟨hk.1.1.2.2.1, ⟨hk.1.1.2.2.2.1, ⟨hk.1.1.2.2.2.2.1, ⟨hk.1.1.2.2.2.2.2.1, hk.1.1.2.2.2.2.2.2⟩⟩⟩⟩⟩⟩⟩)⟩, ⟨by (try simp only [hl22_5]); (with_reducible repeat (first | apply Kd.R_alloc | apply Kd.R_drewN | apply Kd.R_drew)); exact Kd.R_mono (Kd.R_far (p := ⟨gb217, 3, none⟩) (Kd.R_types HO236.out BK217.out (by decide)) (fun _ hk => hk.2) (.slice Ao164 y234.length co164)) (fun _ hk => hk.1)⟩, ⟨by (try simp only [hl22_5]); (with_reducible repeat (first | refine blk_drewN ?_ _ | refine blk_drew ?_ | refine blk_alloc ?_ _)); refine blk_far ?_ NB206_217.out _; (with_reducible repeat (first | refine blk_drewN ?_ _ | refine blk_drew ?_ | refine blk_alloc ?_ _)); exact BK206.out⟩, ⟨by (try simp only [hl22_5]); (with_reducible repeat (first | refine blk_drewN ?_ _ | refine blk_drew ?_ | refine blk_alloc ?_ _)); refine blk_far ?_ NB207_217.out _; (with_reducible repeat (first | refine blk_drewN ?_ _ | refine blk_drew ?_ | refine blk_alloc ?_ _)); exact BK207.out⟩, ⟨by (try simp only [hl22_5]); (with_reducible repeat (first | refine blk_drewN ?_ _ | refine blk_drew ?_ | refine blk_alloc ?_ _)); refine blk_far ?_ NB208_217.out _; (with_reducible repeat (first | refine blk_drewN ?_ _ | refine blk_drew ?_ | refine blk_alloc ?_ _)); exact BK208.out⟩, ⟨by (try simp only [hl22_5]); (with_reducible repeat (first | refine blk_drewN ?_ _ | refine blk_drew ?_ | refine blk_alloc ?_ _)); refine blk_far ?_ NB209_217.out _; (with_reducible repeat (first | refine blk_drewN ?_ _ | refine blk_drew ?_ | refine blk_alloc ?_ _)); exact BK209.out⟩, ⟨by (try simp only [hl22_5]); (with_reducible repeat (first | refine blk_drewN ?_ _ | refine blk_drew ?_ | refine blk_alloc ?_ _)); refine blk_far ?_ NB210_217.out _; (with_reducible repeat (first | refine blk_drewN ?_ _ | refine blk_drew ?_ | refine blk_alloc ?_ _)); exact BK210.out⟩, ⟨by (try simp only [hl22_5]); (with_reducible repeat (first | refine blk_drewN ?_ _ | refine blk_drew ?_ | refine blk_alloc ?_ _)); refine blk_far ?_ NB211_217.out _; (with_reducible repeat (first | refine blk_drewN ?_ _ | refine blk_drew ?_ | refine blk_alloc ?_ _)); exact BK211.out⟩, ⟨by (try simp only [hl22_5]); (with_reducible repeat (first | refine blk_drewN ?_ _ | refine blk_drew ?_ | refine blk_alloc ?_ _)); refine blk_put (cs := #[.int .i64 (wrap64 (a7_2 - a7_0)), .int .i64 (wrap64 (a7_3 - a7_1)), .int .i64 a6, u218003]) ?_ 3 _ rfl; (with_reducible repeat (first | refine blk_drewN ?_ _ | refine blk_drew ?_ | refine blk_alloc ?_ _)); exact BK217.out⟩, ⟨q1_⟩⟩
                         ·rw [if_neg c160] at H
                          exact absurd H (by simp)
                     ·rw [if_neg c148] at H
                      have c148b0 : decide (x128_5 < (wrap64 (a7_2 - a7_0))) = false := decide_eq_false c148
                      clear c148
                      have H' := am_ H
                      clear H
                      go_wp2
                      (try simp only [← hl22_5])
                      go_roundg k5
                      case measure => have := HJ8.out; have := HJ48.out; have := HK3.out; have := HK4.out; have := HK5.out; omega
                      case rel => exact ⟨(y228), (wrap64 (x104_4 + 1)), (x218003_5), (u218003), q109_, q105_, ⟨by have := HJ8.out; have := HJ48.out; have := HK3.out; have := HK4.out; have := HK5.out; omega⟩, ⟨q63_⟩, ⟨q61_⟩, ⟨q52_⟩, ⟨q53_⟩, ⟨q54_⟩, ⟨q55_⟩, ⟨q56_⟩, ⟨q57_⟩, ⟨q58_⟩, ⟨q1_⟩⟩
                  ·rw [if_neg c136] at H
                   exact absurd H (by simp)
                 ·rw [if_neg c135] at H
                  exact absurd H (by simp)
               ·rw [if_neg c131] at H
                have c131b0 : decide (x104_4 < (wrap64 (a7_3 - a7_1))) = false := decide_eq_false c131
                clear c131
                simp only [Option.some.injEq, Prod.mk.injEq] at H
                obtain ⟨rfl, rfl, rfl, rfl, rfl⟩ := H
                have hnb166 := NB217_206.out
                have hnc166 := NB206_217.out
                have hnb167 := NB217_207.out
                have hnc167 := NB207_217.out
                have hnb168 := NB217_208.out
                have hnc168 := NB208_217.out
                have hnb169 := NB217_209.out
                have hnc169 := NB209_217.out
                have hnb170 := NB217_210.out
                have hnc170 := NB210_217.out
                have hnb171 := NB217_211.out
                have hnc171 := NB211_217.out
                have hcz172_0 : wr.cell? ⟨gb217, 0, none⟩ = some (.int .i64 (wrap64 (a7_2 - a7_0))) := (blk_cell BK217.out 0).trans rfl
                have hcz172_1 : wr.cell? ⟨gb217, 1, none⟩ = some (.int .i64 (wrap64 (a7_3 - a7_1))) := (blk_cell BK217.out 1).trans rfl
                have hcz172_2 : wr.cell? ⟨gb217, 2, none⟩ = some (.int .i64 a6) := (blk_cell BK217.out 2).trans rfl
                have hcz172_3 : wr.cell? ⟨gb217, 3, none⟩ = some (u218003) := (blk_cell BK217.out 3).trans rfl
                have hfz172_0 := blk_frozen BK217.out 0
                have hfz172_1 := blk_frozen BK217.out 1
                have hfz172_2 := blk_frozen BK217.out 2
                have hfz172_3 := blk_frozen BK217.out 3
                have hnb173 := NB211_206.out
                have hnc173 := NB206_211.out
                have hnb174 := NB211_207.out
                have hnc174 := NB207_211.out
                have hnb175 := NB211_208.out
                have hnc175 := NB208_211.out
                have hnb176 := NB211_209.out
                have hnc176 := NB209_211.out
                have hnb177 := NB211_210.out
                have hnc177 := NB210_211.out
                have hcz178_0 : wr.cell? ⟨gb211, 0, none⟩ = some (.int .i64 0) := (blk_cell BK211.out 0).trans rfl
                have hcz178_1 : wr.cell? ⟨gb211, 1, none⟩ = some (.int .i64 0) := (blk_cell BK211.out 1).trans rfl
                have hcz178_2 : wr.cell? ⟨gb211, 2, none⟩ = some (.int .i64 0) := (blk_cell BK211.out 2).trans rfl
                have hcz178_3 : wr.cell? ⟨gb211, 3, none⟩ = some (.slice none 0 0) := (blk_cell BK211.out 3).trans rfl
                have hfz178_0 := blk_frozen BK211.out 0
                have hfz178_1 := blk_frozen BK211.out 1
                have hfz178_2 := blk_frozen BK211.out 2
                have hfz178_3 := blk_frozen BK211.out 3
                obtain ⟨Ao179, co179, eo179⟩ := Kd.R_slice HO_218003.out
                subst eo179
                go_wp2
                refine bodyPost_ret (results_ct rfl _ _ gb211 35 #[.int .i64 (wrap64 (a7_2 - a7_0)), .int .i64 (wrap64 (a7_3 - a7_1)), .int .i64 a6, .slice Ao179 x218003_4.length co179] (0, 0) _ rfl (by (with_reducible repeat (first | refine blk_drewN ?_ _ | refine blk_drew ?_ | refine blk_alloc ?_ _)); refine blk_put (cs := #[.int .i64 (wrap64 (a7_2 - a7_0)), .int .i64 (wrap64 (a7_3 - a7_1)), .int .i64 a6, .slice none 0 0]) ?_ 3 _ rfl; (with_reducible repeat (first | refine blk_drewN ?_ _ | refine blk_drew ?_ | refine blk_alloc ?_ _)); refine blk_put (cs := #[.int .i64 (wrap64 (a7_2 - a7_0)), .int .i64 (wrap64 (a7_3 - a7_1)), .int .i64 0, .slice none 0 0]) ?_ 2 _ rfl; (with_reducible repeat (first | refine blk_drewN ?_ _ | refine blk_drew ?_ | refine blk_alloc ?_ _)); refine blk_put (cs := #[.int .i64 (wrap64 (a7_2 - a7_0)), .int .i64 0, .int .i64 0, .slice none 0 0]) ?_ 1 _ rfl; (with_reducible repeat (first | refine blk_drewN ?_ _ | refine blk_drew ?_ | refine blk_alloc ?_ _)); refine blk_put (cs := #[.int .i64 0, .int .i64 0, .int .i64 0, .slice none 0 0]) ?_ 0 _ rfl; (with_reducible repeat (first | refine blk_drewN ?_ _ | refine blk_drew ?_ | refine blk_alloc ?_ _)); exact BK211.out) Try.underlying35 rfl (by kernel_rfl)) rfl ?_
                exact ⟨_, q103_, by (with_reducible repeat (first | apply Kd.R_alloc | apply Kd.R_drewN | apply Kd.R_drew)); exact Kd.R_mono (Kd.R_far (p := ⟨gb211, 3, none⟩) (Kd.R_far (p := ⟨gb211, 2, none⟩) (Kd.R_far (p := ⟨gb211, 1, none⟩) (Kd.R_far (p := ⟨gb211, 0, none⟩) (Kd.R_types HO_218003.out BK211.out (by decide)) (fun _ hk => hk.2) (.int .i64 (wrap64 (a7_2 - a7_0)))) (fun _ hk => hk.2) (.int .i64 (wrap64 (a7_3 - a7_1)))) (fun _ hk => hk.2) (.int .i64 a6)) (fun _ hk => hk.2) (.slice Ao179 x218003_4.length co179)) (fun _ hk => trivial), q1_⟩
         ·rw [if_neg c98] at H
          exact absurd H (by simp)
        ·rw [if_neg c97] at H
         exact absurd H (by simp)
    ·rw [if_neg c48] at H
     have c48b0 : (t214 == 0) = false := beq_eq_false_iff_ne.mpr c48
     have c48b1 : (t214 != 0) = true := bne_iff_ne.mpr c48
     simp only [Option.some.injEq, Prod.mk.injEq] at H
     obtain ⟨rfl, rfl, rfl, rfl, rfl⟩ := H
     have hnb180 := NB206_207.out
     have hnc180 := NB207_206.out
     have hnb181 := NB206_208.out
     have hnc181 := NB208_206.out
     have hnb182 := NB206_209.out
     have hnc182 := NB209_206.out
     have hnb183 := NB206_210.out
     have hnc183 := NB210_206.out
     have hnb184 := NB206_211.out
     have hnc184 := NB211_206.out
     have hcz185_0 : wc.cell? ⟨gb206, 0, none⟩ = some (.int .i64 a0_0) := (blk_cell BK206.out 0).trans rfl
     have hcz185_1 : wc.cell? ⟨gb206, 1, none⟩ = some (.int .i64 a0_1) := (blk_cell BK206.out 1).trans rfl
     have hcz185_2 : wc.cell? ⟨gb206, 2, none⟩ = some (.int .i64 a0_2) := (blk_cell BK206.out 2).trans rfl
     have hcz185_3 : wc.cell? ⟨gb206, 3, none⟩ = some (.slice A0_3 l0_3.length c0_3) := (blk_cell BK206.out 3).trans rfl
     have hfz185_0 := blk_frozen BK206.out 0
     have hfz185_1 := blk_frozen BK206.out 1
     have hfz185_2 := blk_frozen BK206.out 2
     have hfz185_3 := blk_frozen BK206.out 3
     have hnb186 := NB208_207.out
     have hnc186 := NB207_208.out
     have hnb187 := NB208_209.out
     have hnc187 := NB209_208.out
     have hnb188 := NB208_210.out
     have hnc188 := NB210_208.out
     have hnb189 := NB208_211.out
     have hnc189 := NB211_208.out
     have hcz190_0 : wc.cell? ⟨gb208, 0, none⟩ = some (.slice A2 l2.length c2) := (blk_cell BK208.out 0).trans rfl
     have hfz190_0 := blk_frozen BK208.out 0
     have hnb191 := NB209_207.out
     have hnc191 := NB207_209.out
     have hnb192 := NB209_210.out
     have hnc192 := NB210_209.out
     have hnb193 := NB209_211.out
     have hnc193 := NB211_209.out
     have hcz194_0 : wc.cell? ⟨gb209, 0, none⟩ = some (.int .i64 a4) := (blk_cell BK209.out 0).trans rfl
     have hfz194_0 := blk_frozen BK209.out 0
     go_wp2_with (first | ((with_reducible refine gate_callee (f := 12) rfl ?_); refine goesL_ (some 47) rfl rfl Try.func12 (by kernel_rfl) rfl #[.int .i64 a0_2, .slice A2 l2.length c2, .slice A3 l3.length c3, .int .i64 a4, .int .i64 a5, .int .i64 a6] rfl q60_ ?_; (with_reducible refine (separable_Check.calls kj8 a0_2 _ _ l2 _ _ l3 a4 a5 a6 t214 _ ?side1 ?side2 ?side3 ?side4 A47.out).mono ?_); (case side1 => repeat (first | exact (Kd.C_below HR2.out HB.out) | (with_reducible refine Kd.C_alloc ?_ _) | (with_reducible refine Kd.C_drewN ?_ _) | (with_reducible refine Kd.C_drew ?_))); (case side2 => exact HC2.out); (case side3 => repeat (first | exact (Kd.C_below HR3.out HB.out) | (with_reducible refine Kd.C_alloc ?_ _) | (with_reducible refine Kd.C_drewN ?_ _) | (with_reducible refine Kd.C_drew ?_))); (case side4 => exact HC3.out); rintro e w195 ⟨rfl, hb⟩; refine ⟨_, rfl, ?_⟩; have n0_ := am_ (blk_below (g := gb206) (o := .cells #[.int .i64 a0_0, .int .i64 a0_1, .int .i64 a0_2, .slice A0_3 l0_3.length c0_3] 35 (0, 0)) q74_ hb); have n1_ := am_ (blk_below (g := gb207) (o := .cells #[.int .i64 a1_0, .int .i64 a1_1] 38 (0, 0)) q75_ hb); have n2_ := am_ (blk_below (g := gb208) (o := .cells #[.slice A2 l2.length c2] 22 (0, 0)) q76_ hb); have n3_ := am_ (blk_below (g := gb209) (o := .cells #[.int .i64 a4] 3 (0, 0)) q77_ hb); have n4_ := am_ (blk_below (g := gb210) (o := .cells #[.int .i64 a7_0, .int .i64 a7_1, .int .i64 a7_2, .int .i64 a7_3] 33 (0, 0)) q78_ hb); have n5_ := am_ (blk_below (g := gb211) (o := .cells #[.int .i64 0, .int .i64 0, .int .i64 0, .slice none 0 0] 35 (0, 0)) q79_ hb); have n6_ := am_ (below_step q2_ hb); clear BK206; clear BK207; clear BK208; clear BK209; clear BK210; clear BK211; clear HB; have BK206 := n0_; have BK207 := n1_; have BK208 := n2_; have BK209 := n3_; have BK210 := n4_; have BK211 := n5_; have HB := n6_; clear n0_ n1_ n2_ n3_ n4_ n5_ n6_; have hnb196 := NB211_207.out; have hnc196 := NB207_211.out; have hnb197 := NB211_210.out; have hnc197 := NB210_211.out; have hcz198_0 : w195.cell? ⟨gb211, 0, none⟩ = some (.int .i64 0) := (blk_cell BK211.out 0).trans rfl; have hcz198_1 : w195.cell? ⟨gb211, 1, none⟩ = some (.int .i64 0) := (blk_cell BK211.out 1).trans rfl; have hcz198_2 : w195.cell? ⟨gb211, 2, none⟩ = some (.int .i64 0) := (blk_cell BK211.out 2).trans rfl; have hcz198_3 : w195.cell? ⟨gb211, 3, none⟩ = some (.slice none 0 0) := (blk_cell BK211.out 3).trans rfl; have hfz198_0 := blk_frozen BK211.out 0; have hfz198_1 := blk_frozen BK211.out 1; have hfz198_2 := blk_frozen BK211.out 2; have hfz198_3 := blk_frozen BK211.out 3))
     refine bodyPost_ret (results_ct rfl _ _ gb211 35 #[.int .i64 0, .int .i64 0, .int .i64 0, .slice none 0 0] (0, 0) _ rfl q0_ Try.underlying35 rfl (by kernel_rfl)) rfl ?_
     exact ⟨_, q103_, q59_, q2_⟩

end Go.Proofs.Ytcfllciehmgikaa.PSeparableChecks
