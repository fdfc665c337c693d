-- Written by a program of the session (wip/tools/pack.py): the printed texts, pruned; checked by Lean.
import Derived.Test.YtkipnpgcpohlcaaKIntegralTilesa
import Derived.Test.YtkipnpgcpohlcaaKIntegralTilesx0
import Derived.Test.YtkipnpgcpohlcaaKIntegralTilesx10
import Derived.Test.YtkipnpgcpohlcaaKIntegralTilesx11
namespace Go.Proofs.Ytkipnpgcpohlcaa.PIntegralTiles
open Go.RowKit Go.Proofs.YtkipnpgcpohlcaaW.PrintWords Go.Proofs.YtkipnpgcpohlcaaW.PrintLast Go.Proofs.YtkipnpgcpohlcaaW.PrintMore
attribute [local go_sem] max2_int min2_int max_two min_two max_three min_three max_four min_four   -- for this text's walks alone
set_option linter.unusedVariables false
set_option linter.unusedSimpArgs false
mutual
def tilefarmref13_Tile.j0 : Nat → List Int → List Int → Int → Int → Bool → Int → Int → Int → List Int → Int → Int → Int → Int → Option (Int × Int × Int × List Int × Int)
 | 0, _, _, _, _, _, _, _, _, _, _, _, _, _ => none
 | k + 1, x2, x3, x4, x12, x61, x321000, x321001, x321002, x321003, x322000, x322001, x322002, x322003 => if x61 = true then (some (0, 0, 0, ([] : List Int), 8)) else ((some (([x4] : List Int) : List Int)).bind fun y331 => (if y331.length + x2.length < 17592186044416 then ((some (y331 ++ x2 : List Int)).bind fun y334 => (if y334.length + x3.length < 17592186044416 then (tilefarmref13_Tile.l0 k x2 x3 x4 x12 (y334 ++ x3) 0 x321000 x321001 x321002 x321003 x322000 x322001 x322002 x322003) else (none))) else (none)))
def tilefarmref13_Tile.l0 : Nat → List Int → List Int → Int → Int → List Int → Int → Int → Int → Int → List Int → Int → Int → Int → Int → Option (Int × Int × Int × List Int × Int)
 | 0, _, _, _, _, _, _, _, _, _, _, _, _, _, _ => none
 | k + 1, x2, x3, x4, x12, x14, x15, x321000, x321001, x321002, x321003, x322000, x322001, x322002, x322003 => if x15 < (x14.length : Int) then (if 0 ≤ x15 then (if (rd x14 x15) < 0 then (some (0, 0, 0, ([] : List Int), 2)) else (if (rd x14 x15) > x12 then (some (0, 0, 0, ([] : List Int), 2)) else (tilefarmref13_Tile.l0 k x2 x3 x4 x12 x14 (wrap64 (x15 + 1)) x321000 x321001 x321002 x321003 x322000 x322001 x322002 x322003))) else (none)) else ((tilefarmref4_New.f (x3.length : Int) (x2.length : Int) x12).bind fun bt342 => (tilefarmref13_Tile.l1 k x2 x3 x4 x12 0 x321000 x321001 x321002 x321003 x322000 x322001 x322002 x322003 bt342.1 bt342.2.1 bt342.2.2.1 bt342.2.2.2.1))
def tilefarmref13_Tile.l1 : Nat → List Int → List Int → Int → Int → Int → Int → Int → Int → List Int → Int → Int → Int → Int → Int → Int → Int → List Int → Option (Int × Int × Int × List Int × Int)
 | 0, _, _, _, _, _, _, _, _, _, _, _, _, _, _, _, _, _ => none
 | k + 1, x2, x3, x4, x12, x18, x321000, x321001, x321002, x321003, x322000, x322001, x322002, x322003, x350000, x350001, x350002, x350003 => if x18 < x350001 then (tilefarmref13_Tile.l2 k x2 x3 x4 x12 x18 0 x321000 x321001 x321002 x321003 x322000 x322001 x322002 x322003 x350000 x350001 x350002 x350003) else (some (x350000, x350001, x350002, x350003, 0))
def tilefarmref13_Tile.l2 : Nat → List Int → List Int → Int → Int → Int → Int → Int → Int → Int → List Int → Int → Int → Int → Int → Int → Int → Int → List Int → Option (Int × Int × Int × List Int × Int)
 | 0, _, _, _, _, _, _, _, _, _, _, _, _, _, _, _, _, _, _ => none
 | k + 1, x2, x3, x4, x12, x18, x19, x321000, x321001, x321002, x321003, x322000, x322001, x322002, x322003, x350000, x350001, x350002, x350003 => if x19 < x350000 then (if 0 ≤ x18 then (if x18 < (x2.length : Int) then (if 0 ≤ x19 then (if x19 < (x3.length : Int) then (tilefarmref13_Tile.l3 k x2 x3 x4 x12 x18 x19 (wrap64 ((wrap64 ((rd x2 x18) + (rd x3 x19))) - x4)) 0 x321000 x321001 x321002 x321003 x322000 x322001 x322002 x322003 x350000 x350001 x350002 x350003) else (none)) else (none)) else (none)) else (none)) else (tilefarmref13_Tile.l1 k x2 x3 x4 x12 (wrap64 (x18 + 1)) x321000 x321001 x321002 x321003 x322000 x322001 x322002 x322003 x350000 x350001 x350002 x350003)
def tilefarmref13_Tile.l3 : Nat → List Int → List Int → Int → Int → Int → Int → Int → Int → Int → Int → Int → List Int → Int → Int → Int → Int → Int → Int → Int → List Int → Option (Int × Int × Int × List Int × Int)
 | 0, _, _, _, _, _, _, _, _, _, _, _, _, _, _, _, _, _, _, _, _ => none
 | k + 1, x2, x3, x4, x12, x18, x19, x20, x21, x321000, x321001, x321002, x321003, x322000, x322001, x322002, x322003, x350000, x350001, x350002, x350003 => if x21 ≤ x18 then (tilefarmref13_Tile.l4 k x2 x3 x4 x12 x18 x19 x20 x21 0 x321000 x321001 x321002 x321003 x322000 x322001 x322002 x322003 x350000 x350001 x350002 x350003) else (if x20 < 0 then (some (0, 0, 0, ([] : List Int), 2)) else (if x20 > x12 then (some (0, 0, 0, ([] : List Int), 2)) else (if 0 ≤ (wrap64 ((wrap64 (x18 * x350000)) + x19)) then (if (wrap64 ((wrap64 (x18 * x350000)) + x19)) < (x350003.length : Int) then (tilefarmref13_Tile.l2 k x2 x3 x4 x12 x18 (wrap64 (x19 + 1)) x321000 x321001 x321002 x321003 x322000 x322001 x322002 x322003 x350000 x350001 x350002 (x350003.set ((wrap64 ((wrap64 (x18 * x350000)) + x19)) : Int).toNat x20)) else (none)) else (none))))
def tilefarmref13_Tile.l4 : Nat → List Int → List Int → Int → Int → Int → Int → Int → Int → Int → Int → Int → Int → List Int → Int → Int → Int → Int → Int → Int → Int → List Int → Option (Int × Int × Int × List Int × Int)
 | 0, _, _, _, _, _, _, _, _, _, _, _, _, _, _, _, _, _, _, _, _, _ => none
 | k + 1, x2, x3, x4, x12, x18, x19, x20, x21, x22, x321000, x321001, x321002, x321003, x322000, x322001, x322002, x322003, x350000, x350001, x350002, x350003 => if x22 ≤ x19 then (if 0 ≤ (wrap64 ((wrap64 ((wrap64 ((wrap64 (x322001 + x21)) * x321000)) + x322000)) + x22)) then (if (wrap64 ((wrap64 ((wrap64 ((wrap64 (x322001 + x21)) * x321000)) + x322000)) + x22)) < (x321003.length : Int) then (tilefarmref13_Tile.l4 k x2 x3 x4 x12 x18 x19 (wrap64 (x20 + (rd x321003 (wrap64 ((wrap64 ((wrap64 ((wrap64 (x322001 + x21)) * x321000)) + x322000)) + x22))))) x21 (wrap64 (x22 + 1)) x321000 x321001 x321002 x321003 x322000 x322001 x322002 x322003 x350000 x350001 x350002 x350003) else (none)) else (none)) else (tilefarmref13_Tile.l3 k x2 x3 x4 x12 x18 x19 x20 (wrap64 (x21 + 1)) x321000 x321001 x321002 x321003 x322000 x322001 x322002 x322003 x350000 x350001 x350002 x350003)
end
def tilefarmref13_Tile.f (k : Nat) (a0_0 : Int) (a0_1 : Int) (a0_2 : Int) (l0_3 : List Int) (a1_0 : Int) (a1_1 : Int) (a1_2 : Int) (a1_3 : Int) (l2 : List Int) (l3 : List Int) (a4 : Int) : Option (Int × Int × Int × List Int × Int) := (tilefarmref13_check.f k a0_0 a0_1 a0_2 l0_3).bind fun bt323 => (if bt323.2 = 0 then ((tilefarmref2_Full.f a1_0 a1_1 a1_2 a1_3).bind fun t325 => (if t325 = true then ((tilefarmref4_Cover.f a0_0 a0_1 a0_2 l0_3).bind fun bt326 => ((tilefarmref2_Inside.f a1_0 a1_1 a1_2 a1_3 bt326.1 bt326.2.1 bt326.2.2.1 bt326.2.2.2).bind fun t330 => (if t330 = true then (if (l2.length : Int) = (wrap64 (a1_3 - a1_1)) then (tilefarmref13_Tile.j0 k l2 l3 a4 bt323.1 ((l3.length : Int) != (wrap64 (a1_2 - a1_0))) a0_0 a0_1 a0_2 l0_3 a1_0 a1_1 a1_2 a1_3) else (tilefarmref13_Tile.j0 k l2 l3 a4 bt323.1 true a0_0 a0_1 a0_2 l0_3 a1_0 a1_1 a1_2 a1_3)) else (tilefarmref13_Tile.j0 k l2 l3 a4 bt323.1 true a0_0 a0_1 a0_2 l0_3 a1_0 a1_1 a1_2 a1_3)))) else (tilefarmref13_Tile.j0 k l2 l3 a4 bt323.1 true a0_0 a0_1 a0_2 l0_3 a1_0 a1_1 a1_2 a1_3))) else (some (0, 0, 0, ([] : List Int), bt323.2)))
theorem tilefarmref13_Tile.mono_l : ∀ k, (∀ y0 y1 y2 y3 y4 y5 y6 y7 y8 y9 y10 y11 y12, LeO (tilefarmref13_Tile.j0 k y0 y1 y2 y3 y4 y5 y6 y7 y8 y9 y10 y11 y12) (tilefarmref13_Tile.j0 (k + 1) y0 y1 y2 y3 y4 y5 y6 y7 y8 y9 y10 y11 y12)) ∧ (∀ y0 y1 y2 y3 y4 y5 y6 y7 y8 y9 y10 y11 y12 y13, LeO (tilefarmref13_Tile.l0 k y0 y1 y2 y3 y4 y5 y6 y7 y8 y9 y10 y11 y12 y13) (tilefarmref13_Tile.l0 (k + 1) y0 y1 y2 y3 y4 y5 y6 y7 y8 y9 y10 y11 y12 y13)) ∧ (∀ y0 y1 y2 y3 y4 y5 y6 y7 y8 y9 y10 y11 y12 y13 y14 y15 y16, LeO (tilefarmref13_Tile.l1 k y0 y1 y2 y3 y4 y5 y6 y7 y8 y9 y10 y11 y12 y13 y14 y15 y16) (tilefarmref13_Tile.l1 (k + 1) y0 y1 y2 y3 y4 y5 y6 y7 y8 y9 y10 y11 y12 y13 y14 y15 y16)) ∧ (∀ y0 y1 y2 y3 y4 y5 y6 y7 y8 y9 y10 y11 y12 y13 y14 y15 y16 y17, LeO (tilefarmref13_Tile.l2 k y0 y1 y2 y3 y4 y5 y6 y7 y8 y9 y10 y11 y12 y13 y14 y15 y16 y17) (tilefarmref13_Tile.l2 (k + 1) y0 y1 y2 y3 y4 y5 y6 y7 y8 y9 y10 y11 y12 y13 y14 y15 y16 y17)) ∧ (∀ y0 y1 y2 y3 y4 y5 y6 y7 y8 y9 y10 y11 y12 y13 y14 y15 y16 y17 y18 y19, LeO (tilefarmref13_Tile.l3 k y0 y1 y2 y3 y4 y5 y6 y7 y8 y9 y10 y11 y12 y13 y14 y15 y16 y17 y18 y19) (tilefarmref13_Tile.l3 (k + 1) y0 y1 y2 y3 y4 y5 y6 y7 y8 y9 y10 y11 y12 y13 y14 y15 y16 y17 y18 y19)) ∧ (∀ y0 y1 y2 y3 y4 y5 y6 y7 y8 y9 y10 y11 y12 y13 y14 y15 y16 y17 y18 y19 y20, LeO (tilefarmref13_Tile.l4 k y0 y1 y2 y3 y4 y5 y6 y7 y8 y9 y10 y11 y12 y13 y14 y15 y16 y17 y18 y19 y20) (tilefarmref13_Tile.l4 (k + 1) y0 y1 y2 y3 y4 y5 y6 y7 y8 y9 y10 y11 y12 y13 y14 y15 y16 y17 y18 y19 y20))
 | 0 => ⟨fun _ _ _ _ _ _ _ _ _ _ _ _ _ r h => by simp [tilefarmref13_Tile.j0] at h, fun _ _ _ _ _ _ _ _ _ _ _ _ _ _ r h => by simp [tilefarmref13_Tile.l0] at h, fun _ _ _ _ _ _ _ _ _ _ _ _ _ _ _ _ _ r h => by simp [tilefarmref13_Tile.l1] at h, fun _ _ _ _ _ _ _ _ _ _ _ _ _ _ _ _ _ _ r h => by simp [tilefarmref13_Tile.l2] at h, fun _ _ _ _ _ _ _ _ _ _ _ _ _ _ _ _ _ _ _ _ r h => by simp [tilefarmref13_Tile.l3] at h, fun _ _ _ _ _ _ _ _ _ _ _ _ _ _ _ _ _ _ _ _ _ r h => by simp [tilefarmref13_Tile.l4] at h⟩
 | k + 1 => by
  obtain ⟨ih0, ih1, ih2, ih3, ih4, ih5⟩ := tilefarmref13_Tile.mono_l k; refine ⟨?_, ?_, ?_, ?_, ?_, ?_⟩
  ·intro y0 y1 y2 y3 y4 y5 y6 y7 y8 y9 y10 y11 y12
   unfold tilefarmref13_Tile.j0
   repeat' first
   | (with_reducible exact ih0 _ _ _ _ _ _ _ _ _ _ _ _ _)
   | (with_reducible exact ih1 _ _ _ _ _ _ _ _ _ _ _ _ _ _)
   | (with_reducible exact ih2 _ _ _ _ _ _ _ _ _ _ _ _ _ _ _ _ _)
   | (with_reducible exact ih3 _ _ _ _ _ _ _ _ _ _ _ _ _ _ _ _ _ _)
   | (with_reducible exact ih4 _ _ _ _ _ _ _ _ _ _ _ _ _ _ _ _ _ _ _ _)
   | (with_reducible exact ih5 _ _ _ _ _ _ _ _ _ _ _ _ _ _ _ _ _ _ _ _ _)
   | (with_reducible exact tilefarmref13_check.mono _ _ _ _ _)
   | (with_reducible exact LeO.refl _)
   | (with_reducible exact LeO.none _)
   | (with_reducible refine LeO.ite ?_ ?_)
   | (with_reducible refine LeO.bind ?_ (fun _ => ?_))
   | exact ih0 _ _ _ _ _ _ _ _ _ _ _ _ _
   | exact ih1 _ _ _ _ _ _ _ _ _ _ _ _ _ _
   | exact ih2 _ _ _ _ _ _ _ _ _ _ _ _ _ _ _ _ _
   | exact ih3 _ _ _ _ _ _ _ _ _ _ _ _ _ _ _ _ _ _
   | exact ih4 _ _ _ _ _ _ _ _ _ _ _ _ _ _ _ _ _ _ _ _
   | exact ih5 _ _ _ _ _ _ _ _ _ _ _ _ _ _ _ _ _ _ _ _ _
   | exact tilefarmref13_check.mono _ _ _ _ _
   | exact LeO.none _
   | refine LeO.ite ?_ ?_
   | refine LeO.bind ?_ (fun _ => ?_)
  ·intro y0 y1 y2 y3 y4 y5 y6 y7 y8 y9 y10 y11 y12 y13
   unfold tilefarmref13_Tile.l0
   repeat' first
   | (with_reducible exact ih0 _ _ _ _ _ _ _ _ _ _ _ _ _)
   | (with_reducible exact ih1 _ _ _ _ _ _ _ _ _ _ _ _ _ _)
   | (with_reducible exact ih2 _ _ _ _ _ _ _ _ _ _ _ _ _ _ _ _ _)
   | (with_reducible exact ih3 _ _ _ _ _ _ _ _ _ _ _ _ _ _ _ _ _ _)
   | (with_reducible exact ih4 _ _ _ _ _ _ _ _ _ _ _ _ _ _ _ _ _ _ _ _)
   | (with_reducible exact ih5 _ _ _ _ _ _ _ _ _ _ _ _ _ _ _ _ _ _ _ _ _)
   | (with_reducible exact tilefarmref13_check.mono _ _ _ _ _)
   | (with_reducible exact LeO.refl _)
   | (with_reducible exact LeO.none _)
   | (with_reducible refine LeO.ite ?_ ?_)
   | (with_reducible refine LeO.bind ?_ (fun _ => ?_))
   | exact ih0 _ _ _ _ _ _ _ _ _ _ _ _ _
   | exact ih1 _ _ _ _ _ _ _ _ _ _ _ _ _ _
   | exact ih2 _ _ _ _ _ _ _ _ _ _ _ _ _ _ _ _ _
   | exact ih3 _ _ _ _ _ _ _ _ _ _ _ _ _ _ _ _ _ _
   | exact ih4 _ _ _ _ _ _ _ _ _ _ _ _ _ _ _ _ _ _ _ _
   | exact ih5 _ _ _ _ _ _ _ _ _ _ _ _ _ _ _ _ _ _ _ _ _
   | exact tilefarmref13_check.mono _ _ _ _ _
   | exact LeO.none _
   | refine LeO.ite ?_ ?_
   | refine LeO.bind ?_ (fun _ => ?_)
  ·intro y0 y1 y2 y3 y4 y5 y6 y7 y8 y9 y10 y11 y12 y13 y14 y15 y16
   unfold tilefarmref13_Tile.l1
   repeat' first
   | (with_reducible exact ih0 _ _ _ _ _ _ _ _ _ _ _ _ _)
   | (with_reducible exact ih1 _ _ _ _ _ _ _ _ _ _ _ _ _ _)
   | (with_reducible exact ih2 _ _ _ _ _ _ _ _ _ _ _ _ _ _ _ _ _)
   | (with_reducible exact ih3 _ _ _ _ _ _ _ _ _ _ _ _ _ _ _ _ _ _)
   | (with_reducible exact ih4 _ _ _ _ _ _ _ _ _ _ _ _ _ _ _ _ _ _ _ _)
   | (with_reducible exact ih5 _ _ _ _ _ _ _ _ _ _ _ _ _ _ _ _ _ _ _ _ _)
   | (with_reducible exact tilefarmref13_check.mono _ _ _ _ _)
   | (with_reducible exact LeO.refl _)
   | (with_reducible exact LeO.none _)
   | (with_reducible refine LeO.ite ?_ ?_)
   | (with_reducible refine LeO.bind ?_ (fun _ => ?_))
   | exact ih0 _ _ _ _ _ _ _ _ _ _ _ _ _
   | exact ih1 _ _ _ _ _ _ _ _ _ _ _ _ _ _
   | exact ih2 _ _ _ _ _ _ _ _ _ _ _ _ _ _ _ _ _
   | exact ih3 _ _ _ _ _ _ _ _ _ _ _ _ _ _ _ _ _ _
   | exact ih4 _ _ _ _ _ _ _ _ _ _ _ _ _ _ _ _ _ _ _ _
   | exact ih5 _ _ _ _ _ _ _ _ _ _ _ _ _ _ _ _ _ _ _ _ _
   | exact tilefarmref13_check.mono _ _ _ _ _
   | exact LeO.none _
   | refine LeO.ite ?_ ?_
   | refine LeO.bind ?_ (fun _ => ?_)
  ·intro y0 y1 y2 y3 y4 y5 y6 y7 y8 y9 y10 y11 y12 y13 y14 y15 y16 y17
   unfold tilefarmref13_Tile.l2
   repeat' first
   | (with_reducible exact ih0 _ _ _ _ _ _ _ _ _ _ _ _ _)
   | (with_reducible exact ih1 _ _ _ _ _ _ _ _ _ _ _ _ _ _)
   | (with_reducible exact ih2 _ _ _ _ _ _ _ _ _ _ _ _ _ _ _ _ _)
   | (with_reducible exact ih3 _ _ _ _ _ _ _ _ _ _ _ _ _ _ _ _ _ _)
   | (with_reducible exact ih4 _ _ _ _ _ _ _ _ _ _ _ _ _ _ _ _ _ _ _ _)
   | (with_reducible exact ih5 _ _ _ _ _ _ _ _ _ _ _ _ _ _ _ _ _ _ _ _ _)
   | (with_reducible exact tilefarmref13_check.mono _ _ _ _ _)
   | (with_reducible exact LeO.refl _)
   | (with_reducible exact LeO.none _)
   | (with_reducible refine LeO.ite ?_ ?_)
   | (with_reducible refine LeO.bind ?_ (fun _ => ?_))
   | exact ih0 _ _ _ _ _ _ _ _ _ _ _ _ _
   | exact ih1 _ _ _ _ _ _ _ _ _ _ _ _ _ _
   | exact ih2 _ _ _ _ _ _ _ _ _ _ _ _ _ _ _ _ _
   | exact ih3 _ _ _ _ _ _ _ _ _ _ _ _ _ _ _ _ _ _
   | exact ih4 _ _ _ _ _ _ _ _ _ _ _ _ _ _ _ _ _ _ _ _
   | exact ih5 _ _ _ _ _ _ _ _ _ _ _ _ _ _ _ _ _ _ _ _ _
   | exact tilefarmref13_check.mono _ _ _ _ _
   | exact LeO.none _
   | refine LeO.ite ?_ ?_
   | refine LeO.bind ?_ (fun _ => ?_)
  ·intro y0 y1 y2 y3 y4 y5 y6 y7 y8 y9 y10 y11 y12 y13 y14 y15 y16 y17 y18 y19
   unfold tilefarmref13_Tile.l3
   repeat' first
   | (with_reducible exact ih0 _ _ _ _ _ _ _ _ _ _ _ _ _)
   | (with_reducible exact ih1 _ _ _ _ _ _ _ _ _ _ _ _ _ _)
   | (with_reducible exact ih2 _ _ _ _ _ _ _ _ _ _ _ _ _ _ _ _ _)
   | (with_reducible exact ih3 _ _ _ _ _ _ _ _ _ _ _ _ _ _ _ _ _ _)
   | (with_reducible exact ih4 _ _ _ _ _ _ _ _ _ _ _ _ _ _ _ _ _ _ _ _)
   | (with_reducible exact ih5 _ _ _ _ _ _ _ _ _ _ _ _ _ _ _ _ _ _ _ _ _)
   | (with_reducible exact tilefarmref13_check.mono _ _ _ _ _)
   | (with_reducible exact LeO.refl _)
   | (with_reducible exact LeO.none _)
   | (with_reducible refine LeO.ite ?_ ?_)
   | (with_reducible refine LeO.bind ?_ (fun _ => ?_))
   | exact ih0 _ _ _ _ _ _ _ _ _ _ _ _ _
   | exact ih1 _ _ _ _ _ _ _ _ _ _ _ _ _ _
   | exact ih2 _ _ _ _ _ _ _ _ _ _ _ _ _ _ _ _ _
   | exact ih3 _ _ _ _ _ _ _ _ _ _ _ _ _ _ _ _ _ _
   | exact ih4 _ _ _ _ _ _ _ _ _ _ _ _ _ _ _ _ _ _ _ _
   | exact ih5 _ _ _ _ _ _ _ _ _ _ _ _ _ _ _ _ _ _ _ _ _
   | exact tilefarmref13_check.mono _ _ _ _ _
   | exact LeO.none _
   | refine LeO.ite ?_ ?_
   | refine LeO.bind ?_ (fun _ => ?_)
  ·intro y0 y1 y2 y3 y4 y5 y6 y7 y8 y9 y10 y11 y12 y13 y14 y15 y16 y17 y18 y19 y20
   unfold tilefarmref13_Tile.l4
   repeat' first
   | (with_reducible exact ih0 _ _ _ _ _ _ _ _ _ _ _ _ _)
   | (with_reducible exact ih1 _ _ _ _ _ _ _ _ _ _ _ _ _ _)
   | (with_reducible exact ih2 _ _ _ _ _ _ _ _ _ _ _ _ _ _ _ _ _)
   | (with_reducible exact ih3 _ _ _ _ _ _ _ _ _ _ _ _ _ _ _ _ _ _)
   | (with_reducible exact ih4 _ _ _ _ _ _ _ _ _ _ _ _ _ _ _ _ _ _ _ _)
   | (with_reducible exact ih5 _ _ _ _ _ _ _ _ _ _ _ _ _ _ _ _ _ _ _ _ _)
   | (with_reducible exact tilefarmref13_check.mono _ _ _ _ _)
   | (with_reducible exact LeO.refl _)
   | (with_reducible exact LeO.none _)
   | (with_reducible refine LeO.ite ?_ ?_)
   | (with_reducible refine LeO.bind ?_ (fun _ => ?_))
   | exact ih0 _ _ _ _ _ _ _ _ _ _ _ _ _
   | exact ih1 _ _ _ _ _ _ _ _ _ _ _ _ _ _
   | exact ih2 _ _ _ _ _ _ _ _ _ _ _ _ _ _ _ _ _
   | exact ih3 _ _ _ _ _ _ _ _ _ _ _ _ _ _ _ _ _ _
   | exact ih4 _ _ _ _ _ _ _ _ _ _ _ _ _ _ _ _ _ _ _ _
   | exact ih5 _ _ _ _ _ _ _ _ _ _ _ _ _ _ _ _ _ _ _ _ _
   | exact tilefarmref13_check.mono _ _ _ _ _
   | exact LeO.none _
   | refine LeO.ite ?_ ?_
   | refine LeO.bind ?_ (fun _ => ?_)
theorem tilefarmref13_Tile.mono : ∀ a0 a1 a2 a3 a4 a5 a6 a7 a8 a9 a10 k, LeO (tilefarmref13_Tile.f k a0 a1 a2 a3 a4 a5 a6 a7 a8 a9 a10) (tilefarmref13_Tile.f (k + 1) a0 a1 a2 a3 a4 a5 a6 a7 a8 a9 a10) := by
 intro a0 a1 a2 a3 a4 a5 a6 a7 a8 a9 a10 k; obtain ⟨ih0, ih1, ih2, ih3, ih4, ih5⟩ := tilefarmref13_Tile.mono_l k; unfold tilefarmref13_Tile.f
 repeat' first
   | (with_reducible exact ih0 _ _ _ _ _ _ _ _ _ _ _ _ _)
   | (with_reducible exact ih1 _ _ _ _ _ _ _ _ _ _ _ _ _ _)
   | (with_reducible exact ih2 _ _ _ _ _ _ _ _ _ _ _ _ _ _ _ _ _)
   | (with_reducible exact ih3 _ _ _ _ _ _ _ _ _ _ _ _ _ _ _ _ _ _)
   | (with_reducible exact ih4 _ _ _ _ _ _ _ _ _ _ _ _ _ _ _ _ _ _ _ _)
   | (with_reducible exact ih5 _ _ _ _ _ _ _ _ _ _ _ _ _ _ _ _ _ _ _ _ _)
   | (with_reducible exact tilefarmref13_check.mono _ _ _ _ _)
   | (with_reducible exact LeO.refl _)
   | (with_reducible exact LeO.none _)
   | (with_reducible refine LeO.ite ?_ ?_)
   | (with_reducible refine LeO.bind ?_ (fun _ => ?_))
   | exact ih0 _ _ _ _ _ _ _ _ _ _ _ _ _
   | exact ih1 _ _ _ _ _ _ _ _ _ _ _ _ _ _
   | exact ih2 _ _ _ _ _ _ _ _ _ _ _ _ _ _ _ _ _
   | exact ih3 _ _ _ _ _ _ _ _ _ _ _ _ _ _ _ _ _ _
   | exact ih4 _ _ _ _ _ _ _ _ _ _ _ _ _ _ _ _ _ _ _ _
   | exact ih5 _ _ _ _ _ _ _ _ _ _ _ _ _ _ _ _ _ _ _ _ _
   | exact tilefarmref13_check.mono _ _ _ _ _
   | exact LeO.none _
   | refine LeO.ite ?_ ?_
   | refine LeO.bind ?_ (fun _ => ?_)
def tilefarmref13_Tile.T4 : Bool × List (List Nat × List Nat) := (true, [([], []), ([0], [0]), ([1], [1]), ([2, 1], [2]), ([3], [3]), ([3], [3]), ([5, 3, 3], [3, 5]), ([4, 6, 6, 3], [3, 4, 6]), ([7, 3], [3, 7]), ([3, 8], [3, 8]), ([9, 7], [9]), ([10], [10]), ([11, 10], [10, 11]), ([10], [10]), ([13, 10], [10, 13]), ([10], [10]), ([15, 10], [10, 15]), ([14, 16, 10], [10, 14, 16]), ([12, 17, 10], [10, 12, 17]), ([10, 18], [10, 18]), ([19, 10], [19]), ([20], [20]), ([21, 20], [20, 21]), ([20], [20]), ([23, 20], [20, 23]), ([20], [20]), ([25, 20], [20, 25]), ([24, 26, 20], [20, 24, 26]), ([22, 27, 20], [20, 22, 27]), ([20, 28], [20, 28])])
def tilefarmref13_Tile.B4 : List Nat := [0, 1, 3, 7, 15, 15, 47, 127, 255, 511, 1023, 2047, 4095, 2047, 10239, 2047, 34815, 124927, 262143, 524287, 1048575, 2097151, 4194303, 2097151, 10485759, 2097151, 35651583, 127926271, 268435455, 536870911]
theorem tilefarmref13_Tile.tab4 : rtab .any (opsOf Try.f23 4) = tilefarmref13_Tile.T4 := by kernel_rfl
theorem tilefarmref13_Tile.bits4 : waitsOk tilefarmref13_Tile.T4.2 tilefarmref13_Tile.B4 = true := by kernel_rfl
def tilefarmref13_Tile.T19 : Bool × List (List Nat × List Nat) := (true, [([], []), ([], []), ([0, 1], [0, 1]), ([2], [2]), ([], []), ([], []), ([4, 5], [4, 5]), ([6], [6]), ([3, 7], [3, 7]), ([], []), ([8, 9], [8, 9]), ([10, 0, 1, 2, 3, 4, 5, 6, 7, 8, 9, 10], [10])])
def tilefarmref13_Tile.B19 : List Nat := [0, 0, 3, 7, 0, 0, 48, 112, 255, 0, 1023, 2047]
theorem tilefarmref13_Tile.tab19 : rtab .any (opsOf Try.f23 19) = tilefarmref13_Tile.T19 := by kernel_rfl
theorem tilefarmref13_Tile.bits19 : waitsOk tilefarmref13_Tile.T19.2 tilefarmref13_Tile.B19 = true := by kernel_rfl
set_option maxHeartbeats 8000000 in
set_option maxRecDepth 100000 in
theorem tilefarmref13_Tile.calls (k : Nat) (a0_0 : Int) (a0_1 : Int) (a0_2 : Int) (A0_3 : Option Addr) (c0_3 : Nat) (l0_3 : List Int) (a1_0 : Int) (a1_1 : Int) (a1_2 : Int) (a1_3 : Int) (A2 : Option Addr) (c2 : Nat) (l2 : List Int) (A3 : Option Addr) (c3 : Nat) (l3 : List Int) (a4 : Int) (r1 : Int) (r2 : Int) (r3 : Int) (r4 : List Int) (r5 : Int) (w : World) (hr0_3 : Kd.C (Kd.int .i64) w A0_3 l0_3.length l0_3) (hc0_3 : l0_3.length ≤ c0_3) (hr2 : Kd.C (Kd.int .i64) w A2 l2.length l2) (hc2 : l2.length ≤ c2) (hr3 : Kd.C (Kd.int .i64) w A3 l3.length l3) (hc3 : l3.length ≤ c3) (h : tilefarmref13_Tile.f k a0_0 a0_1 a0_2 l0_3 a1_0 a1_1 a1_2 a1_3 l2 l3 a4 = some (r1, r2, r3, r4, r5)) :
  Calls Try.prog 23 #[.agg #[.int .i64 a0_0, .int .i64 a0_1, .int .i64 a0_2, .slice A0_3 l0_3.length c0_3], .agg #[.int .i64 a1_0, .int .i64 a1_1, .int .i64 a1_2, .int .i64 a1_3], .slice A2 l2.length c2, .slice A3 l3.length c3, .int .i64 a4] w fun e w' => ∃ v3_ : Value, e = .returned (.tuple #[.agg #[.int .i64 r1, .int .i64 r2, .int .i64 r3, v3_], .int .i64 r5]) ∧ Kd.R (Kd.int .i64) 3 w' w.heap.size (fun _ => True) v3_ r4 ∧ Below w.heap.size w w' := by
 have hu26 := Try.underlying26; have hu32 := Try.underlying32; have HR0_3 := am_ hr0_3; have HC0_3 := am_ hc0_3; clear hr0_3 hc0_3; have HR2 := am_ hr2; have HC2 := am_ hc2; clear hr2 hc2; have HR3 := am_ hr3; have HC3 := am_ hc3; clear hr3 hc3; have HB := am_ (Below.refl w.heap.size w); have H : ((tilefarmref13_check.f k a0_0 a0_1 a0_2 l0_3).bind fun bt323 => (if bt323.2 = 0 then ((tilefarmref2_Full.f a1_0 a1_1 a1_2 a1_3).bind fun t325 => (if t325 = true then ((tilefarmref4_Cover.f a0_0 a0_1 a0_2 l0_3).bind fun bt326 => ((tilefarmref2_Inside.f a1_0 a1_1 a1_2 a1_3 bt326.1 bt326.2.1 bt326.2.2.1 bt326.2.2.2).bind fun t330 => (if t330 = true then (if (l2.length : Int) = (wrap64 (a1_3 - a1_1)) then (tilefarmref13_Tile.j0 k l2 l3 a4 bt323.1 ((l3.length : Int) != (wrap64 (a1_2 - a1_0))) a0_0 a0_1 a0_2 l0_3 a1_0 a1_1 a1_2 a1_3) else (tilefarmref13_Tile.j0 k l2 l3 a4 bt323.1 true a0_0 a0_1 a0_2 l0_3 a1_0 a1_1 a1_2 a1_3)) else (tilefarmref13_Tile.j0 k l2 l3 a4 bt323.1 true a0_0 a0_1 a0_2 l0_3 a1_0 a1_1 a1_2 a1_3)))) else (tilefarmref13_Tile.j0 k l2 l3 a4 bt323.1 true a0_0 a0_1 a0_2 l0_3 a1_0 a1_1 a1_2 a1_3))) else (some (0, 0, 0, ([] : List Int), bt323.2)))) = some (r1, r2, r3, r4, r5) := h; clear h; replace H := Option.bind_eq_some_iff.mp H; obtain ⟨⟨t323, t324⟩, A60, H⟩ := H; replace H : (if t324 = 0 then ((tilefarmref2_Full.f a1_0 a1_1 a1_2 a1_3).bind fun t325 => (if t325 = true then ((tilefarmref4_Cover.f a0_0 a0_1 a0_2 l0_3).bind fun bt326 => ((tilefarmref2_Inside.f a1_0 a1_1 a1_2 a1_3 bt326.1 bt326.2.1 bt326.2.2.1 bt326.2.2.2).bind fun t330 => (if t330 = true then (if (l2.length : Int) = (wrap64 (a1_3 - a1_1)) then (tilefarmref13_Tile.j0 k l2 l3 a4 t323 ((l3.length : Int) != (wrap64 (a1_2 - a1_0))) a0_0 a0_1 a0_2 l0_3 a1_0 a1_1 a1_2 a1_3) else (tilefarmref13_Tile.j0 k l2 l3 a4 t323 true a0_0 a0_1 a0_2 l0_3 a1_0 a1_1 a1_2 a1_3)) else (tilefarmref13_Tile.j0 k l2 l3 a4 t323 true a0_0 a0_1 a0_2 l0_3 a1_0 a1_1 a1_2 a1_3)))) else (tilefarmref13_Tile.j0 k l2 l3 a4 t323 true a0_0 a0_1 a0_2 l0_3 a1_0 a1_1 a1_2 a1_3))) else (some (0, 0, 0, ([] : List Int), t324))) = some (r1, r2, r3, r4, r5) := H; have A6 := am_ A60; clear A60
 by_cases c7 : t324 = 0
 ·rw [if_pos c7] at H
  have c7b0 : (t324 == 0) = true := beq_iff_eq.mpr c7; have c7b1 : (t324 != 0) = false := bne_eq_false_iff_eq.mpr c7; clear c7; have HC8 := am_ H; clear H
  go_enter Try.func23, Try.ntmps23
  go_upto_region 4 with (first | ((with_reducible refine gate_dst (N := 5) rfl ?_); (try (refine gate_guard (by rfl) ?_; dsimp only)); refine box_event ?hg (N := 5) ?hd (cs := #[.int .i64 a0_0, .int .i64 a0_1, .int .i64 a0_2, .slice A0_3 l0_3.length c0_3]) (t := 26) ?hr ?_; (case hd => rfl); (case hg => rfl); (case hr => first | (go_simp; done) | (go_simp; rfl)); intro gb320 hg w9 hbox hb; have n0_ := am_ (below_step q120_ hb); have n1_ := am_ (hbox); have n2_ := am_ ((q88_ : w.heap.size ≤ gb320)); have n3_ := am_ ((q88_ : w.heap.size ≤ gb320)); clear HB; have HB := n0_; have BK320 := n1_; have GW320 := n2_; have GE320 := n3_; clear n0_ n1_ n2_ n3_; clear hb hbox hg) | ((with_reducible refine gate_dst (N := 6) rfl ?_); (try (refine gate_guard (by rfl) ?_; dsimp only)); refine box_event ?hg (N := 6) ?hd (cs := #[.int .i64 a1_0, .int .i64 a1_1, .int .i64 a1_2, .int .i64 a1_3]) (t := 32) ?hr ?_; (case hd => rfl); (case hg => rfl); (case hr => first | (go_simp; done) | (go_simp; rfl)); intro gb321 hg w10 hbox hb; have n0_ := am_ (blk_below (g := gb320) (o := .cells #[.int .i64 a0_0, .int .i64 a0_1, .int .i64 a0_2, .slice A0_3 l0_3.length c0_3] 26 (0, 0)) q154_ hb); have n1_ := am_ (below_step q110_ hb); have n2_ := am_ (hbox); have n3_ := am_ ((q71_ : w.heap.size ≤ gb321)); have n4_ := am_ ((q71_ : w.heap.size ≤ gb321)); have n5_ := am_ ((q11_ : gb320 ≠ gb321)); have n6_ := am_ ((q12_ : gb321 ≠ gb320)); clear BK320 HB; have BK320 := n0_; have HB := n1_; have BK321 := n2_; have GW321 := n3_; have GE321 := n4_; have NB320_321 := n5_; have NB321_320 := n6_; clear n0_ n1_ n2_ n3_ n4_ n5_ n6_; clear hb hbox hg) | ((with_reducible refine gate_dst (N := 10) rfl ?_); (try (refine gate_guard (by rfl) ?_; dsimp only)); refine box_event ?hg (N := 10) ?hd (cs := #[.int .i64 0, .int .i64 0, .int .i64 0, .slice none 0 0]) (t := 26) ?hr ?_; (case hd => rfl); (case hg => rfl); (case hr => first | (go_simp; done) | (go_simp; rfl)); intro gb322 hg w11 hbox hb; have n0_ := am_ (blk_below (g := gb320) (o := .cells #[.int .i64 a0_0, .int .i64 a0_1, .int .i64 a0_2, .slice A0_3 l0_3.length c0_3] 26 (0, 0)) q154_ hb); have n1_ := am_ (blk_below (g := gb321) (o := .cells #[.int .i64 a1_0, .int .i64 a1_1, .int .i64 a1_2, .int .i64 a1_3] 32 (0, 0)) q155_ hb); have n2_ := am_ (below_step q80_ hb); have n3_ := am_ (hbox); have n4_ := am_ ((q51_ : w.heap.size ≤ gb322)); have n5_ := am_ ((q51_ : w.heap.size ≤ gb322)); have n6_ := am_ ((q11_ : gb320 ≠ gb322)); have n7_ := am_ ((q12_ : gb322 ≠ gb320)); have n8_ := am_ ((q31_ : gb321 ≠ gb322)); have n9_ := am_ ((q32_ : gb322 ≠ gb321)); clear BK320 BK321 HB; have BK320 := n0_; have BK321 := n1_; have HB := n2_; have BK322 := n3_; have GW322 := n4_; have GE322 := n5_; have NB320_322 := n6_; have NB322_320 := n7_; have NB321_322 := n8_; have NB322_321 := n9_; clear n0_ n1_ n2_ n3_ n4_ n5_ n6_ n7_ n8_ n9_; clear hb hbox hg; have hnb12 := NB320_321.out; have hnc12 := NB321_320.out; have hnb13 := NB320_322.out; have hnc13 := NB322_320.out; have hcz14_0 : w11.cell? ⟨gb320, 0, none⟩ = some (.int .i64 a0_0) := (blk_cell BK320.out 0).trans rfl; have hcz14_1 : w11.cell? ⟨gb320, 1, none⟩ = some (.int .i64 a0_1) := (blk_cell BK320.out 1).trans rfl; have hcz14_2 : w11.cell? ⟨gb320, 2, none⟩ = some (.int .i64 a0_2) := (blk_cell BK320.out 2).trans rfl; have hcz14_3 : w11.cell? ⟨gb320, 3, none⟩ = some (.slice A0_3 l0_3.length c0_3) := (blk_cell BK320.out 3).trans rfl; have hfz14_0 := blk_frozen BK320.out 0; have hfz14_1 := blk_frozen BK320.out 1; have hfz14_2 := blk_frozen BK320.out 2; have hfz14_3 := blk_frozen BK320.out 3) | ((with_reducible refine gate_callee (f := 37) rfl ?_); refine goesL_ (some 25) rfl rfl Try.func37 (by kernel_rfl) rfl #[.agg #[.int .i64 a0_0, .int .i64 a0_1, .int .i64 a0_2, .slice A0_3 l0_3.length c0_3]] rfl q117_ ?_; (with_reducible refine (tilefarmref13_check.calls k a0_0 a0_1 a0_2 _ _ l0_3 t323 t324 _ ?side1 ?side2 A6.out).mono ?_); (case side1 => repeat (first | exact (Kd.C_below HR0_3.out HB.out) | (with_reducible refine Kd.C_alloc ?_ _) | (with_reducible refine Kd.C_drewN ?_ _) | (with_reducible refine Kd.C_drew ?_))); (case side2 => exact HC0_3.out); rintro e w15 ⟨rfl, hb⟩; refine ⟨_, rfl, ?_⟩; have n0_ := am_ (blk_below (g := gb320) (o := .cells #[.int .i64 a0_0, .int .i64 a0_1, .int .i64 a0_2, .slice A0_3 l0_3.length c0_3] 26 (0, 0)) q154_ hb); have n1_ := am_ (blk_below (g := gb321) (o := .cells #[.int .i64 a1_0, .int .i64 a1_1, .int .i64 a1_2, .int .i64 a1_3] 32 (0, 0)) q155_ hb); have n2_ := am_ (blk_below (g := gb322) (o := .cells #[.int .i64 0, .int .i64 0, .int .i64 0, .slice none 0 0] 26 (0, 0)) q156_ hb); have n3_ := am_ (below_step q54_ hb); clear BK320 BK321 BK322 HB; have BK320 := n0_; have BK321 := n1_; have BK322 := n2_; have HB := n3_; clear n0_ n1_ n2_ n3_; (try clear hb); (try clear hb2); (try clear hk); (try clear hi)))
  (try simp only [Act.put, la_, lz_, ls_])
  go_cut [61] (fun v61 wc => ∃ (kq : Nat) (x61_7 : Bool), v61 = .bool x61_7 ∧ Aside0 (tilefarmref13_Tile.j0 kq l2 l3 a4 t323 x61_7 a0_0 a0_1 a0_2 l0_3 a1_0 a1_1 a1_2 a1_3 = some (r1, r2, r3, r4, r5)) ∧ Aside0 (kq ≤ k) ∧ Aside0 (wc.heap[gb320]? = some (.cells #[.int .i64 a0_0, .int .i64 a0_1, .int .i64 a0_2, (.slice A0_3 l0_3.length c0_3)] 26 (0, 0))) ∧ Aside0 (wc.heap[gb321]? = some (.cells #[.int .i64 a1_0, .int .i64 a1_1, .int .i64 a1_2, .int .i64 a1_3] 32 (0, 0))) ∧ Aside0 (wc.heap[gb322]? = some (.cells #[.int .i64 0, .int .i64 0, .int .i64 0, (.slice none 0 0)] 26 (0, 0))) ∧ Aside0 (Below w.heap.size w wc))
  case first =>
   have H := HC8.out; clear HC8; replace H := Option.bind_eq_some_iff.mp H; obtain ⟨t325, A160, H⟩ := H; replace H : (if t325 = true then ((tilefarmref4_Cover.f a0_0 a0_1 a0_2 l0_3).bind fun bt326 => ((tilefarmref2_Inside.f a1_0 a1_1 a1_2 a1_3 bt326.1 bt326.2.1 bt326.2.2.1 bt326.2.2.2).bind fun t330 => (if t330 = true then (if (l2.length : Int) = (wrap64 (a1_3 - a1_1)) then (tilefarmref13_Tile.j0 k l2 l3 a4 t323 ((l3.length : Int) != (wrap64 (a1_2 - a1_0))) a0_0 a0_1 a0_2 l0_3 a1_0 a1_1 a1_2 a1_3) else (tilefarmref13_Tile.j0 k l2 l3 a4 t323 true a0_0 a0_1 a0_2 l0_3 a1_0 a1_1 a1_2 a1_3)) else (tilefarmref13_Tile.j0 k l2 l3 a4 t323 true a0_0 a0_1 a0_2 l0_3 a1_0 a1_1 a1_2 a1_3)))) else (tilefarmref13_Tile.j0 k l2 l3 a4 t323 true a0_0 a0_1 a0_2 l0_3 a1_0 a1_1 a1_2 a1_3)) = some (r1, r2, r3, r4, r5) := H; have A16 := am_ A160; clear A160
   by_cases c17 : t325 = true
   ·subst c17
    have H1 : ((tilefarmref4_Cover.f a0_0 a0_1 a0_2 l0_3).bind fun bt326 => ((tilefarmref2_Inside.f a1_0 a1_1 a1_2 a1_3 bt326.1 bt326.2.1 bt326.2.2.1 bt326.2.2.2).bind fun t330 => (if t330 = true then (if (l2.length : Int) = (wrap64 (a1_3 - a1_1)) then (tilefarmref13_Tile.j0 k l2 l3 a4 t323 ((l3.length : Int) != (wrap64 (a1_2 - a1_0))) a0_0 a0_1 a0_2 l0_3 a1_0 a1_1 a1_2 a1_3) else (tilefarmref13_Tile.j0 k l2 l3 a4 t323 true a0_0 a0_1 a0_2 l0_3 a1_0 a1_1 a1_2 a1_3)) else (tilefarmref13_Tile.j0 k l2 l3 a4 t323 true a0_0 a0_1 a0_2 l0_3 a1_0 a1_1 a1_2 a1_3)))) = some (r1, r2, r3, r4, r5) := by rw [if_pos rfl] at H; exact H
    clear H; have H := H1; clear H1; replace H := Option.bind_eq_some_iff.mp H; obtain ⟨⟨t326, t327, t328, t329⟩, A180, H⟩ := H; replace H : ((tilefarmref2_Inside.f a1_0 a1_1 a1_2 a1_3 t326 t327 t328 t329).bind fun t330 => (if t330 = true then (if (l2.length : Int) = (wrap64 (a1_3 - a1_1)) then (tilefarmref13_Tile.j0 k l2 l3 a4 t323 ((l3.length : Int) != (wrap64 (a1_2 - a1_0))) a0_0 a0_1 a0_2 l0_3 a1_0 a1_1 a1_2 a1_3) else (tilefarmref13_Tile.j0 k l2 l3 a4 t323 true a0_0 a0_1 a0_2 l0_3 a1_0 a1_1 a1_2 a1_3)) else (tilefarmref13_Tile.j0 k l2 l3 a4 t323 true a0_0 a0_1 a0_2 l0_3 a1_0 a1_1 a1_2 a1_3))) = some (r1, r2, r3, r4, r5) := H; have A18 := am_ A180; clear A180; replace H := Option.bind_eq_some_iff.mp H; obtain ⟨t330, A190, H⟩ := H; replace H : (if t330 = true then (if (l2.length : Int) = (wrap64 (a1_3 - a1_1)) then (tilefarmref13_Tile.j0 k l2 l3 a4 t323 ((l3.length : Int) != (wrap64 (a1_2 - a1_0))) a0_0 a0_1 a0_2 l0_3 a1_0 a1_1 a1_2 a1_3) else (tilefarmref13_Tile.j0 k l2 l3 a4 t323 true a0_0 a0_1 a0_2 l0_3 a1_0 a1_1 a1_2 a1_3)) else (tilefarmref13_Tile.j0 k l2 l3 a4 t323 true a0_0 a0_1 a0_2 l0_3 a1_0 a1_1 a1_2 a1_3)) = some (r1, r2, r3, r4, r5) := H; have A19 := am_ A190; clear A190
    by_cases c20 : t330 = true
    ·subst c20
     have H1 : (if (l2.length : Int) = (wrap64 (a1_3 - a1_1)) then (tilefarmref13_Tile.j0 k l2 l3 a4 t323 ((l3.length : Int) != (wrap64 (a1_2 - a1_0))) a0_0 a0_1 a0_2 l0_3 a1_0 a1_1 a1_2 a1_3) else (tilefarmref13_Tile.j0 k l2 l3 a4 t323 true a0_0 a0_1 a0_2 l0_3 a1_0 a1_1 a1_2 a1_3)) = some (r1, r2, r3, r4, r5) := by rw [if_pos rfl] at H; exact H
     clear H; have H := H1; clear H1
     by_cases c21 : (l2.length : Int) = (wrap64 (a1_3 - a1_1))
     ·rw [if_pos c21] at H
      have c21b0 : ((l2.length : Int) == (wrap64 (a1_3 - a1_1))) = true := beq_iff_eq.mpr c21; have c21b1 : ((l2.length : Int) != (wrap64 (a1_3 - a1_1))) = false := bne_eq_false_iff_eq.mpr c21; clear c21; (first | rw [c21b0] | (simp only [i64_w, i32_w]; rw [c21b0]) | skip); have H' := am_ H; clear H
      try go_wp2
      have n0_ := am_ (blk_drew BK320.out); have n1_ := am_ (blk_drew BK321.out); have n2_ := am_ (blk_drew BK322.out); have n3_ := am_ (below_drew1 HB.out); clear BK320 BK321 BK322 HB; have BK320 := n0_; have BK321 := n1_; have BK322 := n2_; have HB := n3_; clear n0_ n1_ n2_ n3_; refine start_ (n := 30) (S := fun w' => w'.cell? ⟨gb321, 0, none⟩ = some (.int .i64 a1_0) ∧ w'.cell? ⟨gb321, 1, none⟩ = some (.int .i64 a1_1) ∧ w'.cell? ⟨gb321, 2, none⟩ = some (.int .i64 a1_2) ∧ w'.cell? ⟨gb321, 3, none⟩ = some (.int .i64 a1_3) ∧ w'.cell? ⟨gb320, 0, none⟩ = some (.int .i64 a0_0) ∧ w'.cell? ⟨gb320, 1, none⟩ = some (.int .i64 a0_1) ∧ w'.cell? ⟨gb320, 2, none⟩ = some (.int .i64 a0_2) ∧ w'.cell? ⟨gb320, 3, none⟩ = some (.slice A0_3 l0_3.length c0_3)) (ds := []) #[false, false, false, false, false, false, false, false, false, false, false, false, false, false, false, false, false, false, false, false, false, false, false, false, false, false, false, false, false, false] (by kernel_rfl) rfl rfl ⟨(blk_cell BK321.out 0).trans rfl, (blk_cell BK321.out 1).trans rfl, (blk_cell BK321.out 2).trans rfl, (blk_cell BK321.out 3).trans rfl, (blk_cell BK320.out 0).trans rfl, (blk_cell BK320.out 1).trans rfl, (blk_cell BK320.out 2).trans rfl, (blk_cell BK320.out 3).trans rfl⟩ (fun hHeld => ?_); refine with_tabW tilefarmref13_Tile.tab4 tilefarmref13_Tile.bits4 (fun HT_ HW_ => ?_); generalize w15.drew = w22 at BK320 BK321 BK322 HB hHeld ⊢; refine take_ (i := 0) (N := some 32) (v := ?_) (a' := ?_) #[true, false, false, false, false, false, false, false, false, false, false, false, false, false, false, false, false, false, false, false, false, false, false, false, false, false, false, false, false, false] rfl rfl (take_ofW HT_.out HW_.out (by kernel_rfl)) (fun _ _ _ h => h) (Or.inl ⟨by rfl, ?_⟩) hHeld ?_ ?_; rotate_left
      ·rintro w' ⟨s0, s1, s2, s3, s4, s5, s6, s7⟩
       go_simp
       with_reducible rfl
      rotate_left
      ·simp only [Act.put, la_, lz_, ls_, i64_w, i32_w]
       rfl
      refine one_ (i := 1) (N := some 33) #[true, true, false, false, false, false, false, false, false, false, false, false, false, false, false, false, false, false, false, false, false, false, false, false, false, false, false, false, false, false] rfl rfl (one_of HT_.out (by kernel_rfl)) (by decide) (fun K hK => ?_); refine goes_ Try.func40 (by kernel_rfl) rfl #[.agg #[.int .i64 a1_0, .int .i64 a1_1, .int .i64 a1_2, .int .i64 a1_3]] (by rfl) rfl rfl q117_ ?_
      with_reducible refine (tilefarmref2_Full.calls a1_0 a1_1 a1_2 a1_3 true _ A16.out).mono ?_
      rintro e w23 ⟨rfl, hb⟩; refine ⟨_, rfl, ?_⟩; have n0_ := am_ (blk_below (g := gb320) (o := .cells #[.int .i64 a0_0, .int .i64 a0_1, .int .i64 a0_2, .slice A0_3 l0_3.length c0_3] 26 (0, 0)) q154_ hb); have n1_ := am_ (blk_below (g := gb321) (o := .cells #[.int .i64 a1_0, .int .i64 a1_1, .int .i64 a1_2, .int .i64 a1_3] 32 (0, 0)) q155_ hb); have n2_ := am_ (blk_below (g := gb322) (o := .cells #[.int .i64 0, .int .i64 0, .int .i64 0, .slice none 0 0] 26 (0, 0)) q156_ hb); have n3_ := am_ (below_step q54_ hb); clear BK320 BK321 BK322 HB; have BK320 := n0_; have BK321 := n1_; have BK322 := n2_; have HB := n3_; clear n0_ n1_ n2_ n3_; (try clear hb); (try clear hb2); (try clear hk); (try clear hi); refine hK.out _ _ ⟨(blk_cell BK321.out 0).trans rfl, (blk_cell BK321.out 1).trans rfl, (blk_cell BK321.out 2).trans rfl, (blk_cell BK321.out 3).trans rfl, (blk_cell BK320.out 0).trans rfl, (blk_cell BK320.out 1).trans rfl, (blk_cell BK320.out 2).trans rfl, (blk_cell BK320.out 3).trans rfl⟩ (fun hHeld => ?_); clear hK K; refine norm_ (a' := ?_) ?_ ?_; rotate_left
      ·show Act.put _ (some 33) _ = _
       simp only [Act.put, la_, lz_, ls_, i64_w, i32_w]; rfl
      refine pure_ (i := 2) (N := some 34) (v := ?_) (a' := ?_) #[true, true, true, false, false, false, false, false, false, false, false, false, false, false, false, false, false, false, false, false, false, false, false, false, false, false, false, false, false, false] rfl rfl (any_of HT_.out (by kernel_rfl)) (fun _ _ _ h => h) (Or.inl ⟨by rfl, ?_⟩) ?_ ?_; rotate_left
      ·intro w'
       go_simp
       with_reducible rfl
      rotate_left
      ·simp only [Act.put, la_, lz_, ls_, i64_w, i32_w]
       rfl
      refine pure_ (i := 3) (N := some 35) (v := ?_) (a' := ?_) #[true, true, true, true, false, false, false, false, false, false, false, false, false, false, false, false, false, false, false, false, false, false, false, false, false, false, false, false, false, false] rfl rfl (any_of HT_.out (by kernel_rfl)) (fun _ _ _ h => h) (Or.inl ⟨by rfl, ?_⟩) ?_ ?_; rotate_left
      ·intro w'
       go_simp
       with_reducible rfl
      rotate_left
      ·simp only [Act.put, la_, lz_, ls_, i64_w, i32_w]
       rfl
      refine take_ (i := 4) (N := some 36) (v := ?_) (a' := ?_) #[true, true, true, true, true, false, false, false, false, false, false, false, false, false, false, false, false, false, false, false, false, false, false, false, false, false, false, false, false, false] rfl rfl (take_ofW HT_.out HW_.out (by kernel_rfl)) (fun _ _ _ h => h) (Or.inl ⟨by rfl, ?_⟩) hHeld ?_ ?_; rotate_left
      ·rintro w' ⟨s0, s1, s2, s3, s4, s5, s6, s7⟩
       go_simp
       with_reducible rfl
      rotate_left
      ·simp only [Act.put, la_, lz_, ls_, i64_w, i32_w]
       rfl
      refine take_ (i := 5) (N := some 37) (v := ?_) (a' := ?_) #[true, true, true, true, true, true, false, false, false, false, false, false, false, false, false, false, false, false, false, false, false, false, false, false, false, false, false, false, false, false] rfl rfl (take_ofW HT_.out HW_.out (by kernel_rfl)) (fun _ _ _ h => h) (Or.inl ⟨by rfl, ?_⟩) hHeld ?_ ?_; rotate_left
      ·rintro w' ⟨s0, s1, s2, s3, s4, s5, s6, s7⟩
       go_simp
       with_reducible rfl
      rotate_left
      ·simp only [Act.put, la_, lz_, ls_, i64_w, i32_w]
       rfl
      refine one_ (i := 6) (N := some 38) #[true, true, true, true, true, true, true, false, false, false, false, false, false, false, false, false, false, false, false, false, false, false, false, false, false, false, false, false, false, false] rfl rfl (one_of HT_.out (by kernel_rfl)) (by decide) (fun K hK => ?_); refine goes_ Try.func42 (by kernel_rfl) rfl #[.agg #[.int .i64 a0_0, .int .i64 a0_1, .int .i64 a0_2, .slice A0_3 l0_3.length c0_3]] (by rfl) rfl rfl q117_ ?_
      with_reducible refine (tilefarmref4_Cover.calls a0_0 a0_1 a0_2 _ _ l0_3 t326 t327 t328 t329 _ ?side1 ?side2 A18.out).mono ?_
      (case side1 => repeat (first | exact (Kd.C_below HR0_3.out HB.out) | (with_reducible refine Kd.C_alloc ?_ _) | (with_reducible refine Kd.C_drewN ?_ _) | (with_reducible refine Kd.C_drew ?_))); (case side2 => exact HC0_3.out); rintro e w24 ⟨rfl, hb⟩; refine ⟨_, rfl, ?_⟩; have n0_ := am_ (blk_below (g := gb320) (o := .cells #[.int .i64 a0_0, .int .i64 a0_1, .int .i64 a0_2, .slice A0_3 l0_3.length c0_3] 26 (0, 0)) q154_ hb); have n1_ := am_ (blk_below (g := gb321) (o := .cells #[.int .i64 a1_0, .int .i64 a1_1, .int .i64 a1_2, .int .i64 a1_3] 32 (0, 0)) q155_ hb); have n2_ := am_ (blk_below (g := gb322) (o := .cells #[.int .i64 0, .int .i64 0, .int .i64 0, .slice none 0 0] 26 (0, 0)) q156_ hb); have n3_ := am_ (below_step q54_ hb); clear BK320 BK321 BK322 HB; have BK320 := n0_; have BK321 := n1_; have BK322 := n2_; have HB := n3_; clear n0_ n1_ n2_ n3_; (try clear hb); (try clear hb2); (try clear hk); (try clear hi); refine hK.out _ _ ⟨(blk_cell BK321.out 0).trans rfl, (blk_cell BK321.out 1).trans rfl, (blk_cell BK321.out 2).trans rfl, (blk_cell BK321.out 3).trans rfl, (blk_cell BK320.out 0).trans rfl, (blk_cell BK320.out 1).trans rfl, (blk_cell BK320.out 2).trans rfl, (blk_cell BK320.out 3).trans rfl⟩ (fun hHeld => ?_); clear hK K; refine norm_ (a' := ?_) ?_ ?_; rotate_left
      ·show Act.put _ (some 38) _ = _
       simp only [Act.put, la_, lz_, ls_, i64_w, i32_w]; rfl
      refine one_ (i := 7) (N := some 39) #[true, true, true, true, true, true, true, true, false, false, false, false, false, false, false, false, false, false, false, false, false, false, false, false, false, false, false, false, false, false] rfl rfl (one_of HT_.out (by kernel_rfl)) (by decide) (fun K hK => ?_); refine goes_ Try.func41 (by kernel_rfl) rfl #[.agg #[.int .i64 a1_0, .int .i64 a1_1, .int .i64 a1_2, .int .i64 a1_3], .agg #[.int .i64 t326, .int .i64 t327, .int .i64 t328, .int .i64 t329]] (by rfl) rfl rfl q117_ ?_
      with_reducible refine (tilefarmref2_Inside.calls a1_0 a1_1 a1_2 a1_3 t326 t327 t328 t329 true _ A19.out).mono ?_
      rintro e w25 ⟨rfl, hb⟩; refine ⟨_, rfl, ?_⟩; have n0_ := am_ (blk_below (g := gb320) (o := .cells #[.int .i64 a0_0, .int .i64 a0_1, .int .i64 a0_2, .slice A0_3 l0_3.length c0_3] 26 (0, 0)) q154_ hb); have n1_ := am_ (blk_below (g := gb321) (o := .cells #[.int .i64 a1_0, .int .i64 a1_1, .int .i64 a1_2, .int .i64 a1_3] 32 (0, 0)) q155_ hb); have n2_ := am_ (blk_below (g := gb322) (o := .cells #[.int .i64 0, .int .i64 0, .int .i64 0, .slice none 0 0] 26 (0, 0)) q156_ hb); have n3_ := am_ (below_step q54_ hb); clear BK320 BK321 BK322 HB; have BK320 := n0_; have BK321 := n1_; have BK322 := n2_; have HB := n3_; clear n0_ n1_ n2_ n3_; (try clear hb); (try clear hb2); (try clear hk); (try clear hi); refine hK.out _ _ ⟨(blk_cell BK321.out 0).trans rfl, (blk_cell BK321.out 1).trans rfl, (blk_cell BK321.out 2).trans rfl, (blk_cell BK321.out 3).trans rfl, (blk_cell BK320.out 0).trans rfl, (blk_cell BK320.out 1).trans rfl, (blk_cell BK320.out 2).trans rfl, (blk_cell BK320.out 3).trans rfl⟩ (fun hHeld => ?_); clear hK K; refine norm_ (a' := ?_) ?_ ?_; rotate_left
      ·show Act.put _ (some 39) _ = _
       simp only [Act.put, la_, lz_, ls_, i64_w, i32_w]; rfl
      refine pure_ (i := 8) (N := some 40) (v := ?_) (a' := ?_) #[true, true, true, true, true, true, true, true, true, false, false, false, false, false, false, false, false, false, false, false, false, false, false, false, false, false, false, false, false, false] rfl rfl (any_of HT_.out (by kernel_rfl)) (fun _ _ _ h => h) (Or.inl ⟨by rfl, ?_⟩) ?_ ?_; rotate_left
      ·intro w'
       go_simp
       with_reducible rfl
      rotate_left
      ·simp only [Act.put, la_, lz_, ls_, i64_w, i32_w]
       rfl
      refine pure_ (i := 9) (N := some 41) (v := ?_) (a' := ?_) #[true, true, true, true, true, true, true, true, true, true, false, false, false, false, false, false, false, false, false, false, false, false, false, false, false, false, false, false, false, false] rfl rfl (any_of HT_.out (by kernel_rfl)) (fun _ _ _ h => h) (Or.inl ⟨by rfl, ?_⟩) ?_ ?_; rotate_left
      ·intro w'
       go_simp
       with_reducible rfl
      rotate_left
      ·simp only [Act.put, la_, lz_, ls_, i64_w, i32_w]
       rfl
      refine pure_ (i := 10) (N := some 42) (v := ?_) (a' := ?_) #[true, true, true, true, true, true, true, true, true, true, true, false, false, false, false, false, false, false, false, false, false, false, false, false, false, false, false, false, false, false] rfl rfl (any_of HT_.out (by kernel_rfl)) (fun _ _ _ h => h) (Or.inl ⟨by rfl, ?_⟩) ?_ ?_; rotate_left
      ·intro w'
       go_simp
       with_reducible rfl
      rotate_left
      ·simp only [Act.put, la_, lz_, ls_, i64_w, i32_w]
       rfl
      refine pure_ (i := 11) (N := some 43) (v := ?_) (a' := ?_) #[true, true, true, true, true, true, true, true, true, true, true, true, false, false, false, false, false, false, false, false, false, false, false, false, false, false, false, false, false, false] rfl rfl (any_of HT_.out (by kernel_rfl)) (fun _ _ _ h => h) (Or.inl ⟨by rfl, ?_⟩) ?_ ?_; rotate_left
      ·intro w'
       go_simp
       with_reducible rfl
      rotate_left
      ·simp only [Act.put, la_, lz_, ls_, i64_w, i32_w]
       rfl
      refine pure_ (i := 12) (N := some 44) (v := ?_) (a' := ?_) #[true, true, true, true, true, true, true, true, true, true, true, true, true, false, false, false, false, false, false, false, false, false, false, false, false, false, false, false, false, false] rfl rfl (any_of HT_.out (by kernel_rfl)) (fun _ _ _ h => h) (Or.inl ⟨by rfl, ?_⟩) ?_ ?_; rotate_left
      ·intro w'
       go_simp
       with_reducible rfl
      rotate_left
      ·simp only [Act.put, la_, lz_, ls_, i64_w, i32_w]
       rfl
      refine pure_ (i := 13) (N := some 45) (v := ?_) (a' := ?_) #[true, true, true, true, true, true, true, true, true, true, true, true, true, true, false, false, false, false, false, false, false, false, false, false, false, false, false, false, false, false] rfl rfl (any_of HT_.out (by kernel_rfl)) (fun _ _ _ h => h) (Or.inl ⟨by rfl, ?_⟩) ?_ ?_; rotate_left
      ·intro w'
       go_simp
       with_reducible rfl
      rotate_left
      ·simp only [Act.put, la_, lz_, ls_, i64_w, i32_w]
       rfl
      refine pure_ (i := 15) (N := some 47) (v := ?_) (a' := ?_) #[true, true, true, true, true, true, true, true, true, true, true, true, true, true, false, true, false, false, false, false, false, false, false, false, false, false, false, false, false, false] rfl rfl (any_of HT_.out (by kernel_rfl)) (fun _ _ _ h => h) (Or.inl ⟨by rfl, ?_⟩) ?_ ?_; rotate_left
      ·intro w'
       go_simp
       with_reducible rfl
      rotate_left
      ·simp only [Act.put, la_, lz_, ls_, i64_w, i32_w]
       rfl
      refine take_ (i := 14) (N := some 46) (v := ?_) (a' := ?_) #[true, true, true, true, true, true, true, true, true, true, true, true, true, true, true, true, false, false, false, false, false, false, false, false, false, false, false, false, false, false] rfl rfl (take_ofW HT_.out HW_.out (by kernel_rfl)) (fun _ _ _ h => h) (Or.inl ⟨by rfl, ?_⟩) hHeld ?_ ?_; rotate_left
      ·rintro w' ⟨s0, s1, s2, s3, s4, s5, s6, s7⟩
       go_simp
       with_reducible rfl
      rotate_left
      ·simp only [Act.put, la_, lz_, ls_, i64_w, i32_w]
       rfl
      refine take_ (i := 16) (N := some 48) (v := ?_) (a' := ?_) #[true, true, true, true, true, true, true, true, true, true, true, true, true, true, true, true, true, false, false, false, false, false, false, false, false, false, false, false, false, false] rfl rfl (take_ofW HT_.out HW_.out (by kernel_rfl)) (fun _ _ _ h => h) (Or.inl ⟨by rfl, ?_⟩) hHeld ?_ ?_; rotate_left
      ·rintro w' ⟨s0, s1, s2, s3, s4, s5, s6, s7⟩
       go_simp
       with_reducible rfl
      rotate_left
      ·simp only [Act.put, la_, lz_, ls_, i64_w, i32_w]
       rfl
      refine pure_ (i := 17) (N := some 49) (v := ?_) (a' := ?_) #[true, true, true, true, true, true, true, true, true, true, true, true, true, true, true, true, true, true, false, false, false, false, false, false, false, false, false, false, false, false] rfl rfl (any_of HT_.out (by kernel_rfl)) (fun _ _ _ h => h) (Or.inl ⟨by rfl, ?_⟩) ?_ ?_; rotate_left
      ·intro w'
       go_simp
       with_reducible rfl
      rotate_left
      ·simp only [Act.put, la_, lz_, ls_, i64_w, i32_w]
       rfl
      refine pure_ (i := 18) (N := some 50) (v := ?_) (a' := ?_) #[true, true, true, true, true, true, true, true, true, true, true, true, true, true, true, true, true, true, true, false, false, false, false, false, false, false, false, false, false, false] rfl rfl (any_of HT_.out (by kernel_rfl)) (fun _ _ _ h => h) (Or.inl ⟨by rfl, ?_⟩) ?_ ?_; rotate_left
      ·intro w'
       go_simp
       with_reducible rfl
      rotate_left
      ·simp only [Act.put, la_, lz_, ls_, i64_w, i32_w]
       rfl
      refine pure_ (i := 19) (N := some 51) (v := ?_) (a' := ?_) #[true, true, true, true, true, true, true, true, true, true, true, true, true, true, true, true, true, true, true, true, false, false, false, false, false, false, false, false, false, false] rfl rfl (any_of HT_.out (by kernel_rfl)) (fun _ _ _ h => h) (Or.inl ⟨by rfl, ?_⟩) ?_ ?_; rotate_left
      ·intro w'
       go_simp
       with_reducible rfl
      rotate_left
      ·simp only [Act.put, la_, lz_, ls_, i64_w, i32_w]
       rfl
      refine pure_ (i := 20) (N := some 52) (v := ?_) (a' := ?_) #[true, true, true, true, true, true, true, true, true, true, true, true, true, true, true, true, true, true, true, true, true, false, false, false, false, false, false, false, false, false] rfl rfl (any_of HT_.out (by kernel_rfl)) (fun _ _ _ h => h) (Or.inl ⟨by rfl, ?_⟩) ?_ ?_; rotate_left
      ·intro w'
       go_simp
       with_reducible rfl
      rotate_left
      ·simp only [Act.put, la_, lz_, ls_, i64_w, i32_w]
       rfl
      refine pure_ (i := 21) (N := some 53) (v := ?_) (a' := ?_) #[true, true, true, true, true, true, true, true, true, true, true, true, true, true, true, true, true, true, true, true, true, true, false, false, false, false, false, false, false, false] rfl rfl (any_of HT_.out (by kernel_rfl)) (fun _ _ _ h => h) (Or.inl ⟨by rfl, ?_⟩) ?_ ?_; rotate_left
      ·intro w'
       go_simp
       with_reducible rfl
      rotate_left
      ·simp only [Act.put, la_, lz_, ls_, i64_w, i32_w]
       rfl
      refine pure_ (i := 22) (N := some 54) (v := ?_) (a' := ?_) #[true, true, true, true, true, true, true, true, true, true, true, true, true, true, true, true, true, true, true, true, true, true, true, false, false, false, false, false, false, false] rfl rfl (any_of HT_.out (by kernel_rfl)) (fun _ _ _ h => h) (Or.inl ⟨by rfl, ?_⟩) ?_ ?_; rotate_left
      ·intro w'
       go_simp
       with_reducible rfl
      rotate_left
      ·simp only [Act.put, la_, lz_, ls_, i64_w, i32_w]
       rfl
      refine pure_ (i := 23) (N := some 55) (v := ?_) (a' := ?_) #[true, true, true, true, true, true, true, true, true, true, true, true, true, true, true, true, true, true, true, true, true, true, true, true, false, false, false, false, false, false] rfl rfl (any_of HT_.out (by kernel_rfl)) (fun _ _ _ h => h) (Or.inl ⟨by rfl, ?_⟩) ?_ ?_; rotate_left
      ·intro w'
       go_simp
       with_reducible rfl
      rotate_left
      ·simp only [Act.put, la_, lz_, ls_, i64_w, i32_w]
       rfl
      refine pure_ (i := 25) (N := some 57) (v := ?_) (a' := ?_) #[true, true, true, true, true, true, true, true, true, true, true, true, true, true, true, true, true, true, true, true, true, true, true, true, false, true, false, false, false, false] rfl rfl (any_of HT_.out (by kernel_rfl)) (fun _ _ _ h => h) (Or.inl ⟨by rfl, ?_⟩) ?_ ?_; rotate_left
      ·intro w'
       go_simp
       with_reducible rfl
      rotate_left
      ·simp only [Act.put, la_, lz_, ls_, i64_w, i32_w]
       rfl
      refine take_ (i := 24) (N := some 56) (v := ?_) (a' := ?_) #[true, true, true, true, true, true, true, true, true, true, true, true, true, true, true, true, true, true, true, true, true, true, true, true, true, true, false, false, false, false] rfl rfl (take_ofW HT_.out HW_.out (by kernel_rfl)) (fun _ _ _ h => h) (Or.inl ⟨by rfl, ?_⟩) hHeld ?_ ?_; rotate_left
      ·rintro w' ⟨s0, s1, s2, s3, s4, s5, s6, s7⟩
       go_simp
       with_reducible rfl
      rotate_left
      ·simp only [Act.put, la_, lz_, ls_, i64_w, i32_w]
       rfl
      refine take_ (i := 26) (N := some 58) (v := ?_) (a' := ?_) #[true, true, true, true, true, true, true, true, true, true, true, true, true, true, true, true, true, true, true, true, true, true, true, true, true, true, true, false, false, false] rfl rfl (take_ofW HT_.out HW_.out (by kernel_rfl)) (fun _ _ _ h => h) (Or.inl ⟨by rfl, ?_⟩) hHeld ?_ ?_; rotate_left
      ·rintro w' ⟨s0, s1, s2, s3, s4, s5, s6, s7⟩
       go_simp
       with_reducible rfl
      rotate_left
      ·simp only [Act.put, la_, lz_, ls_, i64_w, i32_w]
       rfl
      refine pure_ (i := 27) (N := some 59) (v := ?_) (a' := ?_) #[true, true, true, true, true, true, true, true, true, true, true, true, true, true, true, true, true, true, true, true, true, true, true, true, true, true, true, true, false, false] rfl rfl (any_of HT_.out (by kernel_rfl)) (fun _ _ _ h => h) (Or.inl ⟨by rfl, ?_⟩) ?_ ?_; rotate_left
      ·intro w'
       go_simp
       with_reducible rfl
      rotate_left
      ·simp only [Act.put, la_, lz_, ls_, i64_w, i32_w]
       rfl
      refine pure_ (i := 28) (N := some 60) (v := ?_) (a' := ?_) #[true, true, true, true, true, true, true, true, true, true, true, true, true, true, true, true, true, true, true, true, true, true, true, true, true, true, true, true, true, false] rfl rfl (any_of HT_.out (by kernel_rfl)) (fun _ _ _ h => h) (Or.inl ⟨by rfl, ?_⟩) ?_ ?_; rotate_left
      ·intro w'
       go_simp
       with_reducible rfl
      rotate_left
      ·simp only [Act.put, la_, lz_, ls_, i64_w, i32_w]
       rfl
      refine pure_ (i := 29) (N := some 61) (v := ?_) (a' := ?_) #[true, true, true, true, true, true, true, true, true, true, true, true, true, true, true, true, true, true, true, true, true, true, true, true, true, true, true, true, true, true] rfl rfl (any_of HT_.out (by kernel_rfl)) (fun _ _ _ h => h) (Or.inl ⟨by rfl, ?_⟩) ?_ ?_; rotate_left
      ·intro w'
       go_simp
       with_reducible rfl
      rotate_left
      ·simp only [Act.put, la_, lz_, ls_, i64_w, i32_w]
       rfl
      refine done_ (done_of HT_.out (by kernel_rfl)) ?_
      try go_wp2
      go_meet
      case rel => exact ⟨_, (((l3.length : Int) != (wrap64 (a1_2 - a1_0)))), q184_, H', ⟨by first | omega | exact Nat.le_refl _⟩, ⟨q154_⟩, ⟨q155_⟩, ⟨q156_⟩, ⟨q54_⟩⟩
     ·rw [if_neg c21] at H
      have c21b0 : ((l2.length : Int) == (wrap64 (a1_3 - a1_1))) = false := beq_eq_false_iff_ne.mpr c21; have c21b1 : ((l2.length : Int) != (wrap64 (a1_3 - a1_1))) = true := bne_iff_ne.mpr c21; (first | rw [c21b0] | (simp only [i64_w, i32_w]; rw [c21b0]) | skip); have H' := am_ H; clear H
      try go_wp2
      have n0_ := am_ (blk_drew BK320.out); have n1_ := am_ (blk_drew BK321.out); have n2_ := am_ (blk_drew BK322.out); have n3_ := am_ (below_drew1 HB.out); clear BK320 BK321 BK322 HB; have BK320 := n0_; have BK321 := n1_; have BK322 := n2_; have HB := n3_; clear n0_ n1_ n2_ n3_; refine start_ (n := 30) (S := fun w' => w'.cell? ⟨gb321, 0, none⟩ = some (.int .i64 a1_0) ∧ w'.cell? ⟨gb321, 1, none⟩ = some (.int .i64 a1_1) ∧ w'.cell? ⟨gb321, 2, none⟩ = some (.int .i64 a1_2) ∧ w'.cell? ⟨gb321, 3, none⟩ = some (.int .i64 a1_3) ∧ w'.cell? ⟨gb320, 0, none⟩ = some (.int .i64 a0_0) ∧ w'.cell? ⟨gb320, 1, none⟩ = some (.int .i64 a0_1) ∧ w'.cell? ⟨gb320, 2, none⟩ = some (.int .i64 a0_2) ∧ w'.cell? ⟨gb320, 3, none⟩ = some (.slice A0_3 l0_3.length c0_3)) (ds := []) #[false, false, false, false, false, false, false, false, false, false, false, false, false, false, false, false, false, false, false, false, false, false, false, false, false, false, false, false, false, false] (by kernel_rfl) rfl rfl ⟨(blk_cell BK321.out 0).trans rfl, (blk_cell BK321.out 1).trans rfl, (blk_cell BK321.out 2).trans rfl, (blk_cell BK321.out 3).trans rfl, (blk_cell BK320.out 0).trans rfl, (blk_cell BK320.out 1).trans rfl, (blk_cell BK320.out 2).trans rfl, (blk_cell BK320.out 3).trans rfl⟩ (fun hHeld => ?_); refine with_tabW tilefarmref13_Tile.tab4 tilefarmref13_Tile.bits4 (fun HT_ HW_ => ?_); generalize w15.drew = w26 at BK320 BK321 BK322 HB hHeld ⊢; refine take_ (i := 0) (N := some 32) (v := ?_) (a' := ?_) #[true, false, false, false, false, false, false, false, false, false, false, false, false, false, false, false, false, false, false, false, false, false, false, false, false, false, false, false, false, false] rfl rfl (take_ofW HT_.out HW_.out (by kernel_rfl)) (fun _ _ _ h => h) (Or.inl ⟨by rfl, ?_⟩) hHeld ?_ ?_; rotate_left
      ·rintro w' ⟨s0, s1, s2, s3, s4, s5, s6, s7⟩
       go_simp
       with_reducible rfl
      rotate_left
      ·simp only [Act.put, la_, lz_, ls_, i64_w, i32_w]
       rfl
      refine one_ (i := 1) (N := some 33) #[true, true, false, false, false, false, false, false, false, false, false, false, false, false, false, false, false, false, false, false, false, false, false, false, false, false, false, false, false, false] rfl rfl (one_of HT_.out (by kernel_rfl)) (by decide) (fun K hK => ?_); refine goes_ Try.func40 (by kernel_rfl) rfl #[.agg #[.int .i64 a1_0, .int .i64 a1_1, .int .i64 a1_2, .int .i64 a1_3]] (by rfl) rfl rfl q117_ ?_
      with_reducible refine (tilefarmref2_Full.calls a1_0 a1_1 a1_2 a1_3 true _ A16.out).mono ?_
      rintro e w27 ⟨rfl, hb⟩; refine ⟨_, rfl, ?_⟩; have n0_ := am_ (blk_below (g := gb320) (o := .cells #[.int .i64 a0_0, .int .i64 a0_1, .int .i64 a0_2, .slice A0_3 l0_3.length c0_3] 26 (0, 0)) q154_ hb); have n1_ := am_ (blk_below (g := gb321) (o := .cells #[.int .i64 a1_0, .int .i64 a1_1, .int .i64 a1_2, .int .i64 a1_3] 32 (0, 0)) q155_ hb); have n2_ := am_ (blk_below (g := gb322) (o := .cells #[.int .i64 0, .int .i64 0, .int .i64 0, .slice none 0 0] 26 (0, 0)) q156_ hb); have n3_ := am_ (below_step q54_ hb); clear BK320 BK321 BK322 HB; have BK320 := n0_; have BK321 := n1_; have BK322 := n2_; have HB := n3_; clear n0_ n1_ n2_ n3_; (try clear hb); (try clear hb2); (try clear hk); (try clear hi); refine hK.out _ _ ⟨(blk_cell BK321.out 0).trans rfl, (blk_cell BK321.out 1).trans rfl, (blk_cell BK321.out 2).trans rfl, (blk_cell BK321.out 3).trans rfl, (blk_cell BK320.out 0).trans rfl, (blk_cell BK320.out 1).trans rfl, (blk_cell BK320.out 2).trans rfl, (blk_cell BK320.out 3).trans rfl⟩ (fun hHeld => ?_); clear hK K; refine norm_ (a' := ?_) ?_ ?_; rotate_left
      ·show Act.put _ (some 33) _ = _
       simp only [Act.put, la_, lz_, ls_, i64_w, i32_w]; rfl
      refine pure_ (i := 2) (N := some 34) (v := ?_) (a' := ?_) #[true, true, true, false, false, false, false, false, false, false, false, false, false, false, false, false, false, false, false, false, false, false, false, false, false, false, false, false, false, false] rfl rfl (any_of HT_.out (by kernel_rfl)) (fun _ _ _ h => h) (Or.inl ⟨by rfl, ?_⟩) ?_ ?_; rotate_left
      ·intro w'
       go_simp
       with_reducible rfl
      rotate_left
      ·simp only [Act.put, la_, lz_, ls_, i64_w, i32_w]
       rfl
      refine pure_ (i := 3) (N := some 35) (v := ?_) (a' := ?_) #[true, true, true, true, false, false, false, false, false, false, false, false, false, false, false, false, false, false, false, false, false, false, false, false, false, false, false, false, false, false] rfl rfl (any_of HT_.out (by kernel_rfl)) (fun _ _ _ h => h) (Or.inl ⟨by rfl, ?_⟩) ?_ ?_; rotate_left
      ·intro w'
       go_simp
       with_reducible rfl
      rotate_left
      ·simp only [Act.put, la_, lz_, ls_, i64_w, i32_w]
       rfl
      refine take_ (i := 4) (N := some 36) (v := ?_) (a' := ?_) #[true, true, true, true, true, false, false, false, false, false, false, false, false, false, false, false, false, false, false, false, false, false, false, false, false, false, false, false, false, false] rfl rfl (take_ofW HT_.out HW_.out (by kernel_rfl)) (fun _ _ _ h => h) (Or.inl ⟨by rfl, ?_⟩) hHeld ?_ ?_; rotate_left
      ·rintro w' ⟨s0, s1, s2, s3, s4, s5, s6, s7⟩
       go_simp
       with_reducible rfl
      rotate_left
      ·simp only [Act.put, la_, lz_, ls_, i64_w, i32_w]
       rfl
      refine take_ (i := 5) (N := some 37) (v := ?_) (a' := ?_) #[true, true, true, true, true, true, false, false, false, false, false, false, false, false, false, false, false, false, false, false, false, false, false, false, false, false, false, false, false, false] rfl rfl (take_ofW HT_.out HW_.out (by kernel_rfl)) (fun _ _ _ h => h) (Or.inl ⟨by rfl, ?_⟩) hHeld ?_ ?_; rotate_left
      ·rintro w' ⟨s0, s1, s2, s3, s4, s5, s6, s7⟩
       go_simp
       with_reducible rfl
      rotate_left
      ·simp only [Act.put, la_, lz_, ls_, i64_w, i32_w]
       rfl
      refine one_ (i := 6) (N := some 38) #[true, true, true, true, true, true, true, false, false, false, false, false, false, false, false, false, false, false, false, false, false, false, false, false, false, false, false, false, false, false] rfl rfl (one_of HT_.out (by kernel_rfl)) (by decide) (fun K hK => ?_); refine goes_ Try.func42 (by kernel_rfl) rfl #[.agg #[.int .i64 a0_0, .int .i64 a0_1, .int .i64 a0_2, .slice A0_3 l0_3.length c0_3]] (by rfl) rfl rfl q117_ ?_
      with_reducible refine (tilefarmref4_Cover.calls a0_0 a0_1 a0_2 _ _ l0_3 t326 t327 t328 t329 _ ?side1 ?side2 A18.out).mono ?_
      (case side1 => repeat (first | exact (Kd.C_below HR0_3.out HB.out) | (with_reducible refine Kd.C_alloc ?_ _) | (with_reducible refine Kd.C_drewN ?_ _) | (with_reducible refine Kd.C_drew ?_))); (case side2 => exact HC0_3.out); rintro e w28 ⟨rfl, hb⟩; refine ⟨_, rfl, ?_⟩; have n0_ := am_ (blk_below (g := gb320) (o := .cells #[.int .i64 a0_0, .int .i64 a0_1, .int .i64 a0_2, .slice A0_3 l0_3.length c0_3] 26 (0, 0)) q154_ hb); have n1_ := am_ (blk_below (g := gb321) (o := .cells #[.int .i64 a1_0, .int .i64 a1_1, .int .i64 a1_2, .int .i64 a1_3] 32 (0, 0)) q155_ hb); have n2_ := am_ (blk_below (g := gb322) (o := .cells #[.int .i64 0, .int .i64 0, .int .i64 0, .slice none 0 0] 26 (0, 0)) q156_ hb); have n3_ := am_ (below_step q54_ hb); clear BK320 BK321 BK322 HB; have BK320 := n0_; have BK321 := n1_; have BK322 := n2_; have HB := n3_; clear n0_ n1_ n2_ n3_; (try clear hb); (try clear hb2); (try clear hk); (try clear hi); refine hK.out _ _ ⟨(blk_cell BK321.out 0).trans rfl, (blk_cell BK321.out 1).trans rfl, (blk_cell BK321.out 2).trans rfl, (blk_cell BK321.out 3).trans rfl, (blk_cell BK320.out 0).trans rfl, (blk_cell BK320.out 1).trans rfl, (blk_cell BK320.out 2).trans rfl, (blk_cell BK320.out 3).trans rfl⟩ (fun hHeld => ?_); clear hK K; refine norm_ (a' := ?_) ?_ ?_; rotate_left
      ·show Act.put _ (some 38) _ = _
       simp only [Act.put, la_, lz_, ls_, i64_w, i32_w]; rfl
      refine one_ (i := 7) (N := some 39) #[true, true, true, true, true, true, true, true, false, false, false, false, false, false, false, false, false, false, false, false, false, false, false, false, false, false, false, false, false, false] rfl rfl (one_of HT_.out (by kernel_rfl)) (by decide) (fun K hK => ?_); refine goes_ Try.func41 (by kernel_rfl) rfl #[.agg #[.int .i64 a1_0, .int .i64 a1_1, .int .i64 a1_2, .int .i64 a1_3], .agg #[.int .i64 t326, .int .i64 t327, .int .i64 t328, .int .i64 t329]] (by rfl) rfl rfl q117_ ?_
      with_reducible refine (tilefarmref2_Inside.calls a1_0 a1_1 a1_2 a1_3 t326 t327 t328 t329 true _ A19.out).mono ?_
      rintro e w29 ⟨rfl, hb⟩; refine ⟨_, rfl, ?_⟩; have n0_ := am_ (blk_below (g := gb320) (o := .cells #[.int .i64 a0_0, .int .i64 a0_1, .int .i64 a0_2, .slice A0_3 l0_3.length c0_3] 26 (0, 0)) q154_ hb); have n1_ := am_ (blk_below (g := gb321) (o := .cells #[.int .i64 a1_0, .int .i64 a1_1, .int .i64 a1_2, .int .i64 a1_3] 32 (0, 0)) q155_ hb); have n2_ := am_ (blk_below (g := gb322) (o := .cells #[.int .i64 0, .int .i64 0, .int .i64 0, .slice none 0 0] 26 (0, 0)) q156_ hb); have n3_ := am_ (below_step q54_ hb); clear BK320 BK321 BK322 HB; have BK320 := n0_; have BK321 := n1_; have BK322 := n2_; have HB := n3_; clear n0_ n1_ n2_ n3_; (try clear hb); (try clear hb2); (try clear hk); (try clear hi); refine hK.out _ _ ⟨(blk_cell BK321.out 0).trans rfl, (blk_cell BK321.out 1).trans rfl, (blk_cell BK321.out 2).trans rfl, (blk_cell BK321.out 3).trans rfl, (blk_cell BK320.out 0).trans rfl, (blk_cell BK320.out 1).trans rfl, (blk_cell BK320.out 2).trans rfl, (blk_cell BK320.out 3).trans rfl⟩ (fun hHeld => ?_); clear hK K; refine norm_ (a' := ?_) ?_ ?_; rotate_left
      ·show Act.put _ (some 39) _ = _
       simp only [Act.put, la_, lz_, ls_, i64_w, i32_w]; rfl
      refine pure_ (i := 8) (N := some 40) (v := ?_) (a' := ?_) #[true, true, true, true, true, true, true, true, true, false, false, false, false, false, false, false, false, false, false, false, false, false, false, false, false, false, false, false, false, false] rfl rfl (any_of HT_.out (by kernel_rfl)) (fun _ _ _ h => h) (Or.inl ⟨by rfl, ?_⟩) ?_ ?_; rotate_left
      ·intro w'
       go_simp
       with_reducible rfl
      rotate_left
      ·simp only [Act.put, la_, lz_, ls_, i64_w, i32_w]
       rfl
      refine pure_ (i := 9) (N := some 41) (v := ?_) (a' := ?_) #[true, true, true, true, true, true, true, true, true, true, false, false, false, false, false, false, false, false, false, false, false, false, false, false, false, false, false, false, false, false] rfl rfl (any_of HT_.out (by kernel_rfl)) (fun _ _ _ h => h) (Or.inl ⟨by rfl, ?_⟩) ?_ ?_; rotate_left
      ·intro w'
       go_simp
       with_reducible rfl
      rotate_left
      ·simp only [Act.put, la_, lz_, ls_, i64_w, i32_w]
       rfl
      refine pure_ (i := 10) (N := some 42) (v := ?_) (a' := ?_) #[true, true, true, true, true, true, true, true, true, true, true, false, false, false, false, false, false, false, false, false, false, false, false, false, false, false, false, false, false, false] rfl rfl (any_of HT_.out (by kernel_rfl)) (fun _ _ _ h => h) (Or.inl ⟨by rfl, ?_⟩) ?_ ?_; rotate_left
      ·intro w'
       go_simp
       with_reducible rfl
      rotate_left
      ·simp only [Act.put, la_, lz_, ls_, i64_w, i32_w]
       rfl
      refine pure_ (i := 11) (N := some 43) (v := ?_) (a' := ?_) #[true, true, true, true, true, true, true, true, true, true, true, true, false, false, false, false, false, false, false, false, false, false, false, false, false, false, false, false, false, false] rfl rfl (any_of HT_.out (by kernel_rfl)) (fun _ _ _ h => h) (Or.inl ⟨by rfl, ?_⟩) ?_ ?_; rotate_left
      ·intro w'
       go_simp
       with_reducible rfl
      rotate_left
      ·simp only [Act.put, la_, lz_, ls_, i64_w, i32_w]
       rfl
      refine pure_ (i := 12) (N := some 44) (v := ?_) (a' := ?_) #[true, true, true, true, true, true, true, true, true, true, true, true, true, false, false, false, false, false, false, false, false, false, false, false, false, false, false, false, false, false] rfl rfl (any_of HT_.out (by kernel_rfl)) (fun _ _ _ h => h) (Or.inl ⟨by rfl, ?_⟩) ?_ ?_; rotate_left
      ·intro w'
       go_simp
       with_reducible rfl
      rotate_left
      ·simp only [Act.put, la_, lz_, ls_, i64_w, i32_w]
       rfl
      refine pure_ (i := 13) (N := some 45) (v := ?_) (a' := ?_) #[true, true, true, true, true, true, true, true, true, true, true, true, true, true, false, false, false, false, false, false, false, false, false, false, false, false, false, false, false, false] rfl rfl (any_of HT_.out (by kernel_rfl)) (fun _ _ _ h => h) (Or.inl ⟨by rfl, ?_⟩) ?_ ?_; rotate_left
      ·intro w'
       go_simp
       with_reducible rfl
      rotate_left
      ·simp only [Act.put, la_, lz_, ls_, i64_w, i32_w]
       rfl
      refine pure_ (i := 15) (N := some 47) (v := ?_) (a' := ?_) #[true, true, true, true, true, true, true, true, true, true, true, true, true, true, false, true, false, false, false, false, false, false, false, false, false, false, false, false, false, false] rfl rfl (any_of HT_.out (by kernel_rfl)) (fun _ _ _ h => h) (Or.inl ⟨by rfl, ?_⟩) ?_ ?_; rotate_left
      ·intro w'
       go_simp
       with_reducible rfl
      rotate_left
      ·simp only [Act.put, la_, lz_, ls_, i64_w, i32_w]
       rfl
      refine take_ (i := 14) (N := some 46) (v := ?_) (a' := ?_) #[true, true, true, true, true, true, true, true, true, true, true, true, true, true, true, true, false, false, false, false, false, false, false, false, false, false, false, false, false, false] rfl rfl (take_ofW HT_.out HW_.out (by kernel_rfl)) (fun _ _ _ h => h) (Or.inl ⟨by rfl, ?_⟩) hHeld ?_ ?_; rotate_left
      ·rintro w' ⟨s0, s1, s2, s3, s4, s5, s6, s7⟩
       go_simp
       with_reducible rfl
      rotate_left
      ·simp only [Act.put, la_, lz_, ls_, i64_w, i32_w]
       rfl
      refine take_ (i := 16) (N := some 48) (v := ?_) (a' := ?_) #[true, true, true, true, true, true, true, true, true, true, true, true, true, true, true, true, true, false, false, false, false, false, false, false, false, false, false, false, false, false] rfl rfl (take_ofW HT_.out HW_.out (by kernel_rfl)) (fun _ _ _ h => h) (Or.inl ⟨by rfl, ?_⟩) hHeld ?_ ?_; rotate_left
      ·rintro w' ⟨s0, s1, s2, s3, s4, s5, s6, s7⟩
       go_simp
       with_reducible rfl
      rotate_left
      ·simp only [Act.put, la_, lz_, ls_, i64_w, i32_w]
       rfl
      refine pure_ (i := 17) (N := some 49) (v := ?_) (a' := ?_) #[true, true, true, true, true, true, true, true, true, true, true, true, true, true, true, true, true, true, false, false, false, false, false, false, false, false, false, false, false, false] rfl rfl (any_of HT_.out (by kernel_rfl)) (fun _ _ _ h => h) (Or.inl ⟨by rfl, ?_⟩) ?_ ?_; rotate_left
      ·intro w'
       go_simp
       with_reducible rfl
      rotate_left
      ·simp only [Act.put, la_, lz_, ls_, i64_w, i32_w]
       rfl
      refine pure_ (i := 18) (N := some 50) (v := ?_) (a' := ?_) #[true, true, true, true, true, true, true, true, true, true, true, true, true, true, true, true, true, true, true, false, false, false, false, false, false, false, false, false, false, false] rfl rfl (any_of HT_.out (by kernel_rfl)) (fun _ _ _ h => h) (Or.inl ⟨by rfl, ?_⟩) ?_ ?_; rotate_left
      ·intro w'
       go_simp
       with_reducible rfl
      rotate_left
      ·simp only [Act.put, la_, lz_, ls_, i64_w, i32_w]
       rfl
      refine pure_ (i := 19) (N := some 51) (v := ?_) (a' := ?_) #[true, true, true, true, true, true, true, true, true, true, true, true, true, true, true, true, true, true, true, true, false, false, false, false, false, false, false, false, false, false] rfl rfl (any_of HT_.out (by kernel_rfl)) (fun _ _ _ h => h) (Or.inl ⟨by rfl, ?_⟩) ?_ ?_; rotate_left
      ·intro w'
       go_simp
       with_reducible rfl
      rotate_left
      ·simp only [Act.put, la_, lz_, ls_, i64_w, i32_w]
       rfl
      refine pure_ (i := 20) (N := some 52) (v := ?_) (a' := ?_) #[true, true, true, true, true, true, true, true, true, true, true, true, true, true, true, true, true, true, true, true, true, false, false, false, false, false, false, false, false, false] rfl rfl (any_of HT_.out (by kernel_rfl)) (fun _ _ _ h => h) (Or.inl ⟨by rfl, ?_⟩) ?_ ?_; rotate_left
      ·intro w'
       go_simp
       with_reducible rfl
      rotate_left
      ·simp only [Act.put, la_, lz_, ls_, i64_w, i32_w]
       rfl
      refine pure_ (i := 21) (N := some 53) (v := undef) (a' := ?_) #[true, true, true, true, true, true, true, true, true, true, true, true, true, true, true, true, true, true, true, true, true, true, false, false, false, false, false, false, false, false] rfl rfl (any_of HT_.out (by kernel_rfl)) (fun _ _ _ h => h) (Or.inr ⟨by rfl, rfl⟩) ?_ ?_; rotate_left
      ·simp only [Act.put, la_, lz_, ls_, i64_w, i32_w]
       rfl
      refine pure_ (i := 22) (N := some 54) (v := undef) (a' := ?_) #[true, true, true, true, true, true, true, true, true, true, true, true, true, true, true, true, true, true, true, true, true, true, true, false, false, false, false, false, false, false] rfl rfl (any_of HT_.out (by kernel_rfl)) (fun _ _ _ h => h) (Or.inr ⟨by rfl, rfl⟩) ?_ ?_; rotate_left
      ·simp only [Act.put, la_, lz_, ls_, i64_w, i32_w]
       rfl
      refine pure_ (i := 23) (N := some 55) (v := undef) (a' := ?_) #[true, true, true, true, true, true, true, true, true, true, true, true, true, true, true, true, true, true, true, true, true, true, true, true, false, false, false, false, false, false] rfl rfl (any_of HT_.out (by kernel_rfl)) (fun _ _ _ h => h) (Or.inr ⟨by rfl, rfl⟩) ?_ ?_; rotate_left
      ·simp only [Act.put, la_, lz_, ls_, i64_w, i32_w]
       rfl
      refine pure_ (i := 24) (N := some 56) (v := undef) (a' := ?_) #[true, true, true, true, true, true, true, true, true, true, true, true, true, true, true, true, true, true, true, true, true, true, true, true, true, false, false, false, false, false] rfl rfl (any_of HT_.out (by kernel_rfl)) (fun _ _ _ h => h) (Or.inr ⟨by rfl, rfl⟩) ?_ ?_; rotate_left
      ·simp only [Act.put, la_, lz_, ls_, i64_w, i32_w]
       rfl
      refine pure_ (i := 25) (N := some 57) (v := undef) (a' := ?_) #[true, true, true, true, true, true, true, true, true, true, true, true, true, true, true, true, true, true, true, true, true, true, true, true, true, true, false, false, false, false] rfl rfl (any_of HT_.out (by kernel_rfl)) (fun _ _ _ h => h) (Or.inr ⟨by rfl, rfl⟩) ?_ ?_; rotate_left
      ·simp only [Act.put, la_, lz_, ls_, i64_w, i32_w]
       rfl
      refine pure_ (i := 26) (N := some 58) (v := undef) (a' := ?_) #[true, true, true, true, true, true, true, true, true, true, true, true, true, true, true, true, true, true, true, true, true, true, true, true, true, true, true, false, false, false] rfl rfl (any_of HT_.out (by kernel_rfl)) (fun _ _ _ h => h) (Or.inr ⟨by rfl, rfl⟩) ?_ ?_; rotate_left
      ·simp only [Act.put, la_, lz_, ls_, i64_w, i32_w]
       rfl
      refine pure_ (i := 27) (N := some 59) (v := undef) (a' := ?_) #[true, true, true, true, true, true, true, true, true, true, true, true, true, true, true, true, true, true, true, true, true, true, true, true, true, true, true, true, false, false] rfl rfl (any_of HT_.out (by kernel_rfl)) (fun _ _ _ h => h) (Or.inr ⟨by rfl, rfl⟩) ?_ ?_; rotate_left
      ·simp only [Act.put, la_, lz_, ls_, i64_w, i32_w]
       rfl
      refine pure_ (i := 28) (N := some 60) (v := undef) (a' := ?_) #[true, true, true, true, true, true, true, true, true, true, true, true, true, true, true, true, true, true, true, true, true, true, true, true, true, true, true, true, true, false] rfl rfl (any_of HT_.out (by kernel_rfl)) (fun _ _ _ h => h) (Or.inr ⟨by rfl, rfl⟩) ?_ ?_; rotate_left
      ·simp only [Act.put, la_, lz_, ls_, i64_w, i32_w]
       rfl
      refine pure_ (i := 29) (N := some 61) (v := ?_) (a' := ?_) #[true, true, true, true, true, true, true, true, true, true, true, true, true, true, true, true, true, true, true, true, true, true, true, true, true, true, true, true, true, true] rfl rfl (any_of HT_.out (by kernel_rfl)) (fun _ _ _ h => h) (Or.inl ⟨by rfl, ?_⟩) ?_ ?_; rotate_left
      ·intro w'
       go_simp
       with_reducible rfl
      rotate_left
      ·simp only [Act.put, la_, lz_, ls_, i64_w, i32_w]
       rfl
      refine done_ (done_of HT_.out (by kernel_rfl)) ?_
      try go_wp2
      go_meet
      case rel => exact ⟨_, (true), q184_, H', ⟨by first | omega | exact Nat.le_refl _⟩, ⟨q154_⟩, ⟨q155_⟩, ⟨q156_⟩, ⟨q54_⟩⟩
    ·replace c20 := Bool.eq_false_iff.mpr c20
     subst c20; have H1 : (tilefarmref13_Tile.j0 k l2 l3 a4 t323 true a0_0 a0_1 a0_2 l0_3 a1_0 a1_1 a1_2 a1_3) = some (r1, r2, r3, r4, r5) := by rw [if_neg (show ¬ (false = true) by decide)] at H; exact H
     clear H; have H := H1; clear H1; have H' := am_ H; clear H
     try go_wp2
     have n0_ := am_ (blk_drew BK320.out); have n1_ := am_ (blk_drew BK321.out); have n2_ := am_ (blk_drew BK322.out); have n3_ := am_ (below_drew1 HB.out); clear BK320 BK321 BK322 HB; have BK320 := n0_; have BK321 := n1_; have BK322 := n2_; have HB := n3_; clear n0_ n1_ n2_ n3_; refine start_ (n := 30) (S := fun w' => w'.cell? ⟨gb321, 0, none⟩ = some (.int .i64 a1_0) ∧ w'.cell? ⟨gb321, 1, none⟩ = some (.int .i64 a1_1) ∧ w'.cell? ⟨gb321, 2, none⟩ = some (.int .i64 a1_2) ∧ w'.cell? ⟨gb321, 3, none⟩ = some (.int .i64 a1_3) ∧ w'.cell? ⟨gb320, 0, none⟩ = some (.int .i64 a0_0) ∧ w'.cell? ⟨gb320, 1, none⟩ = some (.int .i64 a0_1) ∧ w'.cell? ⟨gb320, 2, none⟩ = some (.int .i64 a0_2) ∧ w'.cell? ⟨gb320, 3, none⟩ = some (.slice A0_3 l0_3.length c0_3)) (ds := []) #[false, false, false, false, false, false, false, false, false, false, false, false, false, false, false, false, false, false, false, false, false, false, false, false, false, false, false, false, false, false] (by kernel_rfl) rfl rfl ⟨(blk_cell BK321.out 0).trans rfl, (blk_cell BK321.out 1).trans rfl, (blk_cell BK321.out 2).trans rfl, (blk_cell BK321.out 3).trans rfl, (blk_cell BK320.out 0).trans rfl, (blk_cell BK320.out 1).trans rfl, (blk_cell BK320.out 2).trans rfl, (blk_cell BK320.out 3).trans rfl⟩ (fun hHeld => ?_); refine with_tabW tilefarmref13_Tile.tab4 tilefarmref13_Tile.bits4 (fun HT_ HW_ => ?_); generalize w15.drew = w30 at BK320 BK321 BK322 HB hHeld ⊢; refine take_ (i := 0) (N := some 32) (v := ?_) (a' := ?_) #[true, false, false, false, false, false, false, false, false, false, false, false, false, false, false, false, false, false, false, false, false, false, false, false, false, false, false, false, false, false] rfl rfl (take_ofW HT_.out HW_.out (by kernel_rfl)) (fun _ _ _ h => h) (Or.inl ⟨by rfl, ?_⟩) hHeld ?_ ?_; rotate_left
     ·rintro w' ⟨s0, s1, s2, s3, s4, s5, s6, s7⟩
      go_simp
      with_reducible rfl
     rotate_left
     ·simp only [Act.put, la_, lz_, ls_, i64_w, i32_w]
      rfl
     refine one_ (i := 1) (N := some 33) #[true, true, false, false, false, false, false, false, false, false, false, false, false, false, false, false, false, false, false, false, false, false, false, false, false, false, false, false, false, false] rfl rfl (one_of HT_.out (by kernel_rfl)) (by decide) (fun K hK => ?_); refine goes_ Try.func40 (by kernel_rfl) rfl #[.agg #[.int .i64 a1_0, .int .i64 a1_1, .int .i64 a1_2, .int .i64 a1_3]] (by rfl) rfl rfl q117_ ?_
     with_reducible refine (tilefarmref2_Full.calls a1_0 a1_1 a1_2 a1_3 true _ A16.out).mono ?_
     rintro e w31 ⟨rfl, hb⟩; refine ⟨_, rfl, ?_⟩; have n0_ := am_ (blk_below (g := gb320) (o := .cells #[.int .i64 a0_0, .int .i64 a0_1, .int .i64 a0_2, .slice A0_3 l0_3.length c0_3] 26 (0, 0)) q154_ hb); have n1_ := am_ (blk_below (g := gb321) (o := .cells #[.int .i64 a1_0, .int .i64 a1_1, .int .i64 a1_2, .int .i64 a1_3] 32 (0, 0)) q155_ hb); have n2_ := am_ (blk_below (g := gb322) (o := .cells #[.int .i64 0, .int .i64 0, .int .i64 0, .slice none 0 0] 26 (0, 0)) q156_ hb); have n3_ := am_ (below_step q54_ hb); clear BK320 BK321 BK322 HB; have BK320 := n0_; have BK321 := n1_; have BK322 := n2_; have HB := n3_; clear n0_ n1_ n2_ n3_; (try clear hb); (try clear hb2); (try clear hk); (try clear hi); refine hK.out _ _ ⟨(blk_cell BK321.out 0).trans rfl, (blk_cell BK321.out 1).trans rfl, (blk_cell BK321.out 2).trans rfl, (blk_cell BK321.out 3).trans rfl, (blk_cell BK320.out 0).trans rfl, (blk_cell BK320.out 1).trans rfl, (blk_cell BK320.out 2).trans rfl, (blk_cell BK320.out 3).trans rfl⟩ (fun hHeld => ?_); clear hK K; refine norm_ (a' := ?_) ?_ ?_; rotate_left
     ·show Act.put _ (some 33) _ = _
      simp only [Act.put, la_, lz_, ls_, i64_w, i32_w]; rfl
     refine pure_ (i := 2) (N := some 34) (v := ?_) (a' := ?_) #[true, true, true, false, false, false, false, false, false, false, false, false, false, false, false, false, false, false, false, false, false, false, false, false, false, false, false, false, false, false] rfl rfl (any_of HT_.out (by kernel_rfl)) (fun _ _ _ h => h) (Or.inl ⟨by rfl, ?_⟩) ?_ ?_; rotate_left
     ·intro w'
      go_simp
      with_reducible rfl
     rotate_left
     ·simp only [Act.put, la_, lz_, ls_, i64_w, i32_w]
      rfl
     refine pure_ (i := 3) (N := some 35) (v := ?_) (a' := ?_) #[true, true, true, true, false, false, false, false, false, false, false, false, false, false, false, false, false, false, false, false, false, false, false, false, false, false, false, false, false, false] rfl rfl (any_of HT_.out (by kernel_rfl)) (fun _ _ _ h => h) (Or.inl ⟨by rfl, ?_⟩) ?_ ?_; rotate_left
     ·intro w'
      go_simp
      with_reducible rfl
     rotate_left
     ·simp only [Act.put, la_, lz_, ls_, i64_w, i32_w]
      rfl
     refine take_ (i := 4) (N := some 36) (v := ?_) (a' := ?_) #[true, true, true, true, true, false, false, false, false, false, false, false, false, false, false, false, false, false, false, false, false, false, false, false, false, false, false, false, false, false] rfl rfl (take_ofW HT_.out HW_.out (by kernel_rfl)) (fun _ _ _ h => h) (Or.inl ⟨by rfl, ?_⟩) hHeld ?_ ?_; rotate_left
     ·rintro w' ⟨s0, s1, s2, s3, s4, s5, s6, s7⟩
      go_simp
      with_reducible rfl
     rotate_left
     ·simp only [Act.put, la_, lz_, ls_, i64_w, i32_w]
      rfl
     refine take_ (i := 5) (N := some 37) (v := ?_) (a' := ?_) #[true, true, true, true, true, true, false, false, false, false, false, false, false, false, false, false, false, false, false, false, false, false, false, false, false, false, false, false, false, false] rfl rfl (take_ofW HT_.out HW_.out (by kernel_rfl)) (fun _ _ _ h => h) (Or.inl ⟨by rfl, ?_⟩) hHeld ?_ ?_; rotate_left
     ·rintro w' ⟨s0, s1, s2, s3, s4, s5, s6, s7⟩
      go_simp
      with_reducible rfl
     rotate_left
     ·simp only [Act.put, la_, lz_, ls_, i64_w, i32_w]
      rfl
     refine one_ (i := 6) (N := some 38) #[true, true, true, true, true, true, true, false, false, false, false, false, false, false, false, false, false, false, false, false, false, false, false, false, false, false, false, false, false, false] rfl rfl (one_of HT_.out (by kernel_rfl)) (by decide) (fun K hK => ?_); refine goes_ Try.func42 (by kernel_rfl) rfl #[.agg #[.int .i64 a0_0, .int .i64 a0_1, .int .i64 a0_2, .slice A0_3 l0_3.length c0_3]] (by rfl) rfl rfl q117_ ?_
     with_reducible refine (tilefarmref4_Cover.calls a0_0 a0_1 a0_2 _ _ l0_3 t326 t327 t328 t329 _ ?side1 ?side2 A18.out).mono ?_
     (case side1 => repeat (first | exact (Kd.C_below HR0_3.out HB.out) | (with_reducible refine Kd.C_alloc ?_ _) | (with_reducible refine Kd.C_drewN ?_ _) | (with_reducible refine Kd.C_drew ?_))); (case side2 => exact HC0_3.out); rintro e w32 ⟨rfl, hb⟩; refine ⟨_, rfl, ?_⟩; have n0_ := am_ (blk_below (g := gb320) (o := .cells #[.int .i64 a0_0, .int .i64 a0_1, .int .i64 a0_2, .slice A0_3 l0_3.length c0_3] 26 (0, 0)) q154_ hb); have n1_ := am_ (blk_below (g := gb321) (o := .cells #[.int .i64 a1_0, .int .i64 a1_1, .int .i64 a1_2, .int .i64 a1_3] 32 (0, 0)) q155_ hb); have n2_ := am_ (blk_below (g := gb322) (o := .cells #[.int .i64 0, .int .i64 0, .int .i64 0, .slice none 0 0] 26 (0, 0)) q156_ hb); have n3_ := am_ (below_step q54_ hb); clear BK320 BK321 BK322 HB; have BK320 := n0_; have BK321 := n1_; have BK322 := n2_; have HB := n3_; clear n0_ n1_ n2_ n3_; (try clear hb); (try clear hb2); (try clear hk); (try clear hi); refine hK.out _ _ ⟨(blk_cell BK321.out 0).trans rfl, (blk_cell BK321.out 1).trans rfl, (blk_cell BK321.out 2).trans rfl, (blk_cell BK321.out 3).trans rfl, (blk_cell BK320.out 0).trans rfl, (blk_cell BK320.out 1).trans rfl, (blk_cell BK320.out 2).trans rfl, (blk_cell BK320.out 3).trans rfl⟩ (fun hHeld => ?_); clear hK K; refine norm_ (a' := ?_) ?_ ?_; rotate_left
     ·show Act.put _ (some 38) _ = _
      simp only [Act.put, la_, lz_, ls_, i64_w, i32_w]; rfl
     refine one_ (i := 7) (N := some 39) #[true, true, true, true, true, true, true, true, false, false, false, false, false, false, false, false, false, false, false, false, false, false, false, false, false, false, false, false, false, false] rfl rfl (one_of HT_.out (by kernel_rfl)) (by decide) (fun K hK => ?_); refine goes_ Try.func41 (by kernel_rfl) rfl #[.agg #[.int .i64 a1_0, .int .i64 a1_1, .int .i64 a1_2, .int .i64 a1_3], .agg #[.int .i64 t326, .int .i64 t327, .int .i64 t328, .int .i64 t329]] (by rfl) rfl rfl q117_ ?_
     with_reducible refine (tilefarmref2_Inside.calls a1_0 a1_1 a1_2 a1_3 t326 t327 t328 t329 false _ A19.out).mono ?_
     rintro e w33 ⟨rfl, hb⟩; refine ⟨_, rfl, ?_⟩; have n0_ := am_ (blk_below (g := gb320) (o := .cells #[.int .i64 a0_0, .int .i64 a0_1, .int .i64 a0_2, .slice A0_3 l0_3.length c0_3] 26 (0, 0)) q154_ hb); have n1_ := am_ (blk_below (g := gb321) (o := .cells #[.int .i64 a1_0, .int .i64 a1_1, .int .i64 a1_2, .int .i64 a1_3] 32 (0, 0)) q155_ hb); have n2_ := am_ (blk_below (g := gb322) (o := .cells #[.int .i64 0, .int .i64 0, .int .i64 0, .slice none 0 0] 26 (0, 0)) q156_ hb); have n3_ := am_ (below_step q54_ hb); clear BK320 BK321 BK322 HB; have BK320 := n0_; have BK321 := n1_; have BK322 := n2_; have HB := n3_; clear n0_ n1_ n2_ n3_; (try clear hb); (try clear hb2); (try clear hk); (try clear hi); refine hK.out _ _ ⟨(blk_cell BK321.out 0).trans rfl, (blk_cell BK321.out 1).trans rfl, (blk_cell BK321.out 2).trans rfl, (blk_cell BK321.out 3).trans rfl, (blk_cell BK320.out 0).trans rfl, (blk_cell BK320.out 1).trans rfl, (blk_cell BK320.out 2).trans rfl, (blk_cell BK320.out 3).trans rfl⟩ (fun hHeld => ?_); clear hK K; refine norm_ (a' := ?_) ?_ ?_; rotate_left
     ·show Act.put _ (some 39) _ = _
      simp only [Act.put, la_, lz_, ls_, i64_w, i32_w]; rfl
     refine pure_ (i := 8) (N := some 40) (v := ?_) (a' := ?_) #[true, true, true, true, true, true, true, true, true, false, false, false, false, false, false, false, false, false, false, false, false, false, false, false, false, false, false, false, false, false] rfl rfl (any_of HT_.out (by kernel_rfl)) (fun _ _ _ h => h) (Or.inl ⟨by rfl, ?_⟩) ?_ ?_; rotate_left
     ·intro w'
      go_simp
      with_reducible rfl
     rotate_left
     ·simp only [Act.put, la_, lz_, ls_, i64_w, i32_w]
      rfl
     refine pure_ (i := 9) (N := some 41) (v := ?_) (a' := ?_) #[true, true, true, true, true, true, true, true, true, true, false, false, false, false, false, false, false, false, false, false, false, false, false, false, false, false, false, false, false, false] rfl rfl (any_of HT_.out (by kernel_rfl)) (fun _ _ _ h => h) (Or.inl ⟨by rfl, ?_⟩) ?_ ?_; rotate_left
     ·intro w'
      go_simp
      with_reducible rfl
     rotate_left
     ·simp only [Act.put, la_, lz_, ls_, i64_w, i32_w]
      rfl
     refine pure_ (i := 10) (N := some 42) (v := ?_) (a' := ?_) #[true, true, true, true, true, true, true, true, true, true, true, false, false, false, false, false, false, false, false, false, false, false, false, false, false, false, false, false, false, false] rfl rfl (any_of HT_.out (by kernel_rfl)) (fun _ _ _ h => h) (Or.inl ⟨by rfl, ?_⟩) ?_ ?_; rotate_left
     ·intro w'
      go_simp
      with_reducible rfl
     rotate_left
     ·simp only [Act.put, la_, lz_, ls_, i64_w, i32_w]
      rfl
     refine pure_ (i := 11) (N := some 43) (v := undef) (a' := ?_) #[true, true, true, true, true, true, true, true, true, true, true, true, false, false, false, false, false, false, false, false, false, false, false, false, false, false, false, false, false, false] rfl rfl (any_of HT_.out (by kernel_rfl)) (fun _ _ _ h => h) (Or.inr ⟨by rfl, rfl⟩) ?_ ?_; rotate_left
     ·simp only [Act.put, la_, lz_, ls_, i64_w, i32_w]
      rfl
     refine pure_ (i := 12) (N := some 44) (v := undef) (a' := ?_) #[true, true, true, true, true, true, true, true, true, true, true, true, true, false, false, false, false, false, false, false, false, false, false, false, false, false, false, false, false, false] rfl rfl (any_of HT_.out (by kernel_rfl)) (fun _ _ _ h => h) (Or.inr ⟨by rfl, rfl⟩) ?_ ?_; rotate_left
     ·simp only [Act.put, la_, lz_, ls_, i64_w, i32_w]
      rfl
     refine pure_ (i := 13) (N := some 45) (v := undef) (a' := ?_) #[true, true, true, true, true, true, true, true, true, true, true, true, true, true, false, false, false, false, false, false, false, false, false, false, false, false, false, false, false, false] rfl rfl (any_of HT_.out (by kernel_rfl)) (fun _ _ _ h => h) (Or.inr ⟨by rfl, rfl⟩) ?_ ?_; rotate_left
     ·simp only [Act.put, la_, lz_, ls_, i64_w, i32_w]
      rfl
     refine pure_ (i := 14) (N := some 46) (v := undef) (a' := ?_) #[true, true, true, true, true, true, true, true, true, true, true, true, true, true, true, false, false, false, false, false, false, false, false, false, false, false, false, false, false, false] rfl rfl (any_of HT_.out (by kernel_rfl)) (fun _ _ _ h => h) (Or.inr ⟨by rfl, rfl⟩) ?_ ?_; rotate_left
     ·simp only [Act.put, la_, lz_, ls_, i64_w, i32_w]
      rfl
     refine pure_ (i := 15) (N := some 47) (v := undef) (a' := ?_) #[true, true, true, true, true, true, true, true, true, true, true, true, true, true, true, true, false, false, false, false, false, false, false, false, false, false, false, false, false, false] rfl rfl (any_of HT_.out (by kernel_rfl)) (fun _ _ _ h => h) (Or.inr ⟨by rfl, rfl⟩) ?_ ?_; rotate_left
     ·simp only [Act.put, la_, lz_, ls_, i64_w, i32_w]
      rfl
     refine pure_ (i := 16) (N := some 48) (v := undef) (a' := ?_) #[true, true, true, true, true, true, true, true, true, true, true, true, true, true, true, true, true, false, false, false, false, false, false, false, false, false, false, false, false, false] rfl rfl (any_of HT_.out (by kernel_rfl)) (fun _ _ _ h => h) (Or.inr ⟨by rfl, rfl⟩) ?_ ?_; rotate_left
     ·simp only [Act.put, la_, lz_, ls_, i64_w, i32_w]
      rfl
     refine pure_ (i := 17) (N := some 49) (v := undef) (a' := ?_) #[true, true, true, true, true, true, true, true, true, true, true, true, true, true, true, true, true, true, false, false, false, false, false, false, false, false, false, false, false, false] rfl rfl (any_of HT_.out (by kernel_rfl)) (fun _ _ _ h => h) (Or.inr ⟨by rfl, rfl⟩) ?_ ?_; rotate_left
     ·simp only [Act.put, la_, lz_, ls_, i64_w, i32_w]
      rfl
     refine pure_ (i := 18) (N := some 50) (v := undef) (a' := ?_) #[true, true, true, true, true, true, true, true, true, true, true, true, true, true, true, true, true, true, true, false, false, false, false, false, false, false, false, false, false, false] rfl rfl (any_of HT_.out (by kernel_rfl)) (fun _ _ _ h => h) (Or.inr ⟨by rfl, rfl⟩) ?_ ?_; rotate_left
     ·simp only [Act.put, la_, lz_, ls_, i64_w, i32_w]
      rfl
     refine pure_ (i := 19) (N := some 51) (v := ?_) (a' := ?_) #[true, true, true, true, true, true, true, true, true, true, true, true, true, true, true, true, true, true, true, true, false, false, false, false, false, false, false, false, false, false] rfl rfl (any_of HT_.out (by kernel_rfl)) (fun _ _ _ h => h) (Or.inl ⟨by rfl, ?_⟩) ?_ ?_; rotate_left
     ·intro w'
      go_simp
      with_reducible rfl
     rotate_left
     ·simp only [Act.put, la_, lz_, ls_, i64_w, i32_w]
      rfl
     refine pure_ (i := 20) (N := some 52) (v := ?_) (a' := ?_) #[true, true, true, true, true, true, true, true, true, true, true, true, true, true, true, true, true, true, true, true, true, false, false, false, false, false, false, false, false, false] rfl rfl (any_of HT_.out (by kernel_rfl)) (fun _ _ _ h => h) (Or.inl ⟨by rfl, ?_⟩) ?_ ?_; rotate_left
     ·intro w'
      go_simp
      with_reducible rfl
     rotate_left
     ·simp only [Act.put, la_, lz_, ls_, i64_w, i32_w]
      rfl
     refine pure_ (i := 21) (N := some 53) (v := undef) (a' := ?_) #[true, true, true, true, true, true, true, true, true, true, true, true, true, true, true, true, true, true, true, true, true, true, false, false, false, false, false, false, false, false] rfl rfl (any_of HT_.out (by kernel_rfl)) (fun _ _ _ h => h) (Or.inr ⟨by rfl, rfl⟩) ?_ ?_; rotate_left
     ·simp only [Act.put, la_, lz_, ls_, i64_w, i32_w]
      rfl
     refine pure_ (i := 22) (N := some 54) (v := undef) (a' := ?_) #[true, true, true, true, true, true, true, true, true, true, true, true, true, true, true, true, true, true, true, true, true, true, true, false, false, false, false, false, false, false] rfl rfl (any_of HT_.out (by kernel_rfl)) (fun _ _ _ h => h) (Or.inr ⟨by rfl, rfl⟩) ?_ ?_; rotate_left
     ·simp only [Act.put, la_, lz_, ls_, i64_w, i32_w]
      rfl
     refine pure_ (i := 23) (N := some 55) (v := undef) (a' := ?_) #[true, true, true, true, true, true, true, true, true, true, true, true, true, true, true, true, true, true, true, true, true, true, true, true, false, false, false, false, false, false] rfl rfl (any_of HT_.out (by kernel_rfl)) (fun _ _ _ h => h) (Or.inr ⟨by rfl, rfl⟩) ?_ ?_; rotate_left
     ·simp only [Act.put, la_, lz_, ls_, i64_w, i32_w]
      rfl
     refine pure_ (i := 24) (N := some 56) (v := undef) (a' := ?_) #[true, true, true, true, true, true, true, true, true, true, true, true, true, true, true, true, true, true, true, true, true, true, true, true, true, false, false, false, false, false] rfl rfl (any_of HT_.out (by kernel_rfl)) (fun _ _ _ h => h) (Or.inr ⟨by rfl, rfl⟩) ?_ ?_; rotate_left
     ·simp only [Act.put, la_, lz_, ls_, i64_w, i32_w]
      rfl
     refine pure_ (i := 25) (N := some 57) (v := undef) (a' := ?_) #[true, true, true, true, true, true, true, true, true, true, true, true, true, true, true, true, true, true, true, true, true, true, true, true, true, true, false, false, false, false] rfl rfl (any_of HT_.out (by kernel_rfl)) (fun _ _ _ h => h) (Or.inr ⟨by rfl, rfl⟩) ?_ ?_; rotate_left
     ·simp only [Act.put, la_, lz_, ls_, i64_w, i32_w]
      rfl
     refine pure_ (i := 26) (N := some 58) (v := undef) (a' := ?_) #[true, true, true, true, true, true, true, true, true, true, true, true, true, true, true, true, true, true, true, true, true, true, true, true, true, true, true, false, false, false] rfl rfl (any_of HT_.out (by kernel_rfl)) (fun _ _ _ h => h) (Or.inr ⟨by rfl, rfl⟩) ?_ ?_; rotate_left
     ·simp only [Act.put, la_, lz_, ls_, i64_w, i32_w]
      rfl
     refine pure_ (i := 27) (N := some 59) (v := undef) (a' := ?_) #[true, true, true, true, true, true, true, true, true, true, true, true, true, true, true, true, true, true, true, true, true, true, true, true, true, true, true, true, false, false] rfl rfl (any_of HT_.out (by kernel_rfl)) (fun _ _ _ h => h) (Or.inr ⟨by rfl, rfl⟩) ?_ ?_; rotate_left
     ·simp only [Act.put, la_, lz_, ls_, i64_w, i32_w]
      rfl
     refine pure_ (i := 28) (N := some 60) (v := undef) (a' := ?_) #[true, true, true, true, true, true, true, true, true, true, true, true, true, true, true, true, true, true, true, true, true, true, true, true, true, true, true, true, true, false] rfl rfl (any_of HT_.out (by kernel_rfl)) (fun _ _ _ h => h) (Or.inr ⟨by rfl, rfl⟩) ?_ ?_; rotate_left
     ·simp only [Act.put, la_, lz_, ls_, i64_w, i32_w]
      rfl
     refine pure_ (i := 29) (N := some 61) (v := ?_) (a' := ?_) #[true, true, true, true, true, true, true, true, true, true, true, true, true, true, true, true, true, true, true, true, true, true, true, true, true, true, true, true, true, true] rfl rfl (any_of HT_.out (by kernel_rfl)) (fun _ _ _ h => h) (Or.inl ⟨by rfl, ?_⟩) ?_ ?_; rotate_left
     ·intro w'
      go_simp
      with_reducible rfl
     rotate_left
     ·simp only [Act.put, la_, lz_, ls_, i64_w, i32_w]
      rfl
     refine done_ (done_of HT_.out (by kernel_rfl)) ?_
     try go_wp2
     go_meet
     case rel => exact ⟨_, (true), q184_, H', ⟨by first | omega | exact Nat.le_refl _⟩, ⟨q154_⟩, ⟨q155_⟩, ⟨q156_⟩, ⟨q54_⟩⟩
   ·replace c17 := Bool.eq_false_iff.mpr c17
    subst c17; have H1 : (tilefarmref13_Tile.j0 k l2 l3 a4 t323 true a0_0 a0_1 a0_2 l0_3 a1_0 a1_1 a1_2 a1_3) = some (r1, r2, r3, r4, r5) := by rw [if_neg (show ¬ (false = true) by decide)] at H; exact H
    clear H; have H := H1; clear H1; have H' := am_ H; clear H
    try go_wp2
    have n0_ := am_ (blk_drew BK320.out); have n1_ := am_ (blk_drew BK321.out); have n2_ := am_ (blk_drew BK322.out); have n3_ := am_ (below_drew1 HB.out); clear BK320 BK321 BK322 HB; have BK320 := n0_; have BK321 := n1_; have BK322 := n2_; have HB := n3_; clear n0_ n1_ n2_ n3_; refine start_ (n := 30) (S := fun w' => w'.cell? ⟨gb321, 0, none⟩ = some (.int .i64 a1_0) ∧ w'.cell? ⟨gb321, 1, none⟩ = some (.int .i64 a1_1) ∧ w'.cell? ⟨gb321, 2, none⟩ = some (.int .i64 a1_2) ∧ w'.cell? ⟨gb321, 3, none⟩ = some (.int .i64 a1_3)) (ds := []) #[false, false, false, false, false, false, false, false, false, false, false, false, false, false, false, false, false, false, false, false, false, false, false, false, false, false, false, false, false, false] (by kernel_rfl) rfl rfl ⟨(blk_cell BK321.out 0).trans rfl, (blk_cell BK321.out 1).trans rfl, (blk_cell BK321.out 2).trans rfl, (blk_cell BK321.out 3).trans rfl⟩ (fun hHeld => ?_); refine with_tabW tilefarmref13_Tile.tab4 tilefarmref13_Tile.bits4 (fun HT_ HW_ => ?_); generalize w15.drew = w34 at BK320 BK321 BK322 HB hHeld ⊢; refine take_ (i := 0) (N := some 32) (v := ?_) (a' := ?_) #[true, false, false, false, false, false, false, false, false, false, false, false, false, false, false, false, false, false, false, false, false, false, false, false, false, false, false, false, false, false] rfl rfl (take_ofW HT_.out HW_.out (by kernel_rfl)) (fun _ _ _ h => h) (Or.inl ⟨by rfl, ?_⟩) hHeld ?_ ?_; rotate_left
    ·rintro w' ⟨s0, s1, s2, s3⟩
     go_simp
     with_reducible rfl
    rotate_left
    ·simp only [Act.put, la_, lz_, ls_, i64_w, i32_w]
     rfl
    refine one_ (i := 1) (N := some 33) #[true, true, false, false, false, false, false, false, false, false, false, false, false, false, false, false, false, false, false, false, false, false, false, false, false, false, false, false, false, false] rfl rfl (one_of HT_.out (by kernel_rfl)) (by decide) (fun K hK => ?_); refine goes_ Try.func40 (by kernel_rfl) rfl #[.agg #[.int .i64 a1_0, .int .i64 a1_1, .int .i64 a1_2, .int .i64 a1_3]] (by rfl) rfl rfl q117_ ?_
    with_reducible refine (tilefarmref2_Full.calls a1_0 a1_1 a1_2 a1_3 false _ A16.out).mono ?_
    rintro e w35 ⟨rfl, hb⟩; refine ⟨_, rfl, ?_⟩; have n0_ := am_ (blk_below (g := gb320) (o := .cells #[.int .i64 a0_0, .int .i64 a0_1, .int .i64 a0_2, .slice A0_3 l0_3.length c0_3] 26 (0, 0)) q154_ hb); have n1_ := am_ (blk_below (g := gb321) (o := .cells #[.int .i64 a1_0, .int .i64 a1_1, .int .i64 a1_2, .int .i64 a1_3] 32 (0, 0)) q155_ hb); have n2_ := am_ (blk_below (g := gb322) (o := .cells #[.int .i64 0, .int .i64 0, .int .i64 0, .slice none 0 0] 26 (0, 0)) q156_ hb); have n3_ := am_ (below_step q54_ hb); clear BK320 BK321 BK322 HB; have BK320 := n0_; have BK321 := n1_; have BK322 := n2_; have HB := n3_; clear n0_ n1_ n2_ n3_; (try clear hb); (try clear hb2); (try clear hk); (try clear hi); refine hK.out _ _ ⟨(blk_cell BK321.out 0).trans rfl, (blk_cell BK321.out 1).trans rfl, (blk_cell BK321.out 2).trans rfl, (blk_cell BK321.out 3).trans rfl⟩ (fun hHeld => ?_); clear hK K; refine norm_ (a' := ?_) ?_ ?_; rotate_left
    ·show Act.put _ (some 33) _ = _
     simp only [Act.put, la_, lz_, ls_, i64_w, i32_w]; rfl
    refine pure_ (i := 2) (N := some 34) (v := ?_) (a' := ?_) #[true, true, true, false, false, false, false, false, false, false, false, false, false, false, false, false, false, false, false, false, false, false, false, false, false, false, false, false, false, false] rfl rfl (any_of HT_.out (by kernel_rfl)) (fun _ _ _ h => h) (Or.inl ⟨by rfl, ?_⟩) ?_ ?_; rotate_left
    ·intro w'
     go_simp
     with_reducible rfl
    rotate_left
    ·simp only [Act.put, la_, lz_, ls_, i64_w, i32_w]
     rfl
    refine pure_ (i := 3) (N := some 35) (v := ?_) (a' := ?_) #[true, true, true, true, false, false, false, false, false, false, false, false, false, false, false, false, false, false, false, false, false, false, false, false, false, false, false, false, false, false] rfl rfl (any_of HT_.out (by kernel_rfl)) (fun _ _ _ h => h) (Or.inl ⟨by rfl, ?_⟩) ?_ ?_; rotate_left
    ·intro w'
     go_simp
     with_reducible rfl
    rotate_left
    ·simp only [Act.put, la_, lz_, ls_, i64_w, i32_w]
     rfl
    refine pure_ (i := 4) (N := some 36) (v := undef) (a' := ?_) #[true, true, true, true, true, false, false, false, false, false, false, false, false, false, false, false, false, false, false, false, false, false, false, false, false, false, false, false, false, false] rfl rfl (any_of HT_.out (by kernel_rfl)) (fun _ _ _ h => h) (Or.inr ⟨by rfl, rfl⟩) ?_ ?_; rotate_left
    ·simp only [Act.put, la_, lz_, ls_, i64_w, i32_w]
     rfl
    refine pure_ (i := 5) (N := some 37) (v := undef) (a' := ?_) #[true, true, true, true, true, true, false, false, false, false, false, false, false, false, false, false, false, false, false, false, false, false, false, false, false, false, false, false, false, false] rfl rfl (any_of HT_.out (by kernel_rfl)) (fun _ _ _ h => h) (Or.inr ⟨by rfl, rfl⟩) ?_ ?_; rotate_left
    ·simp only [Act.put, la_, lz_, ls_, i64_w, i32_w]
     rfl
    refine pure_ (i := 6) (N := some 38) (v := undef) (a' := ?_) #[true, true, true, true, true, true, true, false, false, false, false, false, false, false, false, false, false, false, false, false, false, false, false, false, false, false, false, false, false, false] rfl rfl (any_of HT_.out (by kernel_rfl)) (fun _ _ _ h => h) (Or.inr ⟨by rfl, rfl⟩) ?_ ?_; rotate_left
    ·simp only [Act.put, la_, lz_, ls_, i64_w, i32_w]
     rfl
    refine pure_ (i := 7) (N := some 39) (v := undef) (a' := ?_) #[true, true, true, true, true, true, true, true, false, false, false, false, false, false, false, false, false, false, false, false, false, false, false, false, false, false, false, false, false, false] rfl rfl (any_of HT_.out (by kernel_rfl)) (fun _ _ _ h => h) (Or.inr ⟨by rfl, rfl⟩) ?_ ?_; rotate_left
    ·simp only [Act.put, la_, lz_, ls_, i64_w, i32_w]
     rfl
    refine pure_ (i := 8) (N := some 40) (v := undef) (a' := ?_) #[true, true, true, true, true, true, true, true, true, false, false, false, false, false, false, false, false, false, false, false, false, false, false, false, false, false, false, false, false, false] rfl rfl (any_of HT_.out (by kernel_rfl)) (fun _ _ _ h => h) (Or.inr ⟨by rfl, rfl⟩) ?_ ?_; rotate_left
    ·simp only [Act.put, la_, lz_, ls_, i64_w, i32_w]
     rfl
    refine pure_ (i := 9) (N := some 41) (v := ?_) (a' := ?_) #[true, true, true, true, true, true, true, true, true, true, false, false, false, false, false, false, false, false, false, false, false, false, false, false, false, false, false, false, false, false] rfl rfl (any_of HT_.out (by kernel_rfl)) (fun _ _ _ h => h) (Or.inl ⟨by rfl, ?_⟩) ?_ ?_; rotate_left
    ·intro w'
     go_simp
     with_reducible rfl
    rotate_left
    ·simp only [Act.put, la_, lz_, ls_, i64_w, i32_w]
     rfl
    refine pure_ (i := 10) (N := some 42) (v := ?_) (a' := ?_) #[true, true, true, true, true, true, true, true, true, true, true, false, false, false, false, false, false, false, false, false, false, false, false, false, false, false, false, false, false, false] rfl rfl (any_of HT_.out (by kernel_rfl)) (fun _ _ _ h => h) (Or.inl ⟨by rfl, ?_⟩) ?_ ?_; rotate_left
    ·intro w'
     go_simp
     with_reducible rfl
    rotate_left
    ·simp only [Act.put, la_, lz_, ls_, i64_w, i32_w]
     rfl
    refine pure_ (i := 11) (N := some 43) (v := undef) (a' := ?_) #[true, true, true, true, true, true, true, true, true, true, true, true, false, false, false, false, false, false, false, false, false, false, false, false, false, false, false, false, false, false] rfl rfl (any_of HT_.out (by kernel_rfl)) (fun _ _ _ h => h) (Or.inr ⟨by rfl, rfl⟩) ?_ ?_; rotate_left
    ·simp only [Act.put, la_, lz_, ls_, i64_w, i32_w]
     rfl
    refine pure_ (i := 12) (N := some 44) (v := undef) (a' := ?_) #[true, true, true, true, true, true, true, true, true, true, true, true, true, false, false, false, false, false, false, false, false, false, false, false, false, false, false, false, false, false] rfl rfl (any_of HT_.out (by kernel_rfl)) (fun _ _ _ h => h) (Or.inr ⟨by rfl, rfl⟩) ?_ ?_; rotate_left
    ·simp only [Act.put, la_, lz_, ls_, i64_w, i32_w]
     rfl
    refine pure_ (i := 13) (N := some 45) (v := undef) (a' := ?_) #[true, true, true, true, true, true, true, true, true, true, true, true, true, true, false, false, false, false, false, false, false, false, false, false, false, false, false, false, false, false] rfl rfl (any_of HT_.out (by kernel_rfl)) (fun _ _ _ h => h) (Or.inr ⟨by rfl, rfl⟩) ?_ ?_; rotate_left
    ·simp only [Act.put, la_, lz_, ls_, i64_w, i32_w]
     rfl
    refine pure_ (i := 14) (N := some 46) (v := undef) (a' := ?_) #[true, true, true, true, true, true, true, true, true, true, true, true, true, true, true, false, false, false, false, false, false, false, false, false, false, false, false, false, false, false] rfl rfl (any_of HT_.out (by kernel_rfl)) (fun _ _ _ h => h) (Or.inr ⟨by rfl, rfl⟩) ?_ ?_; rotate_left
    ·simp only [Act.put, la_, lz_, ls_, i64_w, i32_w]
     rfl
    refine pure_ (i := 15) (N := some 47) (v := undef) (a' := ?_) #[true, true, true, true, true, true, true, true, true, true, true, true, true, true, true, true, false, false, false, false, false, false, false, false, false, false, false, false, false, false] rfl rfl (any_of HT_.out (by kernel_rfl)) (fun _ _ _ h => h) (Or.inr ⟨by rfl, rfl⟩) ?_ ?_; rotate_left
    ·simp only [Act.put, la_, lz_, ls_, i64_w, i32_w]
     rfl
    refine pure_ (i := 16) (N := some 48) (v := undef) (a' := ?_) #[true, true, true, true, true, true, true, true, true, true, true, true, true, true, true, true, true, false, false, false, false, false, false, false, false, false, false, false, false, false] rfl rfl (any_of HT_.out (by kernel_rfl)) (fun _ _ _ h => h) (Or.inr ⟨by rfl, rfl⟩) ?_ ?_; rotate_left
    ·simp only [Act.put, la_, lz_, ls_, i64_w, i32_w]
     rfl
    refine pure_ (i := 17) (N := some 49) (v := undef) (a' := ?_) #[true, true, true, true, true, true, true, true, true, true, true, true, true, true, true, true, true, true, false, false, false, false, false, false, false, false, false, false, false, false] rfl rfl (any_of HT_.out (by kernel_rfl)) (fun _ _ _ h => h) (Or.inr ⟨by rfl, rfl⟩) ?_ ?_; rotate_left
    ·simp only [Act.put, la_, lz_, ls_, i64_w, i32_w]
     rfl
    refine pure_ (i := 18) (N := some 50) (v := undef) (a' := ?_) #[true, true, true, true, true, true, true, true, true, true, true, true, true, true, true, true, true, true, true, false, false, false, false, false, false, false, false, false, false, false] rfl rfl (any_of HT_.out (by kernel_rfl)) (fun _ _ _ h => h) (Or.inr ⟨by rfl, rfl⟩) ?_ ?_; rotate_left
    ·simp only [Act.put, la_, lz_, ls_, i64_w, i32_w]
     rfl
    refine pure_ (i := 19) (N := some 51) (v := ?_) (a' := ?_) #[true, true, true, true, true, true, true, true, true, true, true, true, true, true, true, true, true, true, true, true, false, false, false, false, false, false, false, false, false, false] rfl rfl (any_of HT_.out (by kernel_rfl)) (fun _ _ _ h => h) (Or.inl ⟨by rfl, ?_⟩) ?_ ?_; rotate_left
    ·intro w'
     go_simp
     with_reducible rfl
    rotate_left
    ·simp only [Act.put, la_, lz_, ls_, i64_w, i32_w]
     rfl
    refine pure_ (i := 20) (N := some 52) (v := ?_) (a' := ?_) #[true, true, true, true, true, true, true, true, true, true, true, true, true, true, true, true, true, true, true, true, true, false, false, false, false, false, false, false, false, false] rfl rfl (any_of HT_.out (by kernel_rfl)) (fun _ _ _ h => h) (Or.inl ⟨by rfl, ?_⟩) ?_ ?_; rotate_left
    ·intro w'
     go_simp
     with_reducible rfl
    rotate_left
    ·simp only [Act.put, la_, lz_, ls_, i64_w, i32_w]
     rfl
    refine pure_ (i := 21) (N := some 53) (v := undef) (a' := ?_) #[true, true, true, true, true, true, true, true, true, true, true, true, true, true, true, true, true, true, true, true, true, true, false, false, false, false, false, false, false, false] rfl rfl (any_of HT_.out (by kernel_rfl)) (fun _ _ _ h => h) (Or.inr ⟨by rfl, rfl⟩) ?_ ?_; rotate_left
    ·simp only [Act.put, la_, lz_, ls_, i64_w, i32_w]
     rfl
    refine pure_ (i := 22) (N := some 54) (v := undef) (a' := ?_) #[true, true, true, true, true, true, true, true, true, true, true, true, true, true, true, true, true, true, true, true, true, true, true, false, false, false, false, false, false, false] rfl rfl (any_of HT_.out (by kernel_rfl)) (fun _ _ _ h => h) (Or.inr ⟨by rfl, rfl⟩) ?_ ?_; rotate_left
    ·simp only [Act.put, la_, lz_, ls_, i64_w, i32_w]
     rfl
    refine pure_ (i := 23) (N := some 55) (v := undef) (a' := ?_) #[true, true, true, true, true, true, true, true, true, true, true, true, true, true, true, true, true, true, true, true, true, true, true, true, false, false, false, false, false, false] rfl rfl (any_of HT_.out (by kernel_rfl)) (fun _ _ _ h => h) (Or.inr ⟨by rfl, rfl⟩) ?_ ?_; rotate_left
    ·simp only [Act.put, la_, lz_, ls_, i64_w, i32_w]
     rfl
    refine pure_ (i := 24) (N := some 56) (v := undef) (a' := ?_) #[true, true, true, true, true, true, true, true, true, true, true, true, true, true, true, true, true, true, true, true, true, true, true, true, true, false, false, false, false, false] rfl rfl (any_of HT_.out (by kernel_rfl)) (fun _ _ _ h => h) (Or.inr ⟨by rfl, rfl⟩) ?_ ?_; rotate_left
    ·simp only [Act.put, la_, lz_, ls_, i64_w, i32_w]
     rfl
    refine pure_ (i := 25) (N := some 57) (v := undef) (a' := ?_) #[true, true, true, true, true, true, true, true, true, true, true, true, true, true, true, true, true, true, true, true, true, true, true, true, true, true, false, false, false, false] rfl rfl (any_of HT_.out (by kernel_rfl)) (fun _ _ _ h => h) (Or.inr ⟨by rfl, rfl⟩) ?_ ?_; rotate_left
    ·simp only [Act.put, la_, lz_, ls_, i64_w, i32_w]
     rfl
    refine pure_ (i := 26) (N := some 58) (v := undef) (a' := ?_) #[true, true, true, true, true, true, true, true, true, true, true, true, true, true, true, true, true, true, true, true, true, true, true, true, true, true, true, false, false, false] rfl rfl (any_of HT_.out (by kernel_rfl)) (fun _ _ _ h => h) (Or.inr ⟨by rfl, rfl⟩) ?_ ?_; rotate_left
    ·simp only [Act.put, la_, lz_, ls_, i64_w, i32_w]
     rfl
    refine pure_ (i := 27) (N := some 59) (v := undef) (a' := ?_) #[true, true, true, true, true, true, true, true, true, true, true, true, true, true, true, true, true, true, true, true, true, true, true, true, true, true, true, true, false, false] rfl rfl (any_of HT_.out (by kernel_rfl)) (fun _ _ _ h => h) (Or.inr ⟨by rfl, rfl⟩) ?_ ?_; rotate_left
    ·simp only [Act.put, la_, lz_, ls_, i64_w, i32_w]
     rfl
    refine pure_ (i := 28) (N := some 60) (v := undef) (a' := ?_) #[true, true, true, true, true, true, true, true, true, true, true, true, true, true, true, true, true, true, true, true, true, true, true, true, true, true, true, true, true, false] rfl rfl (any_of HT_.out (by kernel_rfl)) (fun _ _ _ h => h) (Or.inr ⟨by rfl, rfl⟩) ?_ ?_; rotate_left
    ·simp only [Act.put, la_, lz_, ls_, i64_w, i32_w]
     rfl
    refine pure_ (i := 29) (N := some 61) (v := ?_) (a' := ?_) #[true, true, true, true, true, true, true, true, true, true, true, true, true, true, true, true, true, true, true, true, true, true, true, true, true, true, true, true, true, true] rfl rfl (any_of HT_.out (by kernel_rfl)) (fun _ _ _ h => h) (Or.inl ⟨by rfl, ?_⟩) ?_ ?_; rotate_left
    ·intro w'
     go_simp
     with_reducible rfl
    rotate_left
    ·simp only [Act.put, la_, lz_, ls_, i64_w, i32_w]
     rfl
    refine done_ (done_of HT_.out (by kernel_rfl)) ?_
    try go_wp2
    go_meet
    case rel => exact ⟨_, (true), q184_, H', ⟨by first | omega | exact Nat.le_refl _⟩, ⟨q154_⟩, ⟨q155_⟩, ⟨q156_⟩, ⟨q54_⟩⟩
  case rest =>
   clear HC8; (try clear c1); (try clear c2); (try clear p2); (try clear c4); (try clear c17); (try clear c20); obtain ⟨kq, x61_7, rfl, HA, HJ7, BK320, BK321, BK322, HB⟩ := hcut; cases kq with
   | zero => exact absurd HA.out (by simp [tilefarmref13_Tile.j0])
   | succ kj7 =>
    have H := HA.out; clear HA; simp only [tilefarmref13_Tile.j0] at H
    by_cases c36 : x61_7 = true
    ·subst c36
     have H1 : (some (0, 0, 0, ([] : List Int), 8)) = some (r1, r2, r3, r4, r5) := by rw [if_pos rfl] at H; exact H
     clear H; have H := H1; clear H1; simp only [Option.some.injEq, Prod.mk.injEq] at H; obtain ⟨rfl, rfl, rfl, rfl, rfl⟩ := H; have hnb37 := NB322_320.out; have hnc37 := NB320_322.out; have hnb38 := NB322_321.out; have hnc38 := NB321_322.out; have hcz39_0 : wc.cell? ⟨gb322, 0, none⟩ = some (.int .i64 0) := (blk_cell BK322.out 0).trans rfl; have hcz39_1 : wc.cell? ⟨gb322, 1, none⟩ = some (.int .i64 0) := (blk_cell BK322.out 1).trans rfl; have hcz39_2 : wc.cell? ⟨gb322, 2, none⟩ = some (.int .i64 0) := (blk_cell BK322.out 2).trans rfl; have hcz39_3 : wc.cell? ⟨gb322, 3, none⟩ = some (.slice none 0 0) := (blk_cell BK322.out 3).trans rfl; have hfz39_0 := blk_frozen BK322.out 0; have hfz39_1 := blk_frozen BK322.out 1; have hfz39_2 := blk_frozen BK322.out 2; have hfz39_3 := blk_frozen BK322.out 3
     go_wp2
     refine bodyPost_ret (results_ct rfl _ _ gb322 26 #[.int .i64 0, .int .i64 0, .int .i64 0, .slice none 0 0] (0, 0) _ rfl (by (with_reducible repeat (first | refine blk_drewN ?_ _ | refine blk_drew ?_ | refine blk_alloc ?_ _)); refine blk_put (cs := #[.int .i64 0, .int .i64 0, .int .i64 0, .slice none 0 0]) ?_ 3 _ rfl; (with_reducible repeat (first | refine blk_drewN ?_ _ | refine blk_drew ?_ | refine blk_alloc ?_ _)); refine blk_put (cs := #[.int .i64 0, .int .i64 0, .int .i64 0, .slice none 0 0]) ?_ 2 _ rfl; (with_reducible repeat (first | refine blk_drewN ?_ _ | refine blk_drew ?_ | refine blk_alloc ?_ _)); refine blk_put (cs := #[.int .i64 0, .int .i64 0, .int .i64 0, .slice none 0 0]) ?_ 1 _ rfl; (with_reducible repeat (first | refine blk_drewN ?_ _ | refine blk_drew ?_ | refine blk_alloc ?_ _)); refine blk_put (cs := #[.int .i64 0, .int .i64 0, .int .i64 0, .slice none 0 0]) ?_ 0 _ rfl; (with_reducible repeat (first | refine blk_drewN ?_ _ | refine blk_drew ?_ | refine blk_alloc ?_ _)); exact BK322.out) Try.underlying26 rfl (by kernel_rfl)) rfl ?_; exact ⟨_, q179_, q116_, q54_⟩
    ·replace c36 := Bool.eq_false_iff.mpr c36
     subst c36; have H1 : ((some (([a4] : List Int) : List Int)).bind fun y331 => (if y331.length + l2.length < 17592186044416 then ((some (y331 ++ l2 : List Int)).bind fun y334 => (if y334.length + l3.length < 17592186044416 then (tilefarmref13_Tile.l0 kj7 l2 l3 a4 t323 (y334 ++ l3) 0 a0_0 a0_1 a0_2 l0_3 a1_0 a1_1 a1_2 a1_3) else (none))) else (none))) = some (r1, r2, r3, r4, r5) := by rw [if_neg (show ¬ (false = true) by decide)] at H; exact H
     clear H; have H := H1; clear H1; obtain ⟨y331, hy331⟩ : ∃ y_ : List Int, y_ = (([a4] : List Int)) := ⟨_, rfl⟩; replace H : (if y331.length + l2.length < 17592186044416 then ((some (y331 ++ l2 : List Int)).bind fun y334 => (if y334.length + l3.length < 17592186044416 then (tilefarmref13_Tile.l0 kj7 l2 l3 a4 t323 (y334 ++ l3) 0 a0_0 a0_1 a0_2 l0_3 a1_0 a1_1 a1_2 a1_3) else (none))) else (none)) = some (r1, r2, r3, r4, r5) := by first | (rw [hy331]; with_reducible exact H) | (have H2_ := (Option.bind_some _ _).symm.trans H; rw [hy331]; with_reducible exact H2_) | (have H2_ := (Option.bind_some _ _).symm.trans H; with_reducible exact H2_) | with_reducible exact H | (rw [hy331]; exact H) | exact H
     have Ny331 := am_ hy331; clear hy331
     by_cases c40 : y331.length + l2.length < 17592186044416
     ·rw [if_pos c40] at H
      have LMc40 := am_ c40; clear c40; obtain ⟨y334, hy334⟩ : ∃ y_ : List Int, y_ = (y331 ++ l2) := ⟨_, rfl⟩; replace H : (if y334.length + l3.length < 17592186044416 then (tilefarmref13_Tile.l0 kj7 l2 l3 a4 t323 (y334 ++ l3) 0 a0_0 a0_1 a0_2 l0_3 a1_0 a1_1 a1_2 a1_3) else (none)) = some (r1, r2, r3, r4, r5) := by first | (rw [hy334]; with_reducible exact H) | (have H2_ := (Option.bind_some _ _).symm.trans H; rw [hy334]; with_reducible exact H2_) | (have H2_ := (Option.bind_some _ _).symm.trans H; with_reducible exact H2_) | with_reducible exact H | (rw [hy334]; exact H) | exact H
      have Ny334 := am_ hy334; clear hy334
      by_cases c41 : y334.length + l3.length < 17592186044416
      ·rw [if_pos c41] at H
       have LMc41 := am_ c41; clear c41; obtain ⟨y337, hy337⟩ : ∃ y_ : List Int, y_ = (y334 ++ l3) := ⟨_, rfl⟩; replace H : (tilefarmref13_Tile.l0 kj7 l2 l3 a4 t323 y337 0 a0_0 a0_1 a0_2 l0_3 a1_0 a1_1 a1_2 a1_3) = some (r1, r2, r3, r4, r5) := by first | (rw [hy337]; with_reducible exact H) | (have H2_ := (Option.bind_some _ _).symm.trans H; rw [hy337]; with_reducible exact H2_) | (have H2_ := (Option.bind_some _ _).symm.trans H; with_reducible exact H2_) | with_reducible exact H | (rw [hy337]; exact H) | exact H
       have Ny337 := am_ hy337; clear hy337; have H' := am_ H; clear H
       go_wp2_with (first | ((with_reducible refine gate_dst (N := 64) rfl ?_); (try (refine gate_guard (by rfl) ?_; dsimp only)); refine Kd.R_lit (Kd.int .i64) _ 3 ?hg (N := 64) ?hd (xs := ([a4] : List Int)) (inner := [.int .i64 a4]) (ok := fun _ => True) (okp := fun _ => True) ?hr ?hp (fun _ hk => hk) trivial (Below.refl _ _) (Nat.le_refl _) (by simp) ?_; (case hd => rfl); (case hg => rfl); (case hr => first | (go_simp; done) | (go_simp; rfl)); (case hp => exact (Reps.one (show Kd.M (Kd.int .i64) _ _ _ a4 [.int .i64 a4] from rfl) (Reps.none _ _))); intro v332 w42 ho43 hb hg_ hnew_; clear hg_ hnew_; (first | rw [← Ny331.out] at ho43 | (simp only [Int.reduceToNat] at ho43; rw [← Ny331.out] at ho43)); have n0_ := am_ (Kd.R_lower ho43 (below_size q54_)); have n1_ := am_ (blk_below (g := gb320) (o := .cells #[.int .i64 a0_0, .int .i64 a0_1, .int .i64 a0_2, .slice A0_3 l0_3.length c0_3] 26 (0, 0)) q154_ hb); have n2_ := am_ (blk_below (g := gb321) (o := .cells #[.int .i64 a1_0, .int .i64 a1_1, .int .i64 a1_2, .int .i64 a1_3] 32 (0, 0)) q155_ hb); have n3_ := am_ (blk_below (g := gb322) (o := .cells #[.int .i64 0, .int .i64 0, .int .i64 0, .slice none 0 0] 26 (0, 0)) q156_ hb); have n4_ := am_ (below_step q54_ hb); clear BK320 BK321 BK322 HB; have HO333 := n0_; have BK320 := n1_; have BK321 := n2_; have BK322 := n3_; have HB := n4_; clear n0_ n1_ n2_ n3_ n4_; clear hb ho43) | ((with_reducible refine gate_builtin (b := .append) (xs := #[.tmp 64, .tmp 65]) rfl ?_); (try (refine gate_guard (by rfl) ?_; dsimp only)); at_builtin; refine Kd.R_append_rows (Kd.int .i64) (w0 := w) w.heap.size rfl (.tmp 64) (.tmp 65) 22 3 (.int .i64 0) 8 rfl Try.underlying22 info3 rfl (by decide) (by omega) v332 y331 l2 _ _ _ (fun _ => True) (fun _ => False) rfl rfl ?aO ?aR (fun _ _ h => h) (fun _ h => h.elim) ?aF ?aB ?aS ?aL ?_; (case aR => repeat (first | exact (Kd.C_below HR2.out HB.out) | (with_reducible refine Kd.C_alloc ?_ _) | (with_reducible refine Kd.C_drewN ?_ _) | (with_reducible refine Kd.C_drew ?_))); (case aB => exact q54_); (case aF => exact (fun _ _ => trivial)); (case aO => exact (by (with_reducible repeat (first | apply Kd.R_alloc | apply Kd.R_drewN | apply Kd.R_drew)); exact HO333.out)); (case aS => exact (below_size q54_)); (case aL => have := LMc40.out; omega); intro v335 w44 ho hb hg hat; rw [← Ny334.out] at ho; have n0_ := am_ (blk_grown (g := gb320) (o := .cells #[.int .i64 a0_0, .int .i64 a0_1, .int .i64 a0_2, .slice A0_3 l0_3.length c0_3] 26 (0, 0)) q154_ hg (Kd.R_ne HO333.out BK320.out (by decide))); have n1_ := am_ (blk_grown (g := gb321) (o := .cells #[.int .i64 a1_0, .int .i64 a1_1, .int .i64 a1_2, .int .i64 a1_3] 32 (0, 0)) q155_ hg (Kd.R_ne HO333.out BK321.out (by decide))); have n2_ := am_ (blk_grown (g := gb322) (o := .cells #[.int .i64 0, .int .i64 0, .int .i64 0, .slice none 0 0] 26 (0, 0)) q156_ hg (Kd.R_ne HO333.out BK322.out (by decide))); have n3_ := am_ (hb); have n4_ := am_ (ho); clear BK320 BK321 BK322 HB HO333; have BK320 := n0_; have BK321 := n1_; have BK322 := n2_; have HB := n3_; have HO336 := n4_; clear n0_ n1_ n2_ n3_ n4_; clear ho hb hg hat) | ((with_reducible refine gate_builtin (b := .append) (xs := #[.tmp 66, .tmp 67]) rfl ?_); (try (refine gate_guard (by rfl) ?_; dsimp only)); at_builtin; refine Kd.R_append_rows (Kd.int .i64) (w0 := w) w.heap.size rfl (.tmp 66) (.tmp 67) 22 3 (.int .i64 0) 8 rfl Try.underlying22 info3 rfl (by decide) (by omega) v335 y334 l3 _ _ _ (fun _ => True) (fun _ => False) rfl rfl ?aO ?aR (fun _ _ h => h) (fun _ h => h.elim) ?aF ?aB ?aS ?aL ?_; (case aR => repeat (first | exact (Kd.C_below HR3.out HB.out) | (with_reducible refine Kd.C_alloc ?_ _) | (with_reducible refine Kd.C_drewN ?_ _) | (with_reducible refine Kd.C_drew ?_))); (case aB => exact q54_); (case aF => exact (fun _ _ => trivial)); (case aO => exact (by (with_reducible repeat (first | apply Kd.R_alloc | apply Kd.R_drewN | apply Kd.R_drew)); exact HO336.out)); (case aS => exact (below_size q54_)); (case aL => have := LMc41.out; omega); intro v338 w45 ho hb hg hat; rw [← Ny337.out] at ho; have n0_ := am_ (blk_grown (g := gb320) (o := .cells #[.int .i64 a0_0, .int .i64 a0_1, .int .i64 a0_2, .slice A0_3 l0_3.length c0_3] 26 (0, 0)) q154_ hg (Kd.R_ne HO336.out BK320.out (by decide))); have n1_ := am_ (blk_grown (g := gb321) (o := .cells #[.int .i64 a1_0, .int .i64 a1_1, .int .i64 a1_2, .int .i64 a1_3] 32 (0, 0)) q155_ hg (Kd.R_ne HO336.out BK321.out (by decide))); have n2_ := am_ (blk_grown (g := gb322) (o := .cells #[.int .i64 0, .int .i64 0, .int .i64 0, .slice none 0 0] 26 (0, 0)) q156_ hg (Kd.R_ne HO336.out BK322.out (by decide))); have n3_ := am_ (hb); have n4_ := am_ (ho); clear BK320 BK321 BK322 HB HO336; have BK320 := n0_; have BK321 := n1_; have BK322 := n2_; have HB := n3_; have HO339 := n4_; clear n0_ n1_ n2_ n3_ n4_; clear ho hb hg hat))
       go_loopg [15] kj7 (fun kq v15 w' => ∃ (x15_2 : Int) (x323000_2 : Int) (x323001_2 : Int) (x323002_2 : Int), v15 = .int .i64 x15_2 ∧ Aside0 (tilefarmref13_Tile.l0 kq l2 l3 a4 t323 y337 x15_2 a0_0 a0_1 a0_2 l0_3 a1_0 a1_1 a1_2 a1_3 = some (r1, r2, r3, r4, r5)) ∧ Aside0 (kq ≤ kj7) ∧ Aside0 (Kd.R (Kd.int .i64) 3 w' w.heap.size (fun _ => True) v338 y337) ∧ Aside0 (w'.heap[gb320]? = some (.cells #[.int .i64 a0_0, .int .i64 a0_1, .int .i64 a0_2, (.slice A0_3 l0_3.length c0_3)] 26 (0, 0))) ∧ Aside0 (w'.heap[gb321]? = some (.cells #[.int .i64 a1_0, .int .i64 a1_1, .int .i64 a1_2, .int .i64 a1_3] 32 (0, 0))) ∧ Aside0 (w'.heap[gb322]? = some (.cells #[.int .i64 x323000_2, .int .i64 x323001_2, .int .i64 x323002_2, (.slice none 0 0)] 26 (0, 0))) ∧ Aside0 (Below w.heap.size w w'))
       case atStart => exact ⟨(0), (0), (0), (0), q184_, H', ⟨Nat.le_refl _⟩, ⟨by (with_reducible repeat (first | apply Kd.R_alloc | apply Kd.R_drewN | apply Kd.R_drew)); exact HO339.out⟩, ⟨q154_⟩, ⟨q155_⟩, ⟨q156_⟩, ⟨q54_⟩⟩
       case round =>
        clear H'; (try clear c1); (try clear c2); (try clear p2); (try clear c3); (try clear c4); (try clear c17); (try clear c20); (try clear c36); (try clear c37); (try clear c38); (try clear c40); (try clear c41); (try clear c42); (try clear hcz39_0); (try clear hcz39_1); (try clear hcz39_2); (try clear hcz39_3); (try clear hfz39_0); (try clear hfz39_1); (try clear hfz39_2); (try clear hfz39_3); (try clear p2); obtain ⟨x15_2, x323000_2, x323001_2, x323002_2, rfl, HA, HK2, HO_14, BK320, BK321, BK322, HB⟩ := hrel; cases gk with
        | zero => exact absurd HA.out (by simp [tilefarmref13_Tile.l0])
        | succ k2 =>
         have H := HA.out; clear HA; simp only [tilefarmref13_Tile.l0] at H
         by_cases c46 : x15_2 < (y337.length : Int)
         ·rw [if_pos c46] at H
          have c46b0 : decide (x15_2 < (y337.length : Int)) = true := decide_eq_true c46; clear c46
          by_cases c47 : 0 ≤ x15_2
          ·rw [if_pos c47] at H
           have c47b0 : decide (0 ≤ x15_2) = true := decide_eq_true c47; clear c47
           by_cases c48 : (rd y337 x15_2) < 0
           ·rw [if_pos c48] at H
            have c48b0 : decide ((rd y337 x15_2) < 0) = true := decide_eq_true c48; clear c48; simp only [Option.some.injEq, Prod.mk.injEq] at H; obtain ⟨rfl, rfl, rfl, rfl, rfl⟩ := H; obtain ⟨Ao49, co49, eo49⟩ := Kd.R_slice HO_14.out; subst eo49; have p340 : 0 ≤ (x15_2 : Int) := of_decide_eq_true q183_; have q340 : x15_2 < (y337.length : Int) := of_decide_eq_true q183_; obtain ⟨ad340, e340, hx340_0⟩ := Kd.at_int (Kd.R_reads' HO_14.out).2.2 x15_2 p340 q340; cases e340; replace p340 := eq_true p340; replace q340 := eq_true q340; have hnb50 := NB322_320.out; have hnc50 := NB320_322.out; have hnb51 := NB322_321.out; have hnc51 := NB321_322.out; have hcz52_0 : wr.cell? ⟨gb322, 0, none⟩ = some (.int .i64 x323000_2) := (blk_cell BK322.out 0).trans rfl; have hcz52_1 : wr.cell? ⟨gb322, 1, none⟩ = some (.int .i64 x323001_2) := (blk_cell BK322.out 1).trans rfl; have hcz52_2 : wr.cell? ⟨gb322, 2, none⟩ = some (.int .i64 x323002_2) := (blk_cell BK322.out 2).trans rfl; have hcz52_3 : wr.cell? ⟨gb322, 3, none⟩ = some (.slice none 0 0) := (blk_cell BK322.out 3).trans rfl; have hfz52_0 := blk_frozen BK322.out 0; have hfz52_1 := blk_frozen BK322.out 1; have hfz52_2 := blk_frozen BK322.out 2; have hfz52_3 := blk_frozen BK322.out 3
            go_wp2
            refine bodyPost_ret (results_ct rfl _ _ gb322 26 #[.int .i64 0, .int .i64 0, .int .i64 0, .slice none 0 0] (0, 0) _ rfl (by (with_reducible repeat (first | refine blk_drewN ?_ _ | refine blk_drew ?_ | refine blk_alloc ?_ _)); refine blk_put (cs := #[.int .i64 0, .int .i64 0, .int .i64 0, .slice none 0 0]) ?_ 3 _ rfl; (with_reducible repeat (first | refine blk_drewN ?_ _ | refine blk_drew ?_ | refine blk_alloc ?_ _)); refine blk_put (cs := #[.int .i64 0, .int .i64 0, .int .i64 x323002_2, .slice none 0 0]) ?_ 2 _ rfl; (with_reducible repeat (first | refine blk_drewN ?_ _ | refine blk_drew ?_ | refine blk_alloc ?_ _)); refine blk_put (cs := #[.int .i64 0, .int .i64 x323001_2, .int .i64 x323002_2, .slice none 0 0]) ?_ 1 _ rfl; (with_reducible repeat (first | refine blk_drewN ?_ _ | refine blk_drew ?_ | refine blk_alloc ?_ _)); refine blk_put (cs := #[.int .i64 x323000_2, .int .i64 x323001_2, .int .i64 x323002_2, .slice none 0 0]) ?_ 0 _ rfl; (with_reducible repeat (first | refine blk_drewN ?_ _ | refine blk_drew ?_ | refine blk_alloc ?_ _)); exact BK322.out) Try.underlying26 rfl (by kernel_rfl)) rfl ?_; exact ⟨_, q179_, q116_, q54_⟩
           ·rw [if_neg c48] at H
            have c48b0 : decide ((rd y337 x15_2) < 0) = false := decide_eq_false c48; clear c48
            by_cases c53 : (rd y337 x15_2) > t323
            ·rw [if_pos c53] at H
             have c53b0 : decide (t323 < (rd y337 x15_2)) = true := decide_eq_true c53; clear c53; simp only [Option.some.injEq, Prod.mk.injEq] at H; obtain ⟨rfl, rfl, rfl, rfl, rfl⟩ := H; obtain ⟨Ao54, co54, eo54⟩ := Kd.R_slice HO_14.out; subst eo54; have p340 : 0 ≤ (x15_2 : Int) := of_decide_eq_true q183_; have q340 : x15_2 < (y337.length : Int) := of_decide_eq_true q183_; obtain ⟨ad340, e340, hx340_0⟩ := Kd.at_int (Kd.R_reads' HO_14.out).2.2 x15_2 p340 q340; cases e340; replace p340 := eq_true p340; replace q340 := eq_true q340; have p341 : 0 ≤ (x15_2 : Int) := of_decide_eq_true q183_; have q341 : x15_2 < (y337.length : Int) := of_decide_eq_true q183_; obtain ⟨ad341, e341, hx341_0⟩ := Kd.at_int (Kd.R_reads' HO_14.out).2.2 x15_2 p341 q341; obtain rfl : ad340 = ad341 := (by injection e341); replace p341 := eq_true p341; replace q341 := eq_true q341; have hnb55 := NB322_320.out; have hnc55 := NB320_322.out; have hnb56 := NB322_321.out; have hnc56 := NB321_322.out; have hcz57_0 : wr.cell? ⟨gb322, 0, none⟩ = some (.int .i64 x323000_2) := (blk_cell BK322.out 0).trans rfl; have hcz57_1 : wr.cell? ⟨gb322, 1, none⟩ = some (.int .i64 x323001_2) := (blk_cell BK322.out 1).trans rfl; have hcz57_2 : wr.cell? ⟨gb322, 2, none⟩ = some (.int .i64 x323002_2) := (blk_cell BK322.out 2).trans rfl; have hcz57_3 : wr.cell? ⟨gb322, 3, none⟩ = some (.slice none 0 0) := (blk_cell BK322.out 3).trans rfl; have hfz57_0 := blk_frozen BK322.out 0; have hfz57_1 := blk_frozen BK322.out 1; have hfz57_2 := blk_frozen BK322.out 2; have hfz57_3 := blk_frozen BK322.out 3
             go_wp2
             refine bodyPost_ret (results_ct rfl _ _ gb322 26 #[.int .i64 0, .int .i64 0, .int .i64 0, .slice none 0 0] (0, 0) _ rfl (by (with_reducible repeat (first | refine blk_drewN ?_ _ | refine blk_drew ?_ | refine blk_alloc ?_ _)); refine blk_put (cs := #[.int .i64 0, .int .i64 0, .int .i64 0, .slice none 0 0]) ?_ 3 _ rfl; (with_reducible repeat (first | refine blk_drewN ?_ _ | refine blk_drew ?_ | refine blk_alloc ?_ _)); refine blk_put (cs := #[.int .i64 0, .int .i64 0, .int .i64 x323002_2, .slice none 0 0]) ?_ 2 _ rfl; (with_reducible repeat (first | refine blk_drewN ?_ _ | refine blk_drew ?_ | refine blk_alloc ?_ _)); refine blk_put (cs := #[.int .i64 0, .int .i64 x323001_2, .int .i64 x323002_2, .slice none 0 0]) ?_ 1 _ rfl; (with_reducible repeat (first | refine blk_drewN ?_ _ | refine blk_drew ?_ | refine blk_alloc ?_ _)); refine blk_put (cs := #[.int .i64 x323000_2, .int .i64 x323001_2, .int .i64 x323002_2, .slice none 0 0]) ?_ 0 _ rfl; (with_reducible repeat (first | refine blk_drewN ?_ _ | refine blk_drew ?_ | refine blk_alloc ?_ _)); exact BK322.out) Try.underlying26 rfl (by kernel_rfl)) rfl ?_; exact ⟨_, q179_, q116_, q54_⟩
            ·rw [if_neg c53] at H
             have c53b0 : decide (t323 < (rd y337 x15_2)) = false := decide_eq_false c53; clear c53; have H' := am_ H; clear H; obtain ⟨Ao58, co58, eo58⟩ := Kd.R_slice HO_14.out; subst eo58; have p340 : 0 ≤ (x15_2 : Int) := of_decide_eq_true q183_; have q340 : x15_2 < (y337.length : Int) := of_decide_eq_true q183_; obtain ⟨ad340, e340, hx340_0⟩ := Kd.at_int (Kd.R_reads' HO_14.out).2.2 x15_2 p340 q340; cases e340; replace p340 := eq_true p340; replace q340 := eq_true q340; have p341 : 0 ≤ (x15_2 : Int) := of_decide_eq_true q183_; have q341 : x15_2 < (y337.length : Int) := of_decide_eq_true q183_; obtain ⟨ad341, e341, hx341_0⟩ := Kd.at_int (Kd.R_reads' HO_14.out).2.2 x15_2 p341 q341; obtain rfl : ad340 = ad341 := (by injection e341); replace p341 := eq_true p341; replace q341 := eq_true q341
             go_wp2
             go_roundg k2
             case measure => have := HJ7.out; have := HK2.out; omega
             case rel => exact ⟨(wrap64 (x15_2 + 1)), (x323000_2), (x323001_2), (x323002_2), q184_, H', ⟨by have := HJ7.out; have := HK2.out; omega⟩, ⟨q176_⟩, ⟨q154_⟩, ⟨q155_⟩, ⟨q156_⟩, ⟨q54_⟩⟩
          ·rw [if_neg c47] at H
           exact absurd H (by simp)
         ·rw [if_neg c46] at H
          have c46b0 : decide (x15_2 < (y337.length : Int)) = false := decide_eq_false c46; clear c46; replace H := Option.bind_eq_some_iff.mp H; obtain ⟨⟨t342, t343, t344, t345, t348⟩, A590, H⟩ := H; replace H : (tilefarmref13_Tile.l1 k2 l2 l3 a4 t323 0 a0_0 a0_1 a0_2 l0_3 a1_0 a1_1 a1_2 a1_3 t342 t343 t344 t345) = some (r1, r2, r3, r4, r5) := H; have A59 := am_ A590; clear A590; have H' := am_ H; clear H; obtain ⟨Ao60, co60, eo60⟩ := Kd.R_slice HO_14.out; subst eo60
          go_wp2_with (first | ((with_reducible refine gate_callee (f := 38) rfl ?_); refine goesL_ (some 95) rfl rfl Try.func38 (by kernel_rfl) rfl #[.int .i64 (l3.length : Int), .int .i64 (l2.length : Int), .int .i64 t323] rfl q117_ ?_; (with_reducible refine (tilefarmref4_New.calls (l3.length : Int) (l2.length : Int) t323 t342 t343 t344 t345 t348 _ A59.out).mono ?_); rintro e w61 ⟨v346, rfl, ho0, hb⟩; refine ⟨_, rfl, ?_⟩; have n0_ := am_ (Kd.R_elder' q176_ (Kd.R_base ho0) hb); have n1_ := am_ (Kd.R_lower (Kd.R_new' ho0 (Kd.R_lt q176_)) (below_size q54_)); have n2_ := am_ (blk_below (g := gb320) (o := .cells #[.int .i64 a0_0, .int .i64 a0_1, .int .i64 a0_2, .slice A0_3 l0_3.length c0_3] 26 (0, 0)) q154_ hb); have n3_ := am_ (blk_below (g := gb321) (o := .cells #[.int .i64 a1_0, .int .i64 a1_1, .int .i64 a1_2, .int .i64 a1_3] 32 (0, 0)) q155_ hb); have n4_ := am_ (blk_below (g := gb322) (o := .cells #[.int .i64 x323000_2, .int .i64 x323001_2, .int .i64 x323002_2, .slice none 0 0] 26 (0, 0)) q156_ hb); have n5_ := am_ (below_step q54_ hb); clear HO_14 BK320 BK321 BK322 HB; have HO_14 := n0_; have HO347 := n1_; have BK320 := n2_; have BK321 := n3_; have BK322 := n4_; have HB := n5_; clear n0_ n1_ n2_ n3_ n4_ n5_; (try clear hb); (try clear hb2); (try clear hk); (try clear hi); (try clear ho0)) | ((with_reducible refine gate_dst (N := 16) rfl ?_); (try (refine gate_guard (by rfl) ?_; dsimp only)); refine box_event ?hg (N := 16) ?hd (cs := #[.int .i64 0, .int .i64 0, .int .i64 0, .slice none 0 0]) (t := 26) ?hr ?_; (case hd => rfl); (case hg => rfl); (case hr => first | (go_simp; done) | (go_simp; rfl)); intro gb349 hg w62 hbox hb; have n0_ := am_ (Kd.R_below q176_ hb); have n1_ := am_ (Kd.R_below (by (with_reducible repeat (first | apply Kd.R_alloc | apply Kd.R_drewN | apply Kd.R_drew)); exact HO347.out) hb); have n2_ := am_ (blk_below (g := gb320) (o := .cells #[.int .i64 a0_0, .int .i64 a0_1, .int .i64 a0_2, .slice A0_3 l0_3.length c0_3] 26 (0, 0)) q154_ hb); have n3_ := am_ (blk_below (g := gb321) (o := .cells #[.int .i64 a1_0, .int .i64 a1_1, .int .i64 a1_2, .int .i64 a1_3] 32 (0, 0)) q155_ hb); have n4_ := am_ (blk_below (g := gb322) (o := .cells #[.int .i64 x323000_2, .int .i64 x323001_2, .int .i64 x323002_2, .slice none 0 0] 26 (0, 0)) q156_ hb); have n5_ := am_ (below_step q54_ hb); have n6_ := am_ (hbox); have n7_ := am_ ((by rw [hg]; exact (below_size q54_) : w.heap.size ≤ gb349)); have n8_ := am_ ((by rw [hg]; exact (below_size q54_) : w.heap.size ≤ gb349)); have n9_ := am_ ((q11_ : gb320 ≠ gb349)); have n10_ := am_ ((q12_ : gb349 ≠ gb320)); have n11_ := am_ ((q31_ : gb321 ≠ gb349)); have n12_ := am_ ((q32_ : gb349 ≠ gb321)); have n13_ := am_ ((by rw [hg]; exact Nat.ne_of_lt (blk_lt (g := gb322) (o := .cells #[.int .i64 x323000_2, .int .i64 x323001_2, .int .i64 x323002_2, .slice none 0 0] 26 (0, 0)) q156_) : gb322 ≠ gb349)); have n14_ := am_ ((by rw [hg]; exact Nat.ne_of_gt (blk_lt (g := gb322) (o := .cells #[.int .i64 x323000_2, .int .i64 x323001_2, .int .i64 x323002_2, .slice none 0 0] 26 (0, 0)) q156_) : gb349 ≠ gb322)); clear HO_14 HO347 BK320 BK321 BK322 HB; have HO_14 := n0_; have HO347 := n1_; have BK320 := n2_; have BK321 := n3_; have BK322 := n4_; have HB := n5_; have BK349 := n6_; have GW349 := n7_; have GE349 := n8_; have NB320_349 := n9_; have NB349_320 := n10_; have NB321_349 := n11_; have NB349_321 := n12_; have NB322_349 := n13_; have NB349_322 := n14_; clear n0_ n1_ n2_ n3_ n4_ n5_ n6_ n7_ n8_ n9_ n10_ n11_ n12_ n13_ n14_; clear hb hbox hg; have hnb63 := NB349_320.out; have hnc63 := NB320_349.out; have hnb64 := NB349_321.out; have hnc64 := NB321_349.out; have hnb65 := NB349_322.out; have hnc65 := NB322_349.out; have hcz66_0 : w62.cell? ⟨gb349, 0, none⟩ = some (.int .i64 0) := (blk_cell BK349.out 0).trans rfl; have hcz66_1 : w62.cell? ⟨gb349, 1, none⟩ = some (.int .i64 0) := (blk_cell BK349.out 1).trans rfl; have hcz66_2 : w62.cell? ⟨gb349, 2, none⟩ = some (.int .i64 0) := (blk_cell BK349.out 2).trans rfl; have hcz66_3 : w62.cell? ⟨gb349, 3, none⟩ = some (.slice none 0 0) := (blk_cell BK349.out 3).trans rfl; have hfz66_0 := blk_frozen BK349.out 0; have hfz66_1 := blk_frozen BK349.out 1; have hfz66_2 := blk_frozen BK349.out 2; have hfz66_3 := blk_frozen BK349.out 3; obtain ⟨Ao67, co67, eo67⟩ := Kd.R_slice HO347.out; subst eo67))
          go_loopg [18] k2 (fun kq v18 w' => ∃ (x18_3 : Int) (x323000_3 : Int) (x323001_3 : Int) (x323002_3 : Int) (x350003_3 : List Int) (u350003 : Value), v18 = .int .i64 x18_3 ∧ Aside0 (tilefarmref13_Tile.l1 kq l2 l3 a4 t323 x18_3 a0_0 a0_1 a0_2 l0_3 a1_0 a1_1 a1_2 a1_3 t342 t343 t344 x350003_3 = some (r1, r2, r3, r4, r5)) ∧ Aside0 (kq ≤ k2) ∧ Aside0 (Kd.R (Kd.int .i64) 3 w' w.heap.size (fun _ => True) u350003 x350003_3) ∧ Aside0 (w'.heap[gb320]? = some (.cells #[.int .i64 a0_0, .int .i64 a0_1, .int .i64 a0_2, (.slice A0_3 l0_3.length c0_3)] 26 (0, 0))) ∧ Aside0 (w'.heap[gb321]? = some (.cells #[.int .i64 a1_0, .int .i64 a1_1, .int .i64 a1_2, .int .i64 a1_3] 32 (0, 0))) ∧ Aside0 (w'.heap[gb322]? = some (.cells #[.int .i64 x323000_3, .int .i64 x323001_3, .int .i64 x323002_3, (.slice none 0 0)] 26 (0, 0))) ∧ Aside0 (w'.heap[gb349]? = some (.cells #[.int .i64 t342, .int .i64 t343, .int .i64 t344, u350003] 26 (0, 0))) ∧ Aside0 (Below w.heap.size w w'))
          case atStart => exact ⟨(0), (x323000_2), (x323001_2), (x323002_2), (t345), (.slice Ao67 t345.length co67), q184_, H', ⟨Nat.le_refl _⟩, ⟨by (with_reducible repeat (first | apply Kd.R_alloc | apply Kd.R_drewN | apply Kd.R_drew)); exact Kd.R_mono (Kd.R_far (p := ⟨gb349, 3, none⟩) (Kd.R_far (p := ⟨gb349, 2, none⟩) (Kd.R_far (p := ⟨gb349, 1, none⟩) (Kd.R_far (p := ⟨gb349, 0, none⟩) (Kd.R_types HO347.out BK349.out (by decide)) (fun _ hk => hk.2) (.int .i64 t342)) (fun _ hk => hk.2) (.int .i64 t343)) (fun _ hk => hk.2) (.int .i64 t344)) (fun _ hk => hk.2) (.slice Ao67 t345.length co67)) (fun _ hk => trivial)⟩, ⟨by (with_reducible repeat (first | refine blk_drewN ?_ _ | refine blk_drew ?_ | refine blk_alloc ?_ _)); refine blk_far ?_ NB320_349.out _; (with_reducible repeat (first | refine blk_drewN ?_ _ | refine blk_drew ?_ | refine blk_alloc ?_ _)); refine blk_far ?_ NB320_349.out _; (with_reducible repeat (first | refine blk_drewN ?_ _ | refine blk_drew ?_ | refine blk_alloc ?_ _)); refine blk_far ?_ NB320_349.out _; (with_reducible repeat (first | refine blk_drewN ?_ _ | refine blk_drew ?_ | refine blk_alloc ?_ _)); refine blk_far ?_ NB320_349.out _; (with_reducible repeat (first | refine blk_drewN ?_ _ | refine blk_drew ?_ | refine blk_alloc ?_ _)); exact BK320.out⟩, ⟨by (with_reducible repeat (first | refine blk_drewN ?_ _ | refine blk_drew ?_ | refine blk_alloc ?_ _)); refine blk_far ?_ NB321_349.out _; (with_reducible repeat (first | refine blk_drewN ?_ _ | refine blk_drew ?_ | refine blk_alloc ?_ _)); refine blk_far ?_ NB321_349.out _; (with_reducible repeat (first | refine blk_drewN ?_ _ | refine blk_drew ?_ | refine blk_alloc ?_ _)); refine blk_far ?_ NB321_349.out _; (with_reducible repeat (first | refine blk_drewN ?_ _ | refine blk_drew ?_ | refine blk_alloc ?_ _)); refine blk_far ?_ NB321_349.out _; (with_reducible repeat (first | refine blk_drewN ?_ _ | refine blk_drew ?_ | refine blk_alloc ?_ _)); exact BK321.out⟩, ⟨by (with_reducible repeat (first | refine blk_drewN ?_ _ | refine blk_drew ?_ | refine blk_alloc ?_ _)); refine blk_far ?_ NB322_349.out _; (with_reducible repeat (first | refine blk_drewN ?_ _ | refine blk_drew ?_ | refine blk_alloc ?_ _)); refine blk_far ?_ NB322_349.out _; (with_reducible repeat (first | refine blk_drewN ?_ _ | refine blk_drew ?_ | refine blk_alloc ?_ _)); refine blk_far ?_ NB322_349.out _; (with_reducible repeat (first | refine blk_drewN ?_ _ | refine blk_drew ?_ | refine blk_alloc ?_ _)); refine blk_far ?_ NB322_349.out _; (with_reducible repeat (first | refine blk_drewN ?_ _ | refine blk_drew ?_ | refine blk_alloc ?_ _)); exact BK322.out⟩, ⟨by (with_reducible repeat (first | refine blk_drewN ?_ _ | refine blk_drew ?_ | refine blk_alloc ?_ _)); refine blk_put (cs := #[.int .i64 t342, .int .i64 t343, .int .i64 t344, .slice none 0 0]) ?_ 3 _ rfl; (with_reducible repeat (first | refine blk_drewN ?_ _ | refine blk_drew ?_ | refine blk_alloc ?_ _)); refine blk_put (cs := #[.int .i64 t342, .int .i64 t343, .int .i64 0, .slice none 0 0]) ?_ 2 _ rfl; (with_reducible repeat (first | refine blk_drewN ?_ _ | refine blk_drew ?_ | refine blk_alloc ?_ _)); refine blk_put (cs := #[.int .i64 t342, .int .i64 0, .int .i64 0, .slice none 0 0]) ?_ 1 _ rfl; (with_reducible repeat (first | refine blk_drewN ?_ _ | refine blk_drew ?_ | refine blk_alloc ?_ _)); refine blk_put (cs := #[.int .i64 0, .int .i64 0, .int .i64 0, .slice none 0 0]) ?_ 0 _ rfl; (with_reducible repeat (first | refine blk_drewN ?_ _ | refine blk_drew ?_ | refine blk_alloc ?_ _)); exact BK349.out⟩, ⟨q38_⟩⟩
          case round =>
           clear H'; (try clear c1); (try clear c2); (try clear p2); (try clear c3); (try clear p3); (try clear q3); (try clear hx3); (try clear c4); (try clear c5); (try clear c6); (try clear p6); (try clear c17); (try clear c20); (try clear p34); (try clear q34); (try clear hx34); (try clear c36); (try clear c37); (try clear c38); (try clear c40); (try clear c41); (try clear c42); (try clear c46); (try clear c46b0); (try clear c47); (try clear c47b0); (try clear c48); (try clear c48b0); (try clear c50); (try clear c51); (try clear c53); (try clear c53b0); (try clear c55); (try clear c56); (try clear c63); (try clear c64); (try clear p64); (try clear c65); (try clear hcz39_0); (try clear hcz39_1); (try clear hcz39_2); (try clear hcz39_3); (try clear hcz52_0); (try clear hcz52_1); (try clear hcz52_2); (try clear hcz52_3); (try clear hcz57_0); (try clear hcz57_1); (try clear hcz57_2); (try clear hcz57_3); (try clear hcz66_0); (try clear hcz66_1); (try clear hcz66_2); (try clear hcz66_3); (try clear hfz39_0); (try clear hfz39_1); (try clear hfz39_2); (try clear hfz39_3); (try clear hfz52_0); (try clear hfz52_1); (try clear hfz52_2); (try clear hfz52_3); (try clear hfz57_0); (try clear hfz57_1); (try clear hfz57_2); (try clear hfz57_3); (try clear hfz66_0); (try clear hfz66_1); (try clear hfz66_2); (try clear hfz66_3); (try clear hx340_0); (try clear hx341_0); (try clear p2); (try clear p340); (try clear p341); (try clear q340); (try clear q341); obtain ⟨x18_3, x323000_3, x323001_3, x323002_3, x350003_3, u350003, rfl, HA, HK3, HO_350003, BK320, BK321, BK322, BK349, HB⟩ := hrel; cases gk with
           | zero => exact absurd HA.out (by simp [tilefarmref13_Tile.l1])
           | succ k3 =>
            have H := HA.out; clear HA; simp only [tilefarmref13_Tile.l1] at H
            by_cases c68 : x18_3 < t343
            ·rw [if_pos c68] at H
             have c68b0 : decide (x18_3 < t343) = true := decide_eq_true c68; clear c68; have H' := am_ H; clear H; have hnb69 := NB349_320.out; have hnc69 := NB320_349.out; have hnb70 := NB349_321.out; have hnc70 := NB321_349.out; have hnb71 := NB349_322.out; have hnc71 := NB322_349.out; have hcz72_0 : wr.cell? ⟨gb349, 0, none⟩ = some (.int .i64 t342) := (blk_cell BK349.out 0).trans rfl; have hcz72_1 : wr.cell? ⟨gb349, 1, none⟩ = some (.int .i64 t343) := (blk_cell BK349.out 1).trans rfl; have hcz72_2 : wr.cell? ⟨gb349, 2, none⟩ = some (.int .i64 t344) := (blk_cell BK349.out 2).trans rfl; have hcz72_3 : wr.cell? ⟨gb349, 3, none⟩ = some (u350003) := (blk_cell BK349.out 3).trans rfl; have hfz72_0 := blk_frozen BK349.out 0; have hfz72_1 := blk_frozen BK349.out 1; have hfz72_2 := blk_frozen BK349.out 2; have hfz72_3 := blk_frozen BK349.out 3
             go_wp2
             go_loopg [19] k3 (fun kq v19 w' => ∃ (x19_4 : Int) (x323000_4 : Int) (x323001_4 : Int) (x323002_4 : Int) (x350003_4 : List Int) (u350003 : Value), v19 = .int .i64 x19_4 ∧ Aside0 (tilefarmref13_Tile.l2 kq l2 l3 a4 t323 x18_3 x19_4 a0_0 a0_1 a0_2 l0_3 a1_0 a1_1 a1_2 a1_3 t342 t343 t344 x350003_4 = some (r1, r2, r3, r4, r5)) ∧ Aside0 (kq ≤ k3) ∧ Aside0 (Kd.R (Kd.int .i64) 3 w' w.heap.size (fun _ => True) u350003 x350003_4) ∧ Aside0 (w'.heap[gb320]? = some (.cells #[.int .i64 a0_0, .int .i64 a0_1, .int .i64 a0_2, (.slice A0_3 l0_3.length c0_3)] 26 (0, 0))) ∧ Aside0 (w'.heap[gb321]? = some (.cells #[.int .i64 a1_0, .int .i64 a1_1, .int .i64 a1_2, .int .i64 a1_3] 32 (0, 0))) ∧ Aside0 (w'.heap[gb322]? = some (.cells #[.int .i64 x323000_4, .int .i64 x323001_4, .int .i64 x323002_4, (.slice none 0 0)] 26 (0, 0))) ∧ Aside0 (w'.heap[gb349]? = some (.cells #[.int .i64 t342, .int .i64 t343, .int .i64 t344, u350003] 26 (0, 0))) ∧ Aside0 (Below w.heap.size w w'))
             case atStart => exact ⟨(0), (x323000_3), (x323001_3), (x323002_3), (x350003_3), (u350003), q184_, H', ⟨Nat.le_refl _⟩, ⟨q164_⟩, ⟨q154_⟩, ⟨q155_⟩, ⟨q156_⟩, ⟨q157_⟩, ⟨q38_⟩⟩
             case round =>
              clear H'; (try clear c1); (try clear c2); (try clear p2); (try clear c3); (try clear p3); (try clear q3); (try clear hx3); (try clear c4); (try clear c5); (try clear c6); (try clear p6); (try clear c7); (try clear c17); (try clear c20); (try clear p34); (try clear q34); (try clear hx34); (try clear c36); (try clear c37); (try clear c38); (try clear c40); (try clear c41); (try clear c42); (try clear c46); (try clear c46b0); (try clear c47); (try clear c47b0); (try clear c48); (try clear c48b0); (try clear c50); (try clear c51); (try clear c53); (try clear c53b0); (try clear c55); (try clear c56); (try clear c63); (try clear c64); (try clear p64); (try clear c65); (try clear c68); (try clear c68b0); (try clear c69); (try clear c70); (try clear c71); (try clear hcz39_0); (try clear hcz39_1); (try clear hcz39_2); (try clear hcz39_3); (try clear hcz52_0); (try clear hcz52_1); (try clear hcz52_2); (try clear hcz52_3); (try clear hcz57_0); (try clear hcz57_1); (try clear hcz57_2); (try clear hcz57_3); (try clear hcz66_0); (try clear hcz66_1); (try clear hcz66_2); (try clear hcz66_3); (try clear hcz72_0); (try clear hcz72_1); (try clear hcz72_2); (try clear hcz72_3); (try clear hfz39_0); (try clear hfz39_1); (try clear hfz39_2); (try clear hfz39_3); (try clear hfz52_0); (try clear hfz52_1); (try clear hfz52_2); (try clear hfz52_3); (try clear hfz57_0); (try clear hfz57_1); (try clear hfz57_2); (try clear hfz57_3); (try clear hfz66_0); (try clear hfz66_1); (try clear hfz66_2); (try clear hfz66_3); (try clear hfz72_0); (try clear hfz72_1); (try clear hfz72_2); (try clear hfz72_3); (try clear hx340_0); (try clear hx341_0); (try clear p2); (try clear p3); (try clear p34); (try clear p340); (try clear p341); (try clear p6); (try clear p64); (try clear q3); (try clear q34); (try clear q340); (try clear q341); obtain ⟨x19_4, x323000_4, x323001_4, x323002_4, x350003_4, u350003, rfl, HA, HK4, HO_350003, BK320, BK321, BK322, BK349, HB⟩ := hrel; cases gk with
              | zero => exact absurd HA.out (by simp [tilefarmref13_Tile.l2])
              | succ k4 =>
               have H := HA.out; clear HA; simp only [tilefarmref13_Tile.l2] at H
               by_cases c73 : x19_4 < t342
               ·rw [if_pos c73] at H
                have c73b0 : decide (x19_4 < t342) = true := decide_eq_true c73; clear c73
                by_cases c74 : 0 ≤ x18_3
                ·rw [if_pos c74] at H
                 have c74b0 : decide (0 ≤ x18_3) = true := decide_eq_true c74; clear c74
                 by_cases c75 : x18_3 < (l2.length : Int)
                 ·rw [if_pos c75] at H
                  have c75b0 : decide (x18_3 < (l2.length : Int)) = true := decide_eq_true c75; clear c75
                  by_cases c76 : 0 ≤ x19_4
                  ·rw [if_pos c76] at H
                   have c76b0 : decide (0 ≤ x19_4) = true := decide_eq_true c76; clear c76
                   by_cases c77 : x19_4 < (l3.length : Int)
                   ·rw [if_pos c77] at H
                    have c77b0 : decide (x19_4 < (l3.length : Int)) = true := decide_eq_true c77; clear c77; have H' := am_ H; clear H; have hnb78 := NB349_320.out; have hnc78 := NB320_349.out; have hnb79 := NB349_321.out; have hnc79 := NB321_349.out; have hnb80 := NB349_322.out; have hnc80 := NB322_349.out; have hcz81_0 : wr.cell? ⟨gb349, 0, none⟩ = some (.int .i64 t342) := (blk_cell BK349.out 0).trans rfl; have hcz81_1 : wr.cell? ⟨gb349, 1, none⟩ = some (.int .i64 t343) := (blk_cell BK349.out 1).trans rfl; have hcz81_2 : wr.cell? ⟨gb349, 2, none⟩ = some (.int .i64 t344) := (blk_cell BK349.out 2).trans rfl; have hcz81_3 : wr.cell? ⟨gb349, 3, none⟩ = some (u350003) := (blk_cell BK349.out 3).trans rfl; have hfz81_0 := blk_frozen BK349.out 0; have hfz81_1 := blk_frozen BK349.out 1; have hfz81_2 := blk_frozen BK349.out 2; have hfz81_3 := blk_frozen BK349.out 3
                    try go_wp2
                    have n0_ := am_ (Kd.R_drew HO_350003.out); have n1_ := am_ (blk_drew BK320.out); have n2_ := am_ (blk_drew BK321.out); have n3_ := am_ (blk_drew BK322.out); have n4_ := am_ (blk_drew BK349.out); have n5_ := am_ (below_drew1 HB.out); clear HO_350003 BK320 BK321 BK322 BK349 HB; have HO_350003 := n0_; have BK320 := n1_; have BK321 := n2_; have BK322 := n3_; have BK349 := n4_; have HB := n5_; clear n0_ n1_ n2_ n3_ n4_ n5_; have p350 : 0 ≤ (x18_3 : Int) := of_decide_eq_true q183_; have q350 : x18_3 < (l2.length : Int) := of_decide_eq_true q183_; obtain ⟨ad350, e350, hx350_0⟩ := Kd.at_int HR2.out x18_3 p350 q350; have hw350_0 := hx350_0; cases e350; replace hx350_0 := (HB.out.cell (World.block_lt_of_cell? w _ hx350_0)).trans hx350_0; replace p350 := eq_true p350; replace q350 := eq_true q350; have p351 : 0 ≤ (x19_4 : Int) := of_decide_eq_true q183_; have q351 : x19_4 < (l3.length : Int) := of_decide_eq_true q183_; obtain ⟨ad351, e351, hx351_0⟩ := Kd.at_int HR3.out x19_4 p351 q351; have hw351_0 := hx351_0; cases e351; replace hx351_0 := (HB.out.cell (World.block_lt_of_cell? w _ hx351_0)).trans hx351_0; replace p351 := eq_true p351; replace q351 := eq_true q351; refine start_ (n := 12) (S := fun w' => w'.cell? (ad350.add (x18_3).toNat) = some (.int .i64 (rd l2 x18_3)) ∧ w'.cell? (ad351.add (x19_4).toNat) = some (.int .i64 (rd l3 x19_4))) (ds := []) #[false, false, false, false, false, false, false, false, false, false, false, false] (by kernel_rfl) rfl rfl ⟨((HB.out.cell (World.block_lt_of_cell? w _ hw350_0)).trans hw350_0), ((HB.out.cell (World.block_lt_of_cell? w _ hw351_0)).trans hw351_0)⟩ (fun hHeld => ?_); refine with_tabW tilefarmref13_Tile.tab19 tilefarmref13_Tile.bits19 (fun HT_ HW_ => ?_); generalize wr.drew = w82 at HO_350003 BK320 BK321 BK322 BK349 HB hx350_0 hx351_0 hHeld ⊢; refine pure_ (i := 0) (N := some 110) (v := ?_) (a' := ?_) #[true, false, false, false, false, false, false, false, false, false, false, false] rfl rfl (any_of HT_.out (by kernel_rfl)) (fun _ _ _ h => h) (Or.inl ⟨by rfl, ?_⟩) ?_ ?_; rotate_left
                    ·intro w'
                     go_simp
                     with_reducible rfl
                    rotate_left
                    ·simp only [Act.put, la_, lz_, ls_, i64_w, i32_w]
                     rfl
                    refine pure_ (i := 1) (N := some 111) (v := ?_) (a' := ?_) #[true, true, false, false, false, false, false, false, false, false, false, false] rfl rfl (any_of HT_.out (by kernel_rfl)) (fun _ _ _ h => h) (Or.inl ⟨by rfl, ?_⟩) ?_ ?_; rotate_left
                    ·intro w'
                     go_simp
                     with_reducible rfl
                    rotate_left
                    ·simp only [Act.put, la_, lz_, ls_, i64_w, i32_w]
                     rfl
                    refine pure_ (i := 2) (N := some 112) (v := ?_) (a' := ?_) #[true, true, true, false, false, false, false, false, false, false, false, false] rfl rfl (any_of HT_.out (by kernel_rfl)) (fun _ _ _ h => h) (Or.inl ⟨by rfl, ?_⟩) ?_ ?_; rotate_left
                    ·intro w'
                     go_simp
                     with_reducible rfl
                    rotate_left
                    ·simp only [Act.put, la_, lz_, ls_, i64_w, i32_w]
                     rfl
                    refine pure_ (i := 4) (N := some 114) (v := ?_) (a' := ?_) #[true, true, true, false, true, false, false, false, false, false, false, false] rfl rfl (any_of HT_.out (by kernel_rfl)) (fun _ _ _ h => h) (Or.inl ⟨by rfl, ?_⟩) ?_ ?_; rotate_left
                    ·intro w'
                     go_simp
                     with_reducible rfl
                    rotate_left
                    ·simp only [Act.put, la_, lz_, ls_, i64_w, i32_w]
                     rfl
                    refine pure_ (i := 5) (N := some 115) (v := ?_) (a' := ?_) #[true, true, true, false, true, true, false, false, false, false, false, false] rfl rfl (any_of HT_.out (by kernel_rfl)) (fun _ _ _ h => h) (Or.inl ⟨by rfl, ?_⟩) ?_ ?_; rotate_left
                    ·intro w'
                     go_simp
                     with_reducible rfl
                    rotate_left
                    ·simp only [Act.put, la_, lz_, ls_, i64_w, i32_w]
                     rfl
                    refine pure_ (i := 6) (N := some 116) (v := ?_) (a' := ?_) #[true, true, true, false, true, true, true, false, false, false, false, false] rfl rfl (any_of HT_.out (by kernel_rfl)) (fun _ _ _ h => h) (Or.inl ⟨by rfl, ?_⟩) ?_ ?_; rotate_left
                    ·intro w'
                     go_simp
                     with_reducible rfl
                    rotate_left
                    ·simp only [Act.put, la_, lz_, ls_, i64_w, i32_w]
                     rfl
                    refine pure_ (i := 9) (N := some 119) (v := ?_) (a' := ?_) #[true, true, true, false, true, true, true, false, false, true, false, false] rfl rfl (any_of HT_.out (by kernel_rfl)) (fun _ _ _ h => h) (Or.inl ⟨by rfl, ?_⟩) ?_ ?_; rotate_left
                    ·intro w'
                     go_simp
                     with_reducible rfl
                    rotate_left
                    ·simp only [Act.put, la_, lz_, ls_, i64_w, i32_w]
                     rfl
                    refine take_ (i := 3) (N := some 113) (v := ?_) (a' := ?_) #[true, true, true, true, true, true, true, false, false, true, false, false] rfl rfl (take_ofW HT_.out HW_.out (by kernel_rfl)) (fun _ _ _ h => h) (Or.inl ⟨by rfl, ?_⟩) hHeld ?_ ?_; rotate_left
                    ·rintro w' ⟨s0, s1⟩
                     go_simp
                     with_reducible rfl
                    rotate_left
                    ·simp only [Act.put, la_, lz_, ls_, i64_w, i32_w]
                     rfl
                    refine take_ (i := 7) (N := some 117) (v := ?_) (a' := ?_) #[true, true, true, true, true, true, true, true, false, true, false, false] rfl rfl (take_ofW HT_.out HW_.out (by kernel_rfl)) (fun _ _ _ h => h) (Or.inl ⟨by rfl, ?_⟩) hHeld ?_ ?_; rotate_left
                    ·rintro w' ⟨s0, s1⟩
                     go_simp
                     with_reducible rfl
                    rotate_left
                    ·simp only [Act.put, la_, lz_, ls_, i64_w, i32_w]
                     rfl
                    refine pure_ (i := 8) (N := some 118) (v := ?_) (a' := ?_) #[true, true, true, true, true, true, true, true, true, true, false, false] rfl rfl (any_of HT_.out (by kernel_rfl)) (fun _ _ _ h => h) (Or.inl ⟨by rfl, ?_⟩) ?_ ?_; rotate_left
                    ·intro w'
                     go_simp
                     with_reducible rfl
                    rotate_left
                    ·simp only [Act.put, la_, lz_, ls_, i64_w, i32_w]
                     rfl
                    refine pure_ (i := 10) (N := some 120) (v := ?_) (a' := ?_) #[true, true, true, true, true, true, true, true, true, true, true, false] rfl rfl (any_of HT_.out (by kernel_rfl)) (fun _ _ _ h => h) (Or.inl ⟨by rfl, ?_⟩) ?_ ?_; rotate_left
                    ·intro w'
                     go_simp
                     with_reducible rfl
                    rotate_left
                    ·simp only [Act.put, la_, lz_, ls_, i64_w, i32_w]
                     rfl
                    refine pure_ (i := 11) (N := some 20) (v := ?_) (a' := ?_) #[true, true, true, true, true, true, true, true, true, true, true, true] rfl rfl (any_of HT_.out (by kernel_rfl)) (fun _ _ _ h => h) (Or.inl ⟨by rfl, ?_⟩) ?_ ?_; rotate_left
                    ·intro w'
                     go_simp
                     with_reducible rfl
                    rotate_left
                    ·simp only [Act.put, la_, lz_, ls_, i64_w, i32_w]
                     rfl
                    refine done_ (done_of HT_.out (by kernel_rfl)) ?_
                    try go_wp2
                    go_loopg [20, 21] k4 (fun kq v20 v21 w' => ∃ (x20_5 : Int) (x21_5 : Int), v20 = .int .i64 x20_5 ∧ v21 = .int .i64 x21_5 ∧ Aside0 (tilefarmref13_Tile.l3 kq l2 l3 a4 t323 x18_3 x19_4 x20_5 x21_5 a0_0 a0_1 a0_2 l0_3 a1_0 a1_1 a1_2 a1_3 t342 t343 t344 x350003_4 = some (r1, r2, r3, r4, r5)) ∧ Aside0 (kq ≤ k4) ∧ Aside0 (Kd.R (Kd.int .i64) 3 w' w.heap.size (fun _ => True) u350003 x350003_4) ∧ Aside0 (w'.heap[gb320]? = some (.cells #[.int .i64 a0_0, .int .i64 a0_1, .int .i64 a0_2, (.slice A0_3 l0_3.length c0_3)] 26 (0, 0))) ∧ Aside0 (w'.heap[gb321]? = some (.cells #[.int .i64 a1_0, .int .i64 a1_1, .int .i64 a1_2, .int .i64 a1_3] 32 (0, 0))) ∧ Aside0 (w'.heap[gb322]? = some (.cells #[.int .i64 x323000_4, .int .i64 x323001_4, .int .i64 x323002_4, (.slice none 0 0)] 26 (0, 0))) ∧ Aside0 (w'.heap[gb349]? = some (.cells #[.int .i64 t342, .int .i64 t343, .int .i64 t344, u350003] 26 (0, 0))) ∧ Aside0 (Below w.heap.size w w'))
                    case atStart => exact ⟨(wrap64 ((wrap64 ((rd l2 x18_3) + (rd l3 x19_4))) - a4)), (0), q184_, q184_, H', ⟨Nat.le_refl _⟩, ⟨q164_⟩, ⟨q154_⟩, ⟨q155_⟩, ⟨q156_⟩, ⟨q157_⟩, ⟨q38_⟩⟩
                    case round =>
                     clear H'; (try clear c1); (try clear c2); (try clear p2); (try clear c3); (try clear p3); (try clear q3); (try clear hx3); (try clear c4); (try clear c5); (try clear c6); (try clear p6); (try clear c7); (try clear c8); (try clear c17); (try clear c20); (try clear p34); (try clear q34); (try clear hx34); (try clear p35); (try clear q35); (try clear hx35); (try clear c36); (try clear c37); (try clear c38); (try clear c40); (try clear c41); (try clear c42); (try clear c46); (try clear c46b0); (try clear c47); (try clear c47b0); (try clear c48); (try clear c48b0); (try clear c50); (try clear c51); (try clear c53); (try clear c53b0); (try clear c55); (try clear c56); (try clear c63); (try clear c64); (try clear p64); (try clear c65); (try clear c68); (try clear c68b0); (try clear c69); (try clear c70); (try clear c71); (try clear c73); (try clear c73b0); (try clear c74); (try clear c74b0); (try clear c75); (try clear c75b0); (try clear c76); (try clear c76b0); (try clear c77); (try clear c77b0); (try clear c78); (try clear c79); (try clear c80); (try clear hcz39_0); (try clear hcz39_1); (try clear hcz39_2); (try clear hcz39_3); (try clear hcz52_0); (try clear hcz52_1); (try clear hcz52_2); (try clear hcz52_3); (try clear hcz57_0); (try clear hcz57_1); (try clear hcz57_2); (try clear hcz57_3); (try clear hcz66_0); (try clear hcz66_1); (try clear hcz66_2); (try clear hcz66_3); (try clear hcz72_0); (try clear hcz72_1); (try clear hcz72_2); (try clear hcz72_3); (try clear hcz81_0); (try clear hcz81_1); (try clear hcz81_2); (try clear hcz81_3); (try clear hfz39_0); (try clear hfz39_1); (try clear hfz39_2); (try clear hfz39_3); (try clear hfz52_0); (try clear hfz52_1); (try clear hfz52_2); (try clear hfz52_3); (try clear hfz57_0); (try clear hfz57_1); (try clear hfz57_2); (try clear hfz57_3); (try clear hfz66_0); (try clear hfz66_1); (try clear hfz66_2); (try clear hfz66_3); (try clear hfz72_0); (try clear hfz72_1); (try clear hfz72_2); (try clear hfz72_3); (try clear hfz81_0); (try clear hfz81_1); (try clear hfz81_2); (try clear hfz81_3); (try clear hx340_0); (try clear hx341_0); (try clear hx350_0); (try clear hx351_0); (try clear p2); (try clear p3); (try clear p34); (try clear p340); (try clear p341); (try clear p350); (try clear p351); (try clear p6); (try clear p64); (try clear q3); (try clear q34); (try clear q340); (try clear q341); (try clear q350); (try clear q351); obtain ⟨x20_5, x21_5, rfl, rfl, HA, HK5, HO_350003, BK320, BK321, BK322, BK349, HB⟩ := hrel; cases gk with
                     | zero => exact absurd HA.out (by simp [tilefarmref13_Tile.l3])
                     | succ k5 =>
                      have H := HA.out; clear HA; simp only [tilefarmref13_Tile.l3] at H
                      by_cases c83 : x21_5 ≤ x18_3
                      ·rw [if_pos c83] at H
                       have c83b0 : decide (x21_5 ≤ x18_3) = true := decide_eq_true c83; clear c83; have H' := am_ H; clear H
                       go_wp2
                       go_loopg [20, 22] k5 (fun kq v20 v22 w' => ∃ (x20_6 : Int) (x22_6 : Int), v20 = .int .i64 x20_6 ∧ v22 = .int .i64 x22_6 ∧ Aside0 (tilefarmref13_Tile.l4 kq l2 l3 a4 t323 x18_3 x19_4 x20_6 x21_5 x22_6 a0_0 a0_1 a0_2 l0_3 a1_0 a1_1 a1_2 a1_3 t342 t343 t344 x350003_4 = some (r1, r2, r3, r4, r5)) ∧ Aside0 (kq ≤ k5) ∧ Aside0 (Kd.R (Kd.int .i64) 3 w' w.heap.size (fun _ => True) u350003 x350003_4) ∧ Aside0 (w'.heap[gb320]? = some (.cells #[.int .i64 a0_0, .int .i64 a0_1, .int .i64 a0_2, (.slice A0_3 l0_3.length c0_3)] 26 (0, 0))) ∧ Aside0 (w'.heap[gb321]? = some (.cells #[.int .i64 a1_0, .int .i64 a1_1, .int .i64 a1_2, .int .i64 a1_3] 32 (0, 0))) ∧ Aside0 (w'.heap[gb322]? = some (.cells #[.int .i64 x323000_4, .int .i64 x323001_4, .int .i64 x323002_4, (.slice none 0 0)] 26 (0, 0))) ∧ Aside0 (w'.heap[gb349]? = some (.cells #[.int .i64 t342, .int .i64 t343, .int .i64 t344, u350003] 26 (0, 0))) ∧ Aside0 (Below w.heap.size w w'))
                       case atStart => exact ⟨(x20_5), (0), q184_, q184_, H', ⟨Nat.le_refl _⟩, ⟨q164_⟩, ⟨q154_⟩, ⟨q155_⟩, ⟨q156_⟩, ⟨q157_⟩, ⟨q38_⟩⟩
                       case round =>
                        clear H'; (try clear c1); (try clear c2); (try clear p2); (try clear c3); (try clear p3); (try clear q3); (try clear hx3); (try clear c4); (try clear c5); (try clear c6); (try clear p6); (try clear c7); (try clear c8); (try clear c17); (try clear c20); (try clear p34); (try clear q34); (try clear hx34); (try clear p35); (try clear q35); (try clear hx35); (try clear c36); (try clear c37); (try clear c38); (try clear c40); (try clear c41); (try clear c42); (try clear c46); (try clear c46b0); (try clear c47); (try clear c47b0); (try clear c48); (try clear c48b0); (try clear c50); (try clear c51); (try clear c53); (try clear c53b0); (try clear c55); (try clear c56); (try clear c63); (try clear c64); (try clear p64); (try clear c65); (try clear c68); (try clear c68b0); (try clear c69); (try clear c70); (try clear c71); (try clear c73); (try clear c73b0); (try clear c74); (try clear c74b0); (try clear c75); (try clear c75b0); (try clear c76); (try clear c76b0); (try clear c77); (try clear c77b0); (try clear c78); (try clear c79); (try clear c80); (try clear c83); (try clear c83b0); (try clear hcz39_0); (try clear hcz39_1); (try clear hcz39_2); (try clear hcz39_3); (try clear hcz52_0); (try clear hcz52_1); (try clear hcz52_2); (try clear hcz52_3); (try clear hcz57_0); (try clear hcz57_1); (try clear hcz57_2); (try clear hcz57_3); (try clear hcz66_0); (try clear hcz66_1); (try clear hcz66_2); (try clear hcz66_3); (try clear hcz72_0); (try clear hcz72_1); (try clear hcz72_2); (try clear hcz72_3); (try clear hcz81_0); (try clear hcz81_1); (try clear hcz81_2); (try clear hcz81_3); (try clear hfz39_0); (try clear hfz39_1); (try clear hfz39_2); (try clear hfz39_3); (try clear hfz52_0); (try clear hfz52_1); (try clear hfz52_2); (try clear hfz52_3); (try clear hfz57_0); (try clear hfz57_1); (try clear hfz57_2); (try clear hfz57_3); (try clear hfz66_0); (try clear hfz66_1); (try clear hfz66_2); (try clear hfz66_3); (try clear hfz72_0); (try clear hfz72_1); (try clear hfz72_2); (try clear hfz72_3); (try clear hfz81_0); (try clear hfz81_1); (try clear hfz81_2); (try clear hfz81_3); (try clear hx340_0); (try clear hx341_0); (try clear hx350_0); (try clear hx351_0); (try clear p2); (try clear p3); (try clear p34); (try clear p340); (try clear p341); (try clear p35); (try clear p350); (try clear p351); (try clear p6); (try clear p64); (try clear q3); (try clear q34); (try clear q340); (try clear q341); (try clear q35); (try clear q350); (try clear q351); obtain ⟨x20_6, x22_6, rfl, rfl, HA, HK6, HO_350003, BK320, BK321, BK322, BK349, HB⟩ := hrel; cases gk with
                        | zero => exact absurd HA.out (by simp [tilefarmref13_Tile.l4])
                        | succ k6 =>
                         have H := HA.out; clear HA; simp only [tilefarmref13_Tile.l4] at H
                         by_cases c84 : x22_6 ≤ x19_4
                         ·rw [if_pos c84] at H
                          have c84b0 : decide (x22_6 ≤ x19_4) = true := decide_eq_true c84; clear c84; obtain ⟨ji85, hji85⟩ : ∃ j_ : Int, (wrap64 ((wrap64 ((wrap64 ((wrap64 (a1_1 + x21_5)) * a0_0)) + a1_0)) + x22_6)) = j_ := ⟨_, rfl⟩; replace H : (if 0 ≤ (ji85) then (if (ji85) < (l0_3.length : Int) then (tilefarmref13_Tile.l4 k6 l2 l3 a4 t323 x18_3 x19_4 (wrap64 (x20_6 + (rd l0_3 (ji85)))) x21_5 (wrap64 (x22_6 + 1)) a0_0 a0_1 a0_2 l0_3 a1_0 a1_1 a1_2 a1_3 t342 t343 t344 x350003_4) else (none)) else (none)) = some (r1, r2, r3, r4, r5) := by first | (rw [hji85] at H; exact H) | (simp only [hji85] at H ⊢; exact H)
                          have hji85w : (IntKind.i64.wrap ((wrap64 ((wrap64 ((wrap64 (a1_1 + x21_5)) * a0_0)) + a1_0)) + x22_6)) = ji85 := (i64_w _).trans hji85
                          by_cases c86 : 0 ≤ (ji85)
                          ·rw [if_pos c86] at H
                           have c86b0 : decide (0 ≤ (ji85)) = true := decide_eq_true c86; clear c86
                           by_cases c87 : (ji85) < (l0_3.length : Int)
                           ·rw [if_pos c87] at H
                            have c87b0 : decide ((ji85) < (l0_3.length : Int)) = true := decide_eq_true c87; clear c87; have H' := am_ H; clear H; have hnb88 := NB320_321.out; have hnc88 := NB321_320.out; have hnb89 := NB320_322.out; have hnc89 := NB322_320.out; have hnb90 := NB320_349.out; have hnc90 := NB349_320.out; have hcz91_0 : wr.cell? ⟨gb320, 0, none⟩ = some (.int .i64 a0_0) := (blk_cell BK320.out 0).trans rfl; have hcz91_1 : wr.cell? ⟨gb320, 1, none⟩ = some (.int .i64 a0_1) := (blk_cell BK320.out 1).trans rfl; have hcz91_2 : wr.cell? ⟨gb320, 2, none⟩ = some (.int .i64 a0_2) := (blk_cell BK320.out 2).trans rfl; have hcz91_3 : wr.cell? ⟨gb320, 3, none⟩ = some (.slice A0_3 l0_3.length c0_3) := (blk_cell BK320.out 3).trans rfl; have hfz91_0 := blk_frozen BK320.out 0; have hfz91_1 := blk_frozen BK320.out 1; have hfz91_2 := blk_frozen BK320.out 2; have hfz91_3 := blk_frozen BK320.out 3; have hnb92 := NB321_322.out; have hnc92 := NB322_321.out; have hnb93 := NB321_349.out; have hnc93 := NB349_321.out; have hcz94_0 : wr.cell? ⟨gb321, 0, none⟩ = some (.int .i64 a1_0) := (blk_cell BK321.out 0).trans rfl; have hcz94_1 : wr.cell? ⟨gb321, 1, none⟩ = some (.int .i64 a1_1) := (blk_cell BK321.out 1).trans rfl; have hcz94_2 : wr.cell? ⟨gb321, 2, none⟩ = some (.int .i64 a1_2) := (blk_cell BK321.out 2).trans rfl; have hcz94_3 : wr.cell? ⟨gb321, 3, none⟩ = some (.int .i64 a1_3) := (blk_cell BK321.out 3).trans rfl; have hfz94_0 := blk_frozen BK321.out 0; have hfz94_1 := blk_frozen BK321.out 1; have hfz94_2 := blk_frozen BK321.out 2; have hfz94_3 := blk_frozen BK321.out 3; have p353 : 0 ≤ ((ji85) : Int) := of_decide_eq_true q183_; have q353 : (ji85) < (l0_3.length : Int) := of_decide_eq_true q183_; obtain ⟨ad353, e353, hx353_0⟩ := Kd.at_int HR0_3.out (ji85) p353 q353; cases e353; replace hx353_0 := (HB.out.cell (World.block_lt_of_cell? w _ hx353_0)).trans hx353_0; replace p353 := eq_true p353; replace q353 := eq_true q353
                            go_wp2
                            go_roundg k6
                            case measure => have := HJ7.out; have := HK2.out; have := HK3.out; have := HK4.out; have := HK5.out; have := HK6.out; omega
                            case rel => exact ⟨(wrap64 (x20_6 + (rd l0_3 (ji85)))), (wrap64 (x22_6 + 1)), (by first | rfl | (simp; done) | (simp only [← hji85] <;> (first | rfl | simp)) | (simp [*]; done)), q184_, (by first | exact H' | ((try (rw [hji85])); exact H')), ⟨by have := HJ7.out; have := HK2.out; have := HK3.out; have := HK4.out; have := HK5.out; have := HK6.out; omega⟩, ⟨q164_⟩, ⟨q154_⟩, ⟨q155_⟩, ⟨q156_⟩, ⟨q157_⟩, ⟨q38_⟩⟩
                           ·rw [if_neg c87] at H
                            exact absurd H (by simp)
                          ·rw [if_neg c86] at H
                           exact absurd H (by simp)
                         ·rw [if_neg c84] at H
                          have c84b0 : decide (x22_6 ≤ x19_4) = false := decide_eq_false c84; clear c84; have H' := am_ H; clear H
                          go_wp2
                          go_roundg k6
                          case measure => have := HJ7.out; have := HK2.out; have := HK3.out; have := HK4.out; have := HK5.out; have := HK6.out; omega
                          case rel => exact ⟨(x20_6), (wrap64 (x21_5 + 1)), q184_, q184_, (by first | exact H' | ((try (rw [hji85])); exact H')), ⟨by have := HJ7.out; have := HK2.out; have := HK3.out; have := HK4.out; have := HK5.out; have := HK6.out; omega⟩, ⟨q164_⟩, ⟨q154_⟩, ⟨q155_⟩, ⟨q156_⟩, ⟨q157_⟩, ⟨q38_⟩⟩
                      ·rw [if_neg c83] at H
                       have c83b0 : decide (x21_5 ≤ x18_3) = false := decide_eq_false c83; clear c83
                       by_cases c95 : x20_5 < 0
                       ·rw [if_pos c95] at H
                        have c95b0 : decide (x20_5 < 0) = true := decide_eq_true c95; clear c95; simp only [Option.some.injEq, Prod.mk.injEq] at H; obtain ⟨rfl, rfl, rfl, rfl, rfl⟩ := H; have hnb96 := NB322_320.out; have hnc96 := NB320_322.out; have hnb97 := NB322_321.out; have hnc97 := NB321_322.out; have hnb98 := NB322_349.out; have hnc98 := NB349_322.out; have hcz99_0 : wr.cell? ⟨gb322, 0, none⟩ = some (.int .i64 x323000_4) := (blk_cell BK322.out 0).trans rfl; have hcz99_1 : wr.cell? ⟨gb322, 1, none⟩ = some (.int .i64 x323001_4) := (blk_cell BK322.out 1).trans rfl; have hcz99_2 : wr.cell? ⟨gb322, 2, none⟩ = some (.int .i64 x323002_4) := (blk_cell BK322.out 2).trans rfl; have hcz99_3 : wr.cell? ⟨gb322, 3, none⟩ = some (.slice none 0 0) := (blk_cell BK322.out 3).trans rfl; have hfz99_0 := blk_frozen BK322.out 0; have hfz99_1 := blk_frozen BK322.out 1; have hfz99_2 := blk_frozen BK322.out 2; have hfz99_3 := blk_frozen BK322.out 3
                        go_wp2
                        refine bodyPost_ret (results_ct rfl _ _ gb322 26 #[.int .i64 0, .int .i64 0, .int .i64 0, .slice none 0 0] (0, 0) _ rfl (by (with_reducible repeat (first | refine blk_drewN ?_ _ | refine blk_drew ?_ | refine blk_alloc ?_ _)); refine blk_put (cs := #[.int .i64 0, .int .i64 0, .int .i64 0, .slice none 0 0]) ?_ 3 _ rfl; (with_reducible repeat (first | refine blk_drewN ?_ _ | refine blk_drew ?_ | refine blk_alloc ?_ _)); refine blk_put (cs := #[.int .i64 0, .int .i64 0, .int .i64 x323002_4, .slice none 0 0]) ?_ 2 _ rfl; (with_reducible repeat (first | refine blk_drewN ?_ _ | refine blk_drew ?_ | refine blk_alloc ?_ _)); refine blk_put (cs := #[.int .i64 0, .int .i64 x323001_4, .int .i64 x323002_4, .slice none 0 0]) ?_ 1 _ rfl; (with_reducible repeat (first | refine blk_drewN ?_ _ | refine blk_drew ?_ | refine blk_alloc ?_ _)); refine blk_put (cs := #[.int .i64 x323000_4, .int .i64 x323001_4, .int .i64 x323002_4, .slice none 0 0]) ?_ 0 _ rfl; (with_reducible repeat (first | refine blk_drewN ?_ _ | refine blk_drew ?_ | refine blk_alloc ?_ _)); exact BK322.out) Try.underlying26 rfl (by kernel_rfl)) rfl ?_; exact ⟨_, q179_, q116_, q38_⟩
                       ·rw [if_neg c95] at H
                        have c95b0 : decide (x20_5 < 0) = false := decide_eq_false c95; clear c95
                        by_cases c100 : x20_5 > t323
                        ·rw [if_pos c100] at H
                         have c100b0 : decide (t323 < x20_5) = true := decide_eq_true c100; clear c100; simp only [Option.some.injEq, Prod.mk.injEq] at H; obtain ⟨rfl, rfl, rfl, rfl, rfl⟩ := H; have hnb101 := NB322_320.out; have hnc101 := NB320_322.out; have hnb102 := NB322_321.out; have hnc102 := NB321_322.out; have hnb103 := NB322_349.out; have hnc103 := NB349_322.out; have hcz104_0 : wr.cell? ⟨gb322, 0, none⟩ = some (.int .i64 x323000_4) := (blk_cell BK322.out 0).trans rfl; have hcz104_1 : wr.cell? ⟨gb322, 1, none⟩ = some (.int .i64 x323001_4) := (blk_cell BK322.out 1).trans rfl; have hcz104_2 : wr.cell? ⟨gb322, 2, none⟩ = some (.int .i64 x323002_4) := (blk_cell BK322.out 2).trans rfl; have hcz104_3 : wr.cell? ⟨gb322, 3, none⟩ = some (.slice none 0 0) := (blk_cell BK322.out 3).trans rfl; have hfz104_0 := blk_frozen BK322.out 0; have hfz104_1 := blk_frozen BK322.out 1; have hfz104_2 := blk_frozen BK322.out 2; have hfz104_3 := blk_frozen BK322.out 3
                         go_wp2
                         refine bodyPost_ret (results_ct rfl _ _ gb322 26 #[.int .i64 0, .int .i64 0, .int .i64 0, .slice none 0 0] (0, 0) _ rfl (by (with_reducible repeat (first | refine blk_drewN ?_ _ | refine blk_drew ?_ | refine blk_alloc ?_ _)); refine blk_put (cs := #[.int .i64 0, .int .i64 0, .int .i64 0, .slice none 0 0]) ?_ 3 _ rfl; (with_reducible repeat (first | refine blk_drewN ?_ _ | refine blk_drew ?_ | refine blk_alloc ?_ _)); refine blk_put (cs := #[.int .i64 0, .int .i64 0, .int .i64 x323002_4, .slice none 0 0]) ?_ 2 _ rfl; (with_reducible repeat (first | refine blk_drewN ?_ _ | refine blk_drew ?_ | refine blk_alloc ?_ _)); refine blk_put (cs := #[.int .i64 0, .int .i64 x323001_4, .int .i64 x323002_4, .slice none 0 0]) ?_ 1 _ rfl; (with_reducible repeat (first | refine blk_drewN ?_ _ | refine blk_drew ?_ | refine blk_alloc ?_ _)); refine blk_put (cs := #[.int .i64 x323000_4, .int .i64 x323001_4, .int .i64 x323002_4, .slice none 0 0]) ?_ 0 _ rfl; (with_reducible repeat (first | refine blk_drewN ?_ _ | refine blk_drew ?_ | refine blk_alloc ?_ _)); exact BK322.out) Try.underlying26 rfl (by kernel_rfl)) rfl ?_; exact ⟨_, q179_, q116_, q38_⟩
                        ·rw [if_neg c100] at H
                         have c100b0 : decide (t323 < x20_5) = false := decide_eq_false c100; clear c100; obtain ⟨ji105, hji105⟩ : ∃ j_ : Int, (wrap64 ((wrap64 (x18_3 * t342)) + x19_4)) = j_ := ⟨_, rfl⟩; replace H : (if 0 ≤ (ji105) then (if (ji105) < (x350003_4.length : Int) then (tilefarmref13_Tile.l2 k5 l2 l3 a4 t323 x18_3 (wrap64 (x19_4 + 1)) a0_0 a0_1 a0_2 l0_3 a1_0 a1_1 a1_2 a1_3 t342 t343 t344 (x350003_4.set ((ji105) : Int).toNat x20_5)) else (none)) else (none)) = some (r1, r2, r3, r4, r5) := by first | (rw [hji105] at H; exact H) | (simp only [hji105] at H ⊢; exact H)
                         have hji105w : (IntKind.i64.wrap ((wrap64 (x18_3 * t342)) + x19_4)) = ji105 := (i64_w _).trans hji105
                         by_cases c106 : 0 ≤ (ji105)
                         ·rw [if_pos c106] at H
                          have c106b0 : decide (0 ≤ (ji105)) = true := decide_eq_true c106; clear c106
                          by_cases c107 : (ji105) < (x350003_4.length : Int)
                          ·rw [if_pos c107] at H
                           have c107b0 : decide ((ji105) < (x350003_4.length : Int)) = true := decide_eq_true c107; clear c107; obtain ⟨y352, hy352⟩ : ∃ y_ : List Int, y_ = (x350003_4.set ((ji105) : Int).toNat x20_5) := ⟨_, rfl⟩; replace H : (tilefarmref13_Tile.l2 k5 l2 l3 a4 t323 x18_3 (wrap64 (x19_4 + 1)) a0_0 a0_1 a0_2 l0_3 a1_0 a1_1 a1_2 a1_3 t342 t343 t344 y352) = some (r1, r2, r3, r4, r5) := by first | (rw [hy352]; with_reducible exact H) | (have H2_ := (Option.bind_some _ _).symm.trans H; rw [hy352]; with_reducible exact H2_) | (have H2_ := (Option.bind_some _ _).symm.trans H; with_reducible exact H2_) | with_reducible exact H | (rw [hy352]; exact H) | exact H
                           have Ny352 := am_ hy352; clear hy352; have H' := am_ H; clear H; have hnb109 := NB349_320.out; have hnc109 := NB320_349.out; have hnb110 := NB349_321.out; have hnc110 := NB321_349.out; have hnb111 := NB349_322.out; have hnc111 := NB322_349.out; have hcz112_0 : wr.cell? ⟨gb349, 0, none⟩ = some (.int .i64 t342) := (blk_cell BK349.out 0).trans rfl; have hcz112_1 : wr.cell? ⟨gb349, 1, none⟩ = some (.int .i64 t343) := (blk_cell BK349.out 1).trans rfl; have hcz112_2 : wr.cell? ⟨gb349, 2, none⟩ = some (.int .i64 t344) := (blk_cell BK349.out 2).trans rfl; have hcz112_3 : wr.cell? ⟨gb349, 3, none⟩ = some (u350003) := (blk_cell BK349.out 3).trans rfl; have hfz112_0 := blk_frozen BK349.out 0; have hfz112_1 := blk_frozen BK349.out 1; have hfz112_2 := blk_frozen BK349.out 2; have hfz112_3 := blk_frozen BK349.out 3; have p108 : 0 ≤ ((ji105) : Int) := of_decide_eq_true q183_; have q108 : ((ji105) : Int) < ((x350003_4.length : Int) : Int) := of_decide_eq_true q183_; obtain ⟨go108, co108, eo108, gb108, gl108, cl108, HG108⟩ := Kd.R_form HO_350003.out (by omega); (first | cases eo108 | (injection eo108 with ea_ en_ ec_; (first | subst ea_ | (injection ea_ with ea_; subst ea_)); subst ec_; clear en_)); have GB108 := am_ gb108; have GG108 := am_ HG108; clear gb108 gl108 HG108; obtain ⟨hx108_0, hf108_0⟩ := Kd.R_celln 0 HO_350003.out ((ji105) : Int) p108 q108; replace p108 := eq_true p108; replace q108 := eq_true q108; have HP113 := Kd.R_putg HO_350003.out ((ji105) : Int) x20_5
                           go_wp2_with (first | ((with_reducible refine gate_store (t := 3) (p := 166) rfl ?_); refine store_event (t := 3) (p := 166) (v := ?vo_w114) (w1 := (wr.setCell ⟨go108, ((ji105) : Int).toNat, none⟩ (.int .i64 x20_5))) ?hg ?ho ?hn ?hr ?_; (case ho => rfl); (case hg => rfl); (case hn => rfl); (case hr => first | (go_simp; done) | (go_simp; rfl)); intro w114 hw; have hg : wr.grownBy w114 (some go108) := (by rw [hw]; exact HP113.2); have hp_ : Kd.R (Kd.int .i64) 3 w114 w.heap.size (fun _ => True) (.slice (some ⟨go108, 0, none⟩) x350003_4.length co108) y352 := (by rw [hw, Ny352.out]; exact HP113.1); clear HP113; have n0_ := am_ (hp_); have n1_ := am_ (blk_grown (g := gb320) (o := .cells #[.int .i64 a0_0, .int .i64 a0_1, .int .i64 a0_2, .slice A0_3 l0_3.length c0_3] 26 (0, 0)) q154_ hg (Kd.R_ne HO_350003.out BK320.out (by decide))); have n2_ := am_ (blk_grown (g := gb321) (o := .cells #[.int .i64 a1_0, .int .i64 a1_1, .int .i64 a1_2, .int .i64 a1_3] 32 (0, 0)) q155_ hg (Kd.R_ne HO_350003.out BK321.out (by decide))); have n3_ := am_ (blk_grown (g := gb322) (o := .cells #[.int .i64 x323000_4, .int .i64 x323001_4, .int .i64 x323002_4, .slice none 0 0] 26 (0, 0)) q156_ hg (Kd.R_ne HO_350003.out BK322.out (by decide))); have n4_ := am_ (blk_grown (g := gb349) (o := .cells #[.int .i64 t342, .int .i64 t343, .int .i64 t344, .slice (some ⟨go108, 0, none⟩) x350003_4.length co108] 26 (0, 0)) q157_ hg (Kd.R_ne HO_350003.out BK349.out (by decide))); have n5_ := am_ ((by rw [hw]; exact below_set (HB.out) GB108.out : Below w.heap.size w w114)); clear HO_350003 BK320 BK321 BK322 BK349 HB; have HO_350003 := n0_; have BK320 := n1_; have BK321 := n2_; have BK322 := n3_; have BK349 := n4_; have HB := n5_; clear n0_ n1_ n2_ n3_ n4_ n5_; clear hg hw hp_))
                           go_roundg k5
                           case measure => have := HJ7.out; have := HK2.out; have := HK3.out; have := HK4.out; have := HK5.out; omega
                           case rel => exact ⟨(wrap64 (x19_4 + 1)), (x323000_4), (x323001_4), (x323002_4), (y352), (.slice (some ⟨go108, 0, none⟩) x350003_4.length co108), q184_, (by first | exact H' | ((try (rw [hji85])); (try (rw [hji105])); exact H')), ⟨by have := HJ7.out; have := HK2.out; have := HK3.out; have := HK4.out; have := HK5.out; omega⟩, ⟨q164_⟩, ⟨q154_⟩, ⟨q155_⟩, ⟨q156_⟩, ⟨q157_⟩, ⟨q38_⟩⟩
                          ·rw [if_neg c107] at H
                           exact absurd H (by simp)
                         ·rw [if_neg c106] at H
                          exact absurd H (by simp)
                   ·rw [if_neg c77] at H
                    exact absurd H (by simp)
                  ·rw [if_neg c76] at H
                   exact absurd H (by simp)
                 ·rw [if_neg c75] at H
                  exact absurd H (by simp)
                ·rw [if_neg c74] at H
                 exact absurd H (by simp)
               ·rw [if_neg c73] at H
                have c73b0 : decide (x19_4 < t342) = false := decide_eq_false c73; clear c73; have H' := am_ H; clear H; have hnb115 := NB349_320.out; have hnc115 := NB320_349.out; have hnb116 := NB349_321.out; have hnc116 := NB321_349.out; have hnb117 := NB349_322.out; have hnc117 := NB322_349.out; have hcz118_0 : wr.cell? ⟨gb349, 0, none⟩ = some (.int .i64 t342) := (blk_cell BK349.out 0).trans rfl; have hcz118_1 : wr.cell? ⟨gb349, 1, none⟩ = some (.int .i64 t343) := (blk_cell BK349.out 1).trans rfl; have hcz118_2 : wr.cell? ⟨gb349, 2, none⟩ = some (.int .i64 t344) := (blk_cell BK349.out 2).trans rfl; have hcz118_3 : wr.cell? ⟨gb349, 3, none⟩ = some (u350003) := (blk_cell BK349.out 3).trans rfl; have hfz118_0 := blk_frozen BK349.out 0; have hfz118_1 := blk_frozen BK349.out 1; have hfz118_2 := blk_frozen BK349.out 2; have hfz118_3 := blk_frozen BK349.out 3
                go_wp2
                go_roundg k4
                case measure => have := HJ7.out; have := HK2.out; have := HK3.out; have := HK4.out; omega
                case rel => exact ⟨(wrap64 (x18_3 + 1)), (x323000_4), (x323001_4), (x323002_4), (x350003_4), (u350003), q184_, (by first | exact H' | ((try (rw [hji85])); (try (rw [hji105])); exact H')), ⟨by have := HJ7.out; have := HK2.out; have := HK3.out; have := HK4.out; omega⟩, ⟨q164_⟩, ⟨q154_⟩, ⟨q155_⟩, ⟨q156_⟩, ⟨q157_⟩, ⟨q38_⟩⟩
            ·rw [if_neg c68] at H
             have c68b0 : decide (x18_3 < t343) = false := decide_eq_false c68; clear c68; simp only [Option.some.injEq, Prod.mk.injEq] at H; obtain ⟨rfl, rfl, rfl, rfl, rfl⟩ := H; have hnb119 := NB349_320.out; have hnc119 := NB320_349.out; have hnb120 := NB349_321.out; have hnc120 := NB321_349.out; have hnb121 := NB349_322.out; have hnc121 := NB322_349.out; have hcz122_0 : wr.cell? ⟨gb349, 0, none⟩ = some (.int .i64 t342) := (blk_cell BK349.out 0).trans rfl; have hcz122_1 : wr.cell? ⟨gb349, 1, none⟩ = some (.int .i64 t343) := (blk_cell BK349.out 1).trans rfl; have hcz122_2 : wr.cell? ⟨gb349, 2, none⟩ = some (.int .i64 t344) := (blk_cell BK349.out 2).trans rfl; have hcz122_3 : wr.cell? ⟨gb349, 3, none⟩ = some (u350003) := (blk_cell BK349.out 3).trans rfl; have hfz122_0 := blk_frozen BK349.out 0; have hfz122_1 := blk_frozen BK349.out 1; have hfz122_2 := blk_frozen BK349.out 2; have hfz122_3 := blk_frozen BK349.out 3; have hnb123 := NB322_320.out; have hnc123 := NB320_322.out; have hnb124 := NB322_321.out; have hnc124 := NB321_322.out; have hcz125_0 : wr.cell? ⟨gb322, 0, none⟩ = some (.int .i64 x323000_3) := (blk_cell BK322.out 0).trans rfl; have hcz125_1 : wr.cell? ⟨gb322, 1, none⟩ = some (.int .i64 x323001_3) := (blk_cell BK322.out 1).trans rfl; have hcz125_2 : wr.cell? ⟨gb322, 2, none⟩ = some (.int .i64 x323002_3) := (blk_cell BK322.out 2).trans rfl; have hcz125_3 : wr.cell? ⟨gb322, 3, none⟩ = some (.slice none 0 0) := (blk_cell BK322.out 3).trans rfl; have hfz125_0 := blk_frozen BK322.out 0; have hfz125_1 := blk_frozen BK322.out 1; have hfz125_2 := blk_frozen BK322.out 2; have hfz125_3 := blk_frozen BK322.out 3; obtain ⟨Ao126, co126, eo126⟩ := Kd.R_slice HO_350003.out; subst eo126
             go_wp2
             refine bodyPost_ret (results_ct rfl _ _ gb322 26 #[.int .i64 t342, .int .i64 t343, .int .i64 t344, .slice Ao126 x350003_3.length co126] (0, 0) _ rfl (by (with_reducible repeat (first | refine blk_drewN ?_ _ | refine blk_drew ?_ | refine blk_alloc ?_ _)); refine blk_put (cs := #[.int .i64 t342, .int .i64 t343, .int .i64 t344, .slice none 0 0]) ?_ 3 _ rfl; (with_reducible repeat (first | refine blk_drewN ?_ _ | refine blk_drew ?_ | refine blk_alloc ?_ _)); refine blk_put (cs := #[.int .i64 t342, .int .i64 t343, .int .i64 x323002_3, .slice none 0 0]) ?_ 2 _ rfl; (with_reducible repeat (first | refine blk_drewN ?_ _ | refine blk_drew ?_ | refine blk_alloc ?_ _)); refine blk_put (cs := #[.int .i64 t342, .int .i64 x323001_3, .int .i64 x323002_3, .slice none 0 0]) ?_ 1 _ rfl; (with_reducible repeat (first | refine blk_drewN ?_ _ | refine blk_drew ?_ | refine blk_alloc ?_ _)); refine blk_put (cs := #[.int .i64 x323000_3, .int .i64 x323001_3, .int .i64 x323002_3, .slice none 0 0]) ?_ 0 _ rfl; (with_reducible repeat (first | refine blk_drewN ?_ _ | refine blk_drew ?_ | refine blk_alloc ?_ _)); exact BK322.out) Try.underlying26 rfl (by kernel_rfl)) rfl ?_; exact ⟨_, q179_, by (with_reducible repeat (first | apply Kd.R_alloc | apply Kd.R_drewN | apply Kd.R_drew)); exact Kd.R_mono (Kd.R_far (p := ⟨gb322, 3, none⟩) (Kd.R_far (p := ⟨gb322, 2, none⟩) (Kd.R_far (p := ⟨gb322, 1, none⟩) (Kd.R_far (p := ⟨gb322, 0, none⟩) (Kd.R_types HO_350003.out BK322.out (by decide)) (fun _ hk => hk.2) (.int .i64 t342)) (fun _ hk => hk.2) (.int .i64 t343)) (fun _ hk => hk.2) (.int .i64 t344)) (fun _ hk => hk.2) (.slice Ao126 x350003_3.length co126)) (fun _ hk => trivial), q38_⟩
      ·rw [if_neg c41] at H
       exact absurd H (by simp)
     ·rw [if_neg c40] at H
      exact absurd H (by simp)
 ·rw [if_neg c7] at H
  have c7b0 : (t324 == 0) = false := beq_eq_false_iff_ne.mpr c7; have c7b1 : (t324 != 0) = true := bne_iff_ne.mpr c7; simp only [Option.some.injEq, Prod.mk.injEq] at H; obtain ⟨rfl, rfl, rfl, rfl, rfl⟩ := H
  go_enter Try.func23, Try.ntmps23
  go_wp2_with (first | ((with_reducible refine gate_dst (N := 5) rfl ?_); (try (refine gate_guard (by rfl) ?_; dsimp only)); refine box_event ?hg (N := 5) ?hd (cs := #[.int .i64 a0_0, .int .i64 a0_1, .int .i64 a0_2, .slice A0_3 l0_3.length c0_3]) (t := 26) ?hr ?_; (case hd => rfl); (case hg => rfl); (case hr => first | (go_simp; done) | (go_simp; rfl)); intro gb320 hg w127 hbox hb; have n0_ := am_ (below_step q120_ hb); have n1_ := am_ (hbox); have n2_ := am_ ((q88_ : w.heap.size ≤ gb320)); have n3_ := am_ ((q88_ : w.heap.size ≤ gb320)); clear HB; have HB := n0_; have BK320 := n1_; have GW320 := n2_; have GE320 := n3_; clear n0_ n1_ n2_ n3_; clear hb hbox hg) | ((with_reducible refine gate_dst (N := 6) rfl ?_); (try (refine gate_guard (by rfl) ?_; dsimp only)); refine box_event ?hg (N := 6) ?hd (cs := #[.int .i64 a1_0, .int .i64 a1_1, .int .i64 a1_2, .int .i64 a1_3]) (t := 32) ?hr ?_; (case hd => rfl); (case hg => rfl); (case hr => first | (go_simp; done) | (go_simp; rfl)); intro gb321 hg w128 hbox hb; have n0_ := am_ (blk_below (g := gb320) (o := .cells #[.int .i64 a0_0, .int .i64 a0_1, .int .i64 a0_2, .slice A0_3 l0_3.length c0_3] 26 (0, 0)) q154_ hb); have n1_ := am_ (below_step q110_ hb); have n2_ := am_ (hbox); have n3_ := am_ ((q71_ : w.heap.size ≤ gb321)); have n4_ := am_ ((q71_ : w.heap.size ≤ gb321)); have n5_ := am_ ((q11_ : gb320 ≠ gb321)); have n6_ := am_ ((q12_ : gb321 ≠ gb320)); clear BK320 HB; have BK320 := n0_; have HB := n1_; have BK321 := n2_; have GW321 := n3_; have GE321 := n4_; have NB320_321 := n5_; have NB321_320 := n6_; clear n0_ n1_ n2_ n3_ n4_ n5_ n6_; clear hb hbox hg) | ((with_reducible refine gate_dst (N := 10) rfl ?_); (try (refine gate_guard (by rfl) ?_; dsimp only)); refine box_event ?hg (N := 10) ?hd (cs := #[.int .i64 0, .int .i64 0, .int .i64 0, .slice none 0 0]) (t := 26) ?hr ?_; (case hd => rfl); (case hg => rfl); (case hr => first | (go_simp; done) | (go_simp; rfl)); intro gb322 hg w129 hbox hb; have n0_ := am_ (blk_below (g := gb320) (o := .cells #[.int .i64 a0_0, .int .i64 a0_1, .int .i64 a0_2, .slice A0_3 l0_3.length c0_3] 26 (0, 0)) q154_ hb); have n1_ := am_ (blk_below (g := gb321) (o := .cells #[.int .i64 a1_0, .int .i64 a1_1, .int .i64 a1_2, .int .i64 a1_3] 32 (0, 0)) q155_ hb); have n2_ := am_ (below_step q80_ hb); have n3_ := am_ (hbox); have n4_ := am_ ((q51_ : w.heap.size ≤ gb322)); have n5_ := am_ ((q51_ : w.heap.size ≤ gb322)); have n6_ := am_ ((q11_ : gb320 ≠ gb322)); have n7_ := am_ ((q12_ : gb322 ≠ gb320)); have n8_ := am_ ((q31_ : gb321 ≠ gb322)); have n9_ := am_ ((q32_ : gb322 ≠ gb321)); clear BK320 BK321 HB; have BK320 := n0_; have BK321 := n1_; have HB := n2_; have BK322 := n3_; have GW322 := n4_; have GE322 := n5_; have NB320_322 := n6_; have NB322_320 := n7_; have NB321_322 := n8_; have NB322_321 := n9_; clear n0_ n1_ n2_ n3_ n4_ n5_ n6_ n7_ n8_ n9_; clear hb hbox hg; have hnb130 := NB320_321.out; have hnc130 := NB321_320.out; have hnb131 := NB320_322.out; have hnc131 := NB322_320.out; have hcz132_0 : w129.cell? ⟨gb320, 0, none⟩ = some (.int .i64 a0_0) := (blk_cell BK320.out 0).trans rfl; have hcz132_1 : w129.cell? ⟨gb320, 1, none⟩ = some (.int .i64 a0_1) := (blk_cell BK320.out 1).trans rfl; have hcz132_2 : w129.cell? ⟨gb320, 2, none⟩ = some (.int .i64 a0_2) := (blk_cell BK320.out 2).trans rfl; have hcz132_3 : w129.cell? ⟨gb320, 3, none⟩ = some (.slice A0_3 l0_3.length c0_3) := (blk_cell BK320.out 3).trans rfl; have hfz132_0 := blk_frozen BK320.out 0; have hfz132_1 := blk_frozen BK320.out 1; have hfz132_2 := blk_frozen BK320.out 2; have hfz132_3 := blk_frozen BK320.out 3) | ((with_reducible refine gate_callee (f := 37) rfl ?_); refine goesL_ (some 25) rfl rfl Try.func37 (by kernel_rfl) rfl #[.agg #[.int .i64 a0_0, .int .i64 a0_1, .int .i64 a0_2, .slice A0_3 l0_3.length c0_3]] rfl q117_ ?_; (with_reducible refine (tilefarmref13_check.calls k a0_0 a0_1 a0_2 _ _ l0_3 t323 t324 _ ?side1 ?side2 A6.out).mono ?_); (case side1 => repeat (first | exact (Kd.C_below HR0_3.out HB.out) | (with_reducible refine Kd.C_alloc ?_ _) | (with_reducible refine Kd.C_drewN ?_ _) | (with_reducible refine Kd.C_drew ?_))); (case side2 => exact HC0_3.out); rintro e w133 ⟨rfl, hb⟩; refine ⟨_, rfl, ?_⟩; have n0_ := am_ (blk_below (g := gb320) (o := .cells #[.int .i64 a0_0, .int .i64 a0_1, .int .i64 a0_2, .slice A0_3 l0_3.length c0_3] 26 (0, 0)) q154_ hb); have n1_ := am_ (blk_below (g := gb321) (o := .cells #[.int .i64 a1_0, .int .i64 a1_1, .int .i64 a1_2, .int .i64 a1_3] 32 (0, 0)) q155_ hb); have n2_ := am_ (blk_below (g := gb322) (o := .cells #[.int .i64 0, .int .i64 0, .int .i64 0, .slice none 0 0] 26 (0, 0)) q156_ hb); have n3_ := am_ (below_step q54_ hb); clear BK320 BK321 BK322 HB; have BK320 := n0_; have BK321 := n1_; have BK322 := n2_; have HB := n3_; clear n0_ n1_ n2_ n3_; (try clear hb); (try clear hb2); (try clear hk); (try clear hi); have hnb134 := NB322_321.out; have hnc134 := NB321_322.out; have hcz135_0 : w133.cell? ⟨gb322, 0, none⟩ = some (.int .i64 0) := (blk_cell BK322.out 0).trans rfl; have hcz135_1 : w133.cell? ⟨gb322, 1, none⟩ = some (.int .i64 0) := (blk_cell BK322.out 1).trans rfl; have hcz135_2 : w133.cell? ⟨gb322, 2, none⟩ = some (.int .i64 0) := (blk_cell BK322.out 2).trans rfl; have hcz135_3 : w133.cell? ⟨gb322, 3, none⟩ = some (.slice none 0 0) := (blk_cell BK322.out 3).trans rfl; have hfz135_0 := blk_frozen BK322.out 0; have hfz135_1 := blk_frozen BK322.out 1; have hfz135_2 := blk_frozen BK322.out 2; have hfz135_3 := blk_frozen BK322.out 3))
  refine bodyPost_ret (results_ct rfl _ _ gb322 26 #[.int .i64 0, .int .i64 0, .int .i64 0, .slice none 0 0] (0, 0) _ rfl (by (with_reducible repeat (first | refine blk_drewN ?_ _ | refine blk_drew ?_ | refine blk_alloc ?_ _)); refine blk_put (cs := #[.int .i64 0, .int .i64 0, .int .i64 0, .slice none 0 0]) ?_ 3 _ rfl; (with_reducible repeat (first | refine blk_drewN ?_ _ | refine blk_drew ?_ | refine blk_alloc ?_ _)); refine blk_put (cs := #[.int .i64 0, .int .i64 0, .int .i64 0, .slice none 0 0]) ?_ 2 _ rfl; (with_reducible repeat (first | refine blk_drewN ?_ _ | refine blk_drew ?_ | refine blk_alloc ?_ _)); refine blk_put (cs := #[.int .i64 0, .int .i64 0, .int .i64 0, .slice none 0 0]) ?_ 1 _ rfl; (with_reducible repeat (first | refine blk_drewN ?_ _ | refine blk_drew ?_ | refine blk_alloc ?_ _)); refine blk_put (cs := #[.int .i64 0, .int .i64 0, .int .i64 0, .slice none 0 0]) ?_ 0 _ rfl; (with_reducible repeat (first | refine blk_drewN ?_ _ | refine blk_drew ?_ | refine blk_alloc ?_ _)); exact BK322.out) Try.underlying26 rfl (by kernel_rfl)) rfl ?_; exact ⟨_, q179_, q116_, q54_⟩

end Go.Proofs.Ytkipnpgcpohlcaa.PIntegralTiles
