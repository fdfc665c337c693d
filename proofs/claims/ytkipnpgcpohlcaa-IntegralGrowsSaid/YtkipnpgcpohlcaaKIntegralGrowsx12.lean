-- Written by a program of the session (wip/tools/pack.py): the printed texts, pruned; checked by Lean.
import Derived.Test.YtkipnpgcpohlcaaKIntegralGrowsa
import Derived.Test.YtkipnpgcpohlcaaKIntegralGrowsx0
import Derived.Test.YtkipnpgcpohlcaaKIntegralGrowsx2
import Derived.Test.YtkipnpgcpohlcaaKIntegralGrowsx4
import Derived.Test.YtkipnpgcpohlcaaKIntegralGrowsx7
import Derived.Test.YtkipnpgcpohlcaaKIntegralGrowsx8
import Derived.Test.YtkipnpgcpohlcaaKIntegralGrowsx9
import Derived.Test.YtkipnpgcpohlcaaKIntegralGrowsx10
import Derived.Test.YtkipnpgcpohlcaaKIntegralGrowsx11
namespace Go.Proofs.Ytkipnpgcpohlcaa.PIntegralGrows
open Go.RowKit Go.Proofs.YtkipnpgcpohlcaaW.PrintWords Go.Proofs.YtkipnpgcpohlcaaW.PrintLast Go.Proofs.YtkipnpgcpohlcaaW.PrintMore
attribute [local go_sem] max2_int min2_int max_two min_two max_three min_three max_four min_four   -- for this text's walks alone
set_option linter.unusedVariables false
set_option linter.unusedSimpArgs false
mutual
def tilefarmlaw13_IntegralGrows.l0 : Nat → Int → Int → Int → Int → Int → Int → Int → Int → Int → List Int → Int → Int → Int → List Int → Int → Int → Int → List Int → Option (Bool)
 | 0, _, _, _, _, _, _, _, _, _, _, _, _, _, _, _, _, _, _ => none
 | k + 1, x5, x6, x8, x10, x11, x12, x319000, x319001, x319002, x319003, x327000, x327001, x327002, x327003, x331000, x331001, x331002, x331003 => if x12 < (wrap64 (x10 * x11)) then (tilefarmlaw13_IntegralGrows.j1 k x5 x6 x8 x10 x11 x12 (x8 == 0) x319000 x319001 x319002 x319003 x327000 x327001 x327002 x327003 x331000 x331001 x331002 x331003) else (tilefarmlaw13_IntegralGrows.j1 k x5 x6 x8 x10 x11 x12 false x319000 x319001 x319002 x319003 x327000 x327001 x327002 x327003 x331000 x331001 x331002 x331003)
def tilefarmlaw13_IntegralGrows.j1 : Nat → Int → Int → Int → Int → Int → Int → Bool → Int → Int → Int → List Int → Int → Int → Int → List Int → Int → Int → Int → List Int → Option (Bool)
 | 0, _, _, _, _, _, _, _, _, _, _, _, _, _, _, _, _, _, _, _ => none
 | k + 1, x5, x6, x8, x10, x11, x12, x69, x319000, x319001, x319002, x319003, x327000, x327001, x327002, x327003, x331000, x331001, x331002, x331003 => if x69 = true then ((grid_Tile.f k x319000 x319001 x5 x6 x12).bind fun bt335 => (tilefarmlaw13_IntegralGrows.l1 k x5 x6 x8 x10 x11 x12 ([] : List Int) bt335.2.1 x319000 x319001 x319002 x319003 x327000 x327001 x327002 x327003 x331000 x331001 x331002 x331003 bt335.1 bt335.2.1 bt335.2.2.1 bt335.2.2.2.1)) else (if x8 = 0 then ((tilefarmref4_Equal.f k x331000 x331001 x331002 x331003 x327000 x327001 x327002 x327003).bind fun t333 => (if t333 = true then ((tilefarmlaw13_sane.f k).bind fun t334 => (some t334)) else (some false))) else (some false))
def tilefarmlaw13_IntegralGrows.l1 : Nat → Int → Int → Int → Int → Int → Int → List Int → Int → Int → Int → Int → List Int → Int → Int → Int → List Int → Int → Int → Int → List Int → Int → Int → Int → Int → Option (Bool)
 | 0, _, _, _, _, _, _, _, _, _, _, _, _, _, _, _, _, _, _, _, _, _, _, _, _ => none
 | k + 1, x5, x6, x8, x10, x11, x12, x15, x17, x319000, x319001, x319002, x319003, x327000, x327001, x327002, x327003, x331000, x331001, x331002, x331003, x341000, x341001, x341002, x341003 => if x17 < x341003 then ((tilefarmlaw13_at.f x331000 x331001 x331002 x331003 (wrap64 (x341000 - 1)) x17).bind fun t341 => (if x15.length < 17592186044416 then (tilefarmlaw13_IntegralGrows.l1 k x5 x6 x8 x10 x11 x12 (x15 ++ [t341]) (wrap64 (x17 + 1)) x319000 x319001 x319002 x319003 x327000 x327001 x327002 x327003 x331000 x331001 x331002 x331003 x341000 x341001 x341002 x341003) else (none))) else (tilefarmlaw13_IntegralGrows.l2 k x5 x6 x8 x10 x11 x12 x15 ([] : List Int) x341000 x319000 x319001 x319002 x319003 x327000 x327001 x327002 x327003 x331000 x331001 x331002 x331003 x341000 x341001 x341002 x341003)
def tilefarmlaw13_IntegralGrows.l2 : Nat → Int → Int → Int → Int → Int → Int → List Int → List Int → Int → Int → Int → Int → List Int → Int → Int → Int → List Int → Int → Int → Int → List Int → Int → Int → Int → Int → Option (Bool)
 | 0, _, _, _, _, _, _, _, _, _, _, _, _, _, _, _, _, _, _, _, _, _, _, _, _, _ => none
 | k + 1, x5, x6, x8, x10, x11, x12, x15, x16, x18, x319000, x319001, x319002, x319003, x327000, x327001, x327002, x327003, x331000, x331001, x331002, x331003, x341000, x341001, x341002, x341003 => if x18 < x341002 then ((tilefarmlaw13_at.f x331000 x331001 x331002 x331003 x18 (wrap64 (x341001 - 1))).bind fun t345 => (if x16.length < 17592186044416 then (tilefarmlaw13_IntegralGrows.l2 k x5 x6 x8 x10 x11 x12 x15 (x16 ++ [t345]) (wrap64 (x18 + 1)) x319000 x319001 x319002 x319003 x327000 x327001 x327002 x327003 x331000 x331001 x331002 x331003 x341000 x341001 x341002 x341003) else (none))) else ((tilefarmlaw13_at.f x331000 x331001 x331002 x331003 (wrap64 (x341000 - 1)) (wrap64 (x341001 - 1))).bind fun t349 => ((integral_Tile.f k x319000 x319001 x319002 x319003 x341000 x341001 x341002 x341003 x15 x16 t349).bind fun bt350 => ((plane_Blit.f k x331000 x331001 x331002 x331003 bt350.1 bt350.2.1 bt350.2.2.1 bt350.2.2.2.1 x341000 x341001).bind fun bt358 => (if bt350.2.2.2.2 = 0 then (if bt358.2.2.2.2 = true then (tilefarmlaw13_IntegralGrows.l0 k x5 x6 x8 x10 x11 (wrap64 (x12 + 1)) x319000 x319001 x319002 x319003 x327000 x327001 x327002 x327003 bt358.1 bt358.2.1 bt358.2.2.1 bt358.2.2.2.1) else (some false)) else (some false)))))
end
def tilefarmlaw13_IntegralGrows.f (k : Nat) (l0 : List Int) : Option (Bool) := (tilefarmgen_New.f l0).bind fun bt304 => ((tilefarmgen_Tape_Plane.f k bt304.1 bt304.2).bind fun bt307 => ((tilefarmgen_Tape_Next.f bt304.1 bt307.2.2.2.2 3).bind fun bt314 => ((tilefarmgen_Tape_Next.f bt304.1 bt314.2 3).bind fun bt316 => ((integral_Whole.f k bt307.1 bt307.2.1 bt307.2.2.1 bt307.2.2.2.1).bind fun bt319 => (if 0 ≤ (wrap64 (bt307.1 * bt307.2.1)) then (if (wrap64 (bt307.1 * bt307.2.1) : Int).toNat ≤ 35184372088832 then ((grid_Count.f k bt307.1 bt307.2.1 (wrap64 (1 + bt314.1)) (wrap64 (1 + bt316.1))).bind fun bt331 => (tilefarmlaw13_IntegralGrows.l0 k (wrap64 (1 + bt314.1)) (wrap64 (1 + bt316.1)) bt319.2.2.2.2 bt331.1 bt331.2 0 bt307.1 bt307.2.1 bt307.2.2.1 bt307.2.2.2.1 bt319.1 bt319.2.1 bt319.2.2.1 bt319.2.2.2.1 bt307.1 bt307.2.1 bt319.2.2.1 (List.replicate (wrap64 (bt307.1 * bt307.2.1) : Int).toNat 0))) else (none)) else (none))))))
theorem tilefarmlaw13_IntegralGrows.mono_l : ∀ k, (∀ y0 y1 y2 y3 y4 y5 y6 y7 y8 y9 y10 y11 y12 y13 y14 y15 y16 y17, LeO (tilefarmlaw13_IntegralGrows.l0 k y0 y1 y2 y3 y4 y5 y6 y7 y8 y9 y10 y11 y12 y13 y14 y15 y16 y17) (tilefarmlaw13_IntegralGrows.l0 (k + 1) y0 y1 y2 y3 y4 y5 y6 y7 y8 y9 y10 y11 y12 y13 y14 y15 y16 y17)) ∧ (∀ y0 y1 y2 y3 y4 y5 y6 y7 y8 y9 y10 y11 y12 y13 y14 y15 y16 y17 y18, LeO (tilefarmlaw13_IntegralGrows.j1 k y0 y1 y2 y3 y4 y5 y6 y7 y8 y9 y10 y11 y12 y13 y14 y15 y16 y17 y18) (tilefarmlaw13_IntegralGrows.j1 (k + 1) y0 y1 y2 y3 y4 y5 y6 y7 y8 y9 y10 y11 y12 y13 y14 y15 y16 y17 y18)) ∧ (∀ y0 y1 y2 y3 y4 y5 y6 y7 y8 y9 y10 y11 y12 y13 y14 y15 y16 y17 y18 y19 y20 y21 y22 y23, LeO (tilefarmlaw13_IntegralGrows.l1 k y0 y1 y2 y3 y4 y5 y6 y7 y8 y9 y10 y11 y12 y13 y14 y15 y16 y17 y18 y19 y20 y21 y22 y23) (tilefarmlaw13_IntegralGrows.l1 (k + 1) y0 y1 y2 y3 y4 y5 y6 y7 y8 y9 y10 y11 y12 y13 y14 y15 y16 y17 y18 y19 y20 y21 y22 y23)) ∧ (∀ y0 y1 y2 y3 y4 y5 y6 y7 y8 y9 y10 y11 y12 y13 y14 y15 y16 y17 y18 y19 y20 y21 y22 y23 y24, LeO (tilefarmlaw13_IntegralGrows.l2 k y0 y1 y2 y3 y4 y5 y6 y7 y8 y9 y10 y11 y12 y13 y14 y15 y16 y17 y18 y19 y20 y21 y22 y23 y24) (tilefarmlaw13_IntegralGrows.l2 (k + 1) y0 y1 y2 y3 y4 y5 y6 y7 y8 y9 y10 y11 y12 y13 y14 y15 y16 y17 y18 y19 y20 y21 y22 y23 y24))
 | 0 => ⟨fun _ _ _ _ _ _ _ _ _ _ _ _ _ _ _ _ _ _ r h => by simp [tilefarmlaw13_IntegralGrows.l0] at h, fun _ _ _ _ _ _ _ _ _ _ _ _ _ _ _ _ _ _ _ r h => by simp [tilefarmlaw13_IntegralGrows.j1] at h, fun _ _ _ _ _ _ _ _ _ _ _ _ _ _ _ _ _ _ _ _ _ _ _ _ r h => by simp [tilefarmlaw13_IntegralGrows.l1] at h, fun _ _ _ _ _ _ _ _ _ _ _ _ _ _ _ _ _ _ _ _ _ _ _ _ _ r h => by simp [tilefarmlaw13_IntegralGrows.l2] at h⟩
 | k + 1 => by
  obtain ⟨ih0, ih1, ih2, ih3⟩ := tilefarmlaw13_IntegralGrows.mono_l k
  refine ⟨?_, ?_, ?_, ?_⟩
  ·intro y0 y1 y2 y3 y4 y5 y6 y7 y8 y9 y10 y11 y12 y13 y14 y15 y16 y17
   unfold tilefarmlaw13_IntegralGrows.l0
   repeat' first
   | (with_reducible exact ih0 _ _ _ _ _ _ _ _ _ _ _ _ _ _ _ _ _ _)
   | (with_reducible exact ih1 _ _ _ _ _ _ _ _ _ _ _ _ _ _ _ _ _ _ _)
   | (with_reducible exact ih2 _ _ _ _ _ _ _ _ _ _ _ _ _ _ _ _ _ _ _ _ _ _ _ _)
   | (with_reducible exact ih3 _ _ _ _ _ _ _ _ _ _ _ _ _ _ _ _ _ _ _ _ _ _ _ _ _)
   | (with_reducible exact grid_Count.mono _ _ _ _ _)
   | (with_reducible exact grid_Tile.mono _ _ _ _ _ _)
   | (with_reducible exact integral_Tile.mono _ _ _ _ _ _ _ _ _ _ _ _)
   | (with_reducible exact integral_Whole.mono _ _ _ _ _)
   | (with_reducible exact plane_Blit.mono _ _ _ _ _ _ _ _ _ _ _)
   | (with_reducible exact tilefarmgen_Tape_Plane.mono _ _ _)
   | (with_reducible exact tilefarmlaw13_sane.mono _)
   | (with_reducible exact tilefarmref4_Equal.mono _ _ _ _ _ _ _ _ _)
   | (with_reducible exact LeO.refl _)
   | (with_reducible exact LeO.none _)
   | (with_reducible refine LeO.ite ?_ ?_)
   | (with_reducible refine LeO.bind ?_ (fun _ => ?_))
   | exact ih0 _ _ _ _ _ _ _ _ _ _ _ _ _ _ _ _ _ _
   | exact ih1 _ _ _ _ _ _ _ _ _ _ _ _ _ _ _ _ _ _ _
   | exact ih2 _ _ _ _ _ _ _ _ _ _ _ _ _ _ _ _ _ _ _ _ _ _ _ _
   | exact ih3 _ _ _ _ _ _ _ _ _ _ _ _ _ _ _ _ _ _ _ _ _ _ _ _ _
   | exact grid_Count.mono _ _ _ _ _
   | exact grid_Tile.mono _ _ _ _ _ _
   | exact integral_Tile.mono _ _ _ _ _ _ _ _ _ _ _ _
   | exact integral_Whole.mono _ _ _ _ _
   | exact plane_Blit.mono _ _ _ _ _ _ _ _ _ _ _
   | exact tilefarmgen_Tape_Plane.mono _ _ _
   | exact tilefarmlaw13_sane.mono _
   | exact tilefarmref4_Equal.mono _ _ _ _ _ _ _ _ _
   | exact LeO.none _
   | refine LeO.ite ?_ ?_
   | refine LeO.bind ?_ (fun _ => ?_)
  ·intro y0 y1 y2 y3 y4 y5 y6 y7 y8 y9 y10 y11 y12 y13 y14 y15 y16 y17 y18
   unfold tilefarmlaw13_IntegralGrows.j1
   repeat' first
   | (with_reducible exact ih0 _ _ _ _ _ _ _ _ _ _ _ _ _ _ _ _ _ _)
   | (with_reducible exact ih1 _ _ _ _ _ _ _ _ _ _ _ _ _ _ _ _ _ _ _)
   | (with_reducible exact ih2 _ _ _ _ _ _ _ _ _ _ _ _ _ _ _ _ _ _ _ _ _ _ _ _)
   | (with_reducible exact ih3 _ _ _ _ _ _ _ _ _ _ _ _ _ _ _ _ _ _ _ _ _ _ _ _ _)
   | (with_reducible exact grid_Count.mono _ _ _ _ _)
   | (with_reducible exact grid_Tile.mono _ _ _ _ _ _)
   | (with_reducible exact integral_Tile.mono _ _ _ _ _ _ _ _ _ _ _ _)
   | (with_reducible exact integral_Whole.mono _ _ _ _ _)
   | (with_reducible exact plane_Blit.mono _ _ _ _ _ _ _ _ _ _ _)
   | (with_reducible exact tilefarmgen_Tape_Plane.mono _ _ _)
   | (with_reducible exact tilefarmlaw13_sane.mono _)
   | (with_reducible exact tilefarmref4_Equal.mono _ _ _ _ _ _ _ _ _)
   | (with_reducible exact LeO.refl _)
   | (with_reducible exact LeO.none _)
   | (with_reducible refine LeO.ite ?_ ?_)
   | (with_reducible refine LeO.bind ?_ (fun _ => ?_))
   | exact ih0 _ _ _ _ _ _ _ _ _ _ _ _ _ _ _ _ _ _
   | exact ih1 _ _ _ _ _ _ _ _ _ _ _ _ _ _ _ _ _ _ _
   | exact ih2 _ _ _ _ _ _ _ _ _ _ _ _ _ _ _ _ _ _ _ _ _ _ _ _
   | exact ih3 _ _ _ _ _ _ _ _ _ _ _ _ _ _ _ _ _ _ _ _ _ _ _ _ _
   | exact grid_Count.mono _ _ _ _ _
   | exact grid_Tile.mono _ _ _ _ _ _
   | exact integral_Tile.mono _ _ _ _ _ _ _ _ _ _ _ _
   | exact integral_Whole.mono _ _ _ _ _
   | exact plane_Blit.mono _ _ _ _ _ _ _ _ _ _ _
   | exact tilefarmgen_Tape_Plane.mono _ _ _
   | exact tilefarmlaw13_sane.mono _
   | exact tilefarmref4_Equal.mono _ _ _ _ _ _ _ _ _
   | exact LeO.none _
   | refine LeO.ite ?_ ?_
   | refine LeO.bind ?_ (fun _ => ?_)
  ·intro y0 y1 y2 y3 y4 y5 y6 y7 y8 y9 y10 y11 y12 y13 y14 y15 y16 y17 y18 y19 y20 y21 y22 y23
   unfold tilefarmlaw13_IntegralGrows.l1
   repeat' first
   | (with_reducible exact ih0 _ _ _ _ _ _ _ _ _ _ _ _ _ _ _ _ _ _)
   | (with_reducible exact ih1 _ _ _ _ _ _ _ _ _ _ _ _ _ _ _ _ _ _ _)
   | (with_reducible exact ih2 _ _ _ _ _ _ _ _ _ _ _ _ _ _ _ _ _ _ _ _ _ _ _ _)
   | (with_reducible exact ih3 _ _ _ _ _ _ _ _ _ _ _ _ _ _ _ _ _ _ _ _ _ _ _ _ _)
   | (with_reducible exact grid_Count.mono _ _ _ _ _)
   | (with_reducible exact grid_Tile.mono _ _ _ _ _ _)
   | (with_reducible exact integral_Tile.mono _ _ _ _ _ _ _ _ _ _ _ _)
   | (with_reducible exact integral_Whole.mono _ _ _ _ _)
   | (with_reducible exact plane_Blit.mono _ _ _ _ _ _ _ _ _ _ _)
   | (with_reducible exact tilefarmgen_Tape_Plane.mono _ _ _)
   | (with_reducible exact tilefarmlaw13_sane.mono _)
   | (with_reducible exact tilefarmref4_Equal.mono _ _ _ _ _ _ _ _ _)
   | (with_reducible exact LeO.refl _)
   | (with_reducible exact LeO.none _)
   | (with_reducible refine LeO.ite ?_ ?_)
   | (with_reducible refine LeO.bind ?_ (fun _ => ?_))
   | exact ih0 _ _ _ _ _ _ _ _ _ _ _ _ _ _ _ _ _ _
   | exact ih1 _ _ _ _ _ _ _ _ _ _ _ _ _ _ _ _ _ _ _
   | exact ih2 _ _ _ _ _ _ _ _ _ _ _ _ _ _ _ _ _ _ _ _ _ _ _ _
   | exact ih3 _ _ _ _ _ _ _ _ _ _ _ _ _ _ _ _ _ _ _ _ _ _ _ _ _
   | exact grid_Count.mono _ _ _ _ _
   | exact grid_Tile.mono _ _ _ _ _ _
   | exact integral_Tile.mono _ _ _ _ _ _ _ _ _ _ _ _
   | exact integral_Whole.mono _ _ _ _ _
   | exact plane_Blit.mono _ _ _ _ _ _ _ _ _ _ _
   | exact tilefarmgen_Tape_Plane.mono _ _ _
   | exact tilefarmlaw13_sane.mono _
   | exact tilefarmref4_Equal.mono _ _ _ _ _ _ _ _ _
   | exact LeO.none _
   | refine LeO.ite ?_ ?_
   | refine LeO.bind ?_ (fun _ => ?_)
  ·intro y0 y1 y2 y3 y4 y5 y6 y7 y8 y9 y10 y11 y12 y13 y14 y15 y16 y17 y18 y19 y20 y21 y22 y23 y24
   unfold tilefarmlaw13_IntegralGrows.l2
   repeat' first
   | (with_reducible exact ih0 _ _ _ _ _ _ _ _ _ _ _ _ _ _ _ _ _ _)
   | (with_reducible exact ih1 _ _ _ _ _ _ _ _ _ _ _ _ _ _ _ _ _ _ _)
   | (with_reducible exact ih2 _ _ _ _ _ _ _ _ _ _ _ _ _ _ _ _ _ _ _ _ _ _ _ _)
   | (with_reducible exact ih3 _ _ _ _ _ _ _ _ _ _ _ _ _ _ _ _ _ _ _ _ _ _ _ _ _)
   | (with_reducible exact grid_Count.mono _ _ _ _ _)
   | (with_reducible exact grid_Tile.mono _ _ _ _ _ _)
   | (with_reducible exact integral_Tile.mono _ _ _ _ _ _ _ _ _ _ _ _)
   | (with_reducible exact integral_Whole.mono _ _ _ _ _)
   | (with_reducible exact plane_Blit.mono _ _ _ _ _ _ _ _ _ _ _)
   | (with_reducible exact tilefarmgen_Tape_Plane.mono _ _ _)
   | (with_reducible exact tilefarmlaw13_sane.mono _)
   | (with_reducible exact tilefarmref4_Equal.mono _ _ _ _ _ _ _ _ _)
   | (with_reducible exact LeO.refl _)
   | (with_reducible exact LeO.none _)
   | (with_reducible refine LeO.ite ?_ ?_)
   | (with_reducible refine LeO.bind ?_ (fun _ => ?_))
   | exact ih0 _ _ _ _ _ _ _ _ _ _ _ _ _ _ _ _ _ _
   | exact ih1 _ _ _ _ _ _ _ _ _ _ _ _ _ _ _ _ _ _ _
   | exact ih2 _ _ _ _ _ _ _ _ _ _ _ _ _ _ _ _ _ _ _ _ _ _ _ _
   | exact ih3 _ _ _ _ _ _ _ _ _ _ _ _ _ _ _ _ _ _ _ _ _ _ _ _ _
   | exact grid_Count.mono _ _ _ _ _
   | exact grid_Tile.mono _ _ _ _ _ _
   | exact integral_Tile.mono _ _ _ _ _ _ _ _ _ _ _ _
   | exact integral_Whole.mono _ _ _ _ _
   | exact plane_Blit.mono _ _ _ _ _ _ _ _ _ _ _
   | exact tilefarmgen_Tape_Plane.mono _ _ _
   | exact tilefarmlaw13_sane.mono _
   | exact tilefarmref4_Equal.mono _ _ _ _ _ _ _ _ _
   | exact LeO.none _
   | refine LeO.ite ?_ ?_
   | refine LeO.bind ?_ (fun _ => ?_)
theorem tilefarmlaw13_IntegralGrows.mono : ∀ a0 k, LeO (tilefarmlaw13_IntegralGrows.f k a0) (tilefarmlaw13_IntegralGrows.f (k + 1) a0) := by
 intro a0 k
 obtain ⟨ih0, ih1, ih2, ih3⟩ := tilefarmlaw13_IntegralGrows.mono_l k
 unfold tilefarmlaw13_IntegralGrows.f
 repeat' first
   | (with_reducible exact ih0 _ _ _ _ _ _ _ _ _ _ _ _ _ _ _ _ _ _)
   | (with_reducible exact ih1 _ _ _ _ _ _ _ _ _ _ _ _ _ _ _ _ _ _ _)
   | (with_reducible exact ih2 _ _ _ _ _ _ _ _ _ _ _ _ _ _ _ _ _ _ _ _ _ _ _ _)
   | (with_reducible exact ih3 _ _ _ _ _ _ _ _ _ _ _ _ _ _ _ _ _ _ _ _ _ _ _ _ _)
   | (with_reducible exact grid_Count.mono _ _ _ _ _)
   | (with_reducible exact grid_Tile.mono _ _ _ _ _ _)
   | (with_reducible exact integral_Tile.mono _ _ _ _ _ _ _ _ _ _ _ _)
   | (with_reducible exact integral_Whole.mono _ _ _ _ _)
   | (with_reducible exact plane_Blit.mono _ _ _ _ _ _ _ _ _ _ _)
   | (with_reducible exact tilefarmgen_Tape_Plane.mono _ _ _)
   | (with_reducible exact tilefarmlaw13_sane.mono _)
   | (with_reducible exact tilefarmref4_Equal.mono _ _ _ _ _ _ _ _ _)
   | (with_reducible exact LeO.refl _)
   | (with_reducible exact LeO.none _)
   | (with_reducible refine LeO.ite ?_ ?_)
   | (with_reducible refine LeO.bind ?_ (fun _ => ?_))
   | exact ih0 _ _ _ _ _ _ _ _ _ _ _ _ _ _ _ _ _ _
   | exact ih1 _ _ _ _ _ _ _ _ _ _ _ _ _ _ _ _ _ _ _
   | exact ih2 _ _ _ _ _ _ _ _ _ _ _ _ _ _ _ _ _ _ _ _ _ _ _ _
   | exact ih3 _ _ _ _ _ _ _ _ _ _ _ _ _ _ _ _ _ _ _ _ _ _ _ _ _
   | exact grid_Count.mono _ _ _ _ _
   | exact grid_Tile.mono _ _ _ _ _ _
   | exact integral_Tile.mono _ _ _ _ _ _ _ _ _ _ _ _
   | exact integral_Whole.mono _ _ _ _ _
   | exact plane_Blit.mono _ _ _ _ _ _ _ _ _ _ _
   | exact tilefarmgen_Tape_Plane.mono _ _ _
   | exact tilefarmlaw13_sane.mono _
   | exact tilefarmref4_Equal.mono _ _ _ _ _ _ _ _ _
   | exact LeO.none _
   | refine LeO.ite ?_ ?_
   | refine LeO.bind ?_ (fun _ => ?_)
def tilefarmlaw13_IntegralGrows.T4 : Bool × List (List Nat × List Nat) := (true, [([], []), ([0], [0]), ([], []), ([2], [2]), ([], []), ([4], [4]), ([], []), ([6], [6]), ([], []), ([8], [8]), ([7, 9], [7, 9]), ([10, 10], [10]), ([1, 3, 5, 11], [1, 3, 5, 11]), ([], []), ([13, 12, 0, 1, 2, 3, 4, 5, 6, 7, 8, 9, 10, 11, 12, 13], [12, 13])])
def tilefarmlaw13_IntegralGrows.B4 : List Nat := [0, 1, 0, 4, 0, 16, 0, 64, 0, 256, 960, 1984, 4095, 0, 16383]
theorem tilefarmlaw13_IntegralGrows.tab4 : rtab .any (opsOf Try.f7 4) = tilefarmlaw13_IntegralGrows.T4 := by kernel_rfl
theorem tilefarmlaw13_IntegralGrows.bits4 : waitsOk tilefarmlaw13_IntegralGrows.T4.2 tilefarmlaw13_IntegralGrows.B4 = true := by kernel_rfl
def tilefarmlaw13_IntegralGrows.T19 : Bool × List (List Nat × List Nat) := (true, [([], []), ([], []), ([], []), ([], []), ([], []), ([], []), ([5], [5]), ([6], [6]), ([], []), ([8], [8]), ([9], [9]), ([4, 7, 10], [4, 7, 10]), ([0, 1, 2, 3, 11, 11], [0, 1, 2, 3, 11]), ([12], [12]), ([13], [13]), ([13], [13]), ([], []), ([16, 14, 12, 0, 1, 2, 3, 4, 5, 6, 7, 8, 9, 10, 11, 12, 13, 14, 16], [14, 16]), ([15, 17, 0, 1, 2, 3, 4, 5, 6, 7, 8, 9, 10, 11, 12, 13, 14, 15, 16, 17], [15])])
def tilefarmlaw13_IntegralGrows.B19 : List Nat := [0, 0, 0, 0, 0, 0, 32, 96, 0, 256, 768, 2032, 4095, 8191, 16383, 16383, 0, 98303, 262143]
theorem tilefarmlaw13_IntegralGrows.tab19 : rtab .any (opsOf Try.f7 19) = tilefarmlaw13_IntegralGrows.T19 := by kernel_rfl
theorem tilefarmlaw13_IntegralGrows.bits19 : waitsOk tilefarmlaw13_IntegralGrows.T19.2 tilefarmlaw13_IntegralGrows.B19 = true := by kernel_rfl
set_option maxHeartbeats 8000000 in
set_option maxRecDepth 100000 in
theorem tilefarmlaw13_IntegralGrows.calls (k : Nat) (A0 : Option Addr) (c0 : Nat) (l0 : List Int) (r : Bool) (w : World) (hr0 : Kd.C (Kd.int .i64) w A0 l0.length l0) (hc0 : l0.length ≤ c0) (h : tilefarmlaw13_IntegralGrows.f k l0 = some r) (hT : r = true := by first | rfl | assumption | exact HT.out) :
  Calls Try.prog 7 #[.slice A0 l0.length c0] w fun e w' => e = .returned (.bool r) ∧ Below w.heap.size w w' := by
 have HT := am_ hT
 clear hT
 have hu26 := Try.underlying26
 have hu32 := Try.underlying32
 have HR0 := am_ hr0
 have HC0 := am_ hc0
 clear hr0 hc0
 have HB := am_ (Below.refl w.heap.size w)
 have H : ((tilefarmgen_New.f l0).bind fun bt304 => ((tilefarmgen_Tape_Plane.f k bt304.1 bt304.2).bind fun bt307 => ((tilefarmgen_Tape_Next.f bt304.1 bt307.2.2.2.2 3).bind fun bt314 => ((tilefarmgen_Tape_Next.f bt304.1 bt314.2 3).bind fun bt316 => ((integral_Whole.f k bt307.1 bt307.2.1 bt307.2.2.1 bt307.2.2.2.1).bind fun bt319 => (if 0 ≤ (wrap64 (bt307.1 * bt307.2.1)) then (if (wrap64 (bt307.1 * bt307.2.1) : Int).toNat ≤ 35184372088832 then ((grid_Count.f k bt307.1 bt307.2.1 (wrap64 (1 + bt314.1)) (wrap64 (1 + bt316.1))).bind fun bt331 => (tilefarmlaw13_IntegralGrows.l0 k (wrap64 (1 + bt314.1)) (wrap64 (1 + bt316.1)) bt319.2.2.2.2 bt331.1 bt331.2 0 bt307.1 bt307.2.1 bt307.2.2.1 bt307.2.2.2.1 bt319.1 bt319.2.1 bt319.2.2.1 bt319.2.2.2.1 bt307.1 bt307.2.1 bt319.2.2.1 (List.replicate (wrap64 (bt307.1 * bt307.2.1) : Int).toNat 0))) else (none)) else (none))))))) = some r := h
 clear h
 replace H := Option.bind_eq_some_iff.mp H
 obtain ⟨⟨t304, t305⟩, A20, H⟩ := H
 replace H : ((tilefarmgen_Tape_Plane.f k t304 t305).bind fun bt307 => ((tilefarmgen_Tape_Next.f t304 bt307.2.2.2.2 3).bind fun bt314 => ((tilefarmgen_Tape_Next.f t304 bt314.2 3).bind fun bt316 => ((integral_Whole.f k bt307.1 bt307.2.1 bt307.2.2.1 bt307.2.2.2.1).bind fun bt319 => (if 0 ≤ (wrap64 (bt307.1 * bt307.2.1)) then (if (wrap64 (bt307.1 * bt307.2.1) : Int).toNat ≤ 35184372088832 then ((grid_Count.f k bt307.1 bt307.2.1 (wrap64 (1 + bt314.1)) (wrap64 (1 + bt316.1))).bind fun bt331 => (tilefarmlaw13_IntegralGrows.l0 k (wrap64 (1 + bt314.1)) (wrap64 (1 + bt316.1)) bt319.2.2.2.2 bt331.1 bt331.2 0 bt307.1 bt307.2.1 bt307.2.2.1 bt307.2.2.2.1 bt319.1 bt319.2.1 bt319.2.2.1 bt319.2.2.2.1 bt307.1 bt307.2.1 bt319.2.2.1 (List.replicate (wrap64 (bt307.1 * bt307.2.1) : Int).toNat 0))) else (none)) else (none)))))) = some r := H
 have A2 := am_ A20
 clear A20
 replace H := Option.bind_eq_some_iff.mp H
 obtain ⟨⟨t307, t308, t309, t310, t313⟩, A30, H⟩ := H
 replace H : ((tilefarmgen_Tape_Next.f t304 t313 3).bind fun bt314 => ((tilefarmgen_Tape_Next.f t304 bt314.2 3).bind fun bt316 => ((integral_Whole.f k t307 t308 t309 t310).bind fun bt319 => (if 0 ≤ (wrap64 (t307 * t308)) then (if (wrap64 (t307 * t308) : Int).toNat ≤ 35184372088832 then ((grid_Count.f k t307 t308 (wrap64 (1 + bt314.1)) (wrap64 (1 + bt316.1))).bind fun bt331 => (tilefarmlaw13_IntegralGrows.l0 k (wrap64 (1 + bt314.1)) (wrap64 (1 + bt316.1)) bt319.2.2.2.2 bt331.1 bt331.2 0 t307 t308 t309 t310 bt319.1 bt319.2.1 bt319.2.2.1 bt319.2.2.2.1 t307 t308 bt319.2.2.1 (List.replicate (wrap64 (t307 * t308) : Int).toNat 0))) else (none)) else (none))))) = some r := H
 have A3 := am_ A30
 clear A30
 replace H := Option.bind_eq_some_iff.mp H
 obtain ⟨⟨t314, t315⟩, A40, H⟩ := H
 replace H : ((tilefarmgen_Tape_Next.f t304 t315 3).bind fun bt316 => ((integral_Whole.f k t307 t308 t309 t310).bind fun bt319 => (if 0 ≤ (wrap64 (t307 * t308)) then (if (wrap64 (t307 * t308) : Int).toNat ≤ 35184372088832 then ((grid_Count.f k t307 t308 (wrap64 (1 + t314)) (wrap64 (1 + bt316.1))).bind fun bt331 => (tilefarmlaw13_IntegralGrows.l0 k (wrap64 (1 + t314)) (wrap64 (1 + bt316.1)) bt319.2.2.2.2 bt331.1 bt331.2 0 t307 t308 t309 t310 bt319.1 bt319.2.1 bt319.2.2.1 bt319.2.2.2.1 t307 t308 bt319.2.2.1 (List.replicate (wrap64 (t307 * t308) : Int).toNat 0))) else (none)) else (none)))) = some r := H
 have A4 := am_ A40
 clear A40
 replace H := Option.bind_eq_some_iff.mp H
 obtain ⟨⟨t316, t317⟩, A50, H⟩ := H
 replace H : ((integral_Whole.f k t307 t308 t309 t310).bind fun bt319 => (if 0 ≤ (wrap64 (t307 * t308)) then (if (wrap64 (t307 * t308) : Int).toNat ≤ 35184372088832 then ((grid_Count.f k t307 t308 (wrap64 (1 + t314)) (wrap64 (1 + t316))).bind fun bt331 => (tilefarmlaw13_IntegralGrows.l0 k (wrap64 (1 + t314)) (wrap64 (1 + t316)) bt319.2.2.2.2 bt331.1 bt331.2 0 t307 t308 t309 t310 bt319.1 bt319.2.1 bt319.2.2.1 bt319.2.2.2.1 t307 t308 bt319.2.2.1 (List.replicate (wrap64 (t307 * t308) : Int).toNat 0))) else (none)) else (none))) = some r := H
 have A5 := am_ A50
 clear A50
 replace H := Option.bind_eq_some_iff.mp H
 obtain ⟨⟨t319, t320, t321, t322, t325⟩, A60, H⟩ := H
 replace H : (if 0 ≤ (wrap64 (t307 * t308)) then (if (wrap64 (t307 * t308) : Int).toNat ≤ 35184372088832 then ((grid_Count.f k t307 t308 (wrap64 (1 + t314)) (wrap64 (1 + t316))).bind fun bt331 => (tilefarmlaw13_IntegralGrows.l0 k (wrap64 (1 + t314)) (wrap64 (1 + t316)) t325 bt331.1 bt331.2 0 t307 t308 t309 t310 t319 t320 t321 t322 t307 t308 t321 (List.replicate (wrap64 (t307 * t308) : Int).toNat 0))) else (none)) else (none)) = some r := H
 have A6 := am_ A60
 clear A60
 obtain ⟨ji7, hji7⟩ : ∃ j_ : Int, (wrap64 (t307 * t308)) = j_ := ⟨_, rfl⟩
 replace H : (if 0 ≤ (ji7) then (if (ji7 : Int).toNat ≤ 35184372088832 then ((grid_Count.f k t307 t308 (wrap64 (1 + t314)) (wrap64 (1 + t316))).bind fun bt331 => (tilefarmlaw13_IntegralGrows.l0 k (wrap64 (1 + t314)) (wrap64 (1 + t316)) t325 bt331.1 bt331.2 0 t307 t308 t309 t310 t319 t320 t321 t322 t307 t308 t321 (List.replicate (ji7 : Int).toNat 0))) else (none)) else (none)) = some r := by first | (rw [hji7] at H; exact H) | (simp only [hji7] at H ⊢; exact H)
 (try rw [hji7] at A2)
 (try rw [hji7] at A3)
 (try rw [hji7] at A4)
 (try rw [hji7] at A5)
 (try rw [hji7] at A6)
 have hji7w : (IntKind.i64.wrap (t307 * t308)) = ji7 := (i64_w _).trans hji7
 by_cases c8 : 0 ≤ (ji7)
 ·rw [if_pos c8] at H
  have c8b0 := eq_true c8
  have c8b1 : decide (0 ≤ (ji7)) = true := decide_eq_true c8
  clear c8
  by_cases c9 : (ji7 : Int).toNat ≤ 35184372088832
  ·rw [if_pos c9] at H
   have c9b0 := eq_true c9
   have c9b1 : decide ((ji7 : Int).toNat ≤ 35184372088832) = true := decide_eq_true c9
   clear c9
   obtain ⟨y327, hy327⟩ : ∃ y_ : List Int, y_ = (List.replicate (ji7 : Int).toNat 0) := ⟨_, rfl⟩
   replace H : ((grid_Count.f k t307 t308 (wrap64 (1 + t314)) (wrap64 (1 + t316))).bind fun bt331 => (tilefarmlaw13_IntegralGrows.l0 k (wrap64 (1 + t314)) (wrap64 (1 + t316)) t325 bt331.1 bt331.2 0 t307 t308 t309 t310 t319 t320 t321 t322 t307 t308 t321 y327)) = some r := by first | (rw [hy327]; with_reducible exact H) | (have H2_ := (Option.bind_some _ _).symm.trans H; rw [hy327]; with_reducible exact H2_) | (have H2_ := (Option.bind_some _ _).symm.trans H; with_reducible exact H2_) | with_reducible exact H | (rw [hy327]; exact H) | exact H
   have Ny327 := am_ hy327
   clear hy327
   replace H := Option.bind_eq_some_iff.mp H
   obtain ⟨⟨t331, t332⟩, A100, H⟩ := H
   replace H : (tilefarmlaw13_IntegralGrows.l0 k (wrap64 (1 + t314)) (wrap64 (1 + t316)) t325 t331 t332 0 t307 t308 t309 t310 t319 t320 t321 t322 t307 t308 t321 y327) = some r := H
   have A10 := am_ A100
   clear A100
   have H' := am_ H
   clear H
   go_enter Try.func7, Try.ntmps7
   try go_wp2_with (first | ((with_reducible refine gate_callee (f := 8) rfl ?_); refine goesL_ (some 24) rfl rfl Try.func8 (by kernel_rfl) rfl #[.slice A0 l0.length c0] rfl q107_ ?_; (with_reducible refine (tilefarmgen_New.calls _ _ l0 t304 t305 w _ ?side1 ?side2 ?side3 A2.out).mono ?_); (case side1 => repeat (first | (with_reducible first | exact HB.out | apply below_alloc | apply pw_below_drewN | apply below_drew1) | exact HB.out)); (case side2 => exact HR0.out); (case side3 => exact HC0.out); rintro e w11 ⟨g306, rfl, hi, hb, hb2⟩; refine ⟨_, rfl, ?_⟩; have n0_ := am_ (hb); have n1_ := am_ (hi); clear HB; have HB := n0_; have HI306 := n1_; clear n0_ n1_) | ((with_reducible refine gate_callee (f := 9) rfl ?_); refine goesL_ (some 26) rfl rfl Try.func9 (by kernel_rfl) rfl #[.pointer (some ⟨g306, 0, none⟩)] rfl q107_ ?_; (with_reducible refine (tilefarmgen_Tape_Plane.calls k g306 t304 t305 t307 t308 t309 t310 t313 w _ ?side1 ?side2 A3.out).mono ?_); (case side1 => repeat (first | (with_reducible first | exact HI306.out | apply IsS56.alloc | apply IsS56.drewN | apply IsS56.drew | apply IsS56.set_1) | exact HI306.out)); (case side2 => repeat (first | (with_reducible first | exact HB.out | apply below_alloc | apply pw_below_drewN | apply below_drew1 | refine below_set ?_ (IsS56.ge HI306.out)) | exact HB.out)); rintro e w12 ⟨v311, rfl, ho0, hi, hb, hk⟩; refine ⟨_, rfl, ?_⟩; have n0_ := am_ (Kd.R_lower ho0 (below_size q83_)); have n1_ := am_ (hb); have n2_ := am_ (hi); clear HB; clear HI306; have HO312 := n0_; have HB := n1_; have HI306 := n2_; clear n0_ n1_ n2_; (try clear ho0)) | ((with_reducible refine gate_callee (f := 12) rfl ?_); refine goesL_ (some 28) rfl rfl Try.func12 (by kernel_rfl) rfl #[.pointer (some ⟨g306, 0, none⟩), .int .i64 3] rfl q107_ ?_; (with_reducible refine (tilefarmgen_Tape_Next.calls g306 t304 t313 3 t314 t315 w _ ?side1 ?side2 A4.out).mono ?_); (case side1 => repeat (first | (with_reducible first | exact HI306.out | apply IsS56.alloc | apply IsS56.drewN | apply IsS56.drew | apply IsS56.set_1) | exact HI306.out)); (case side2 => repeat (first | (with_reducible first | exact HB.out | apply below_alloc | apply pw_below_drewN | apply below_drew1 | refine below_set ?_ (IsS56.ge HI306.out)) | exact HB.out)); rintro e w13 ⟨rfl, hi, hb, hk⟩; refine ⟨_, rfl, ?_⟩; have n0_ := am_ (Kd.R_mono (Kd.R_keep (IsS56.apart (show IsS56 w _ g306 t304 t313 from by repeat (first | (with_reducible first | exact HI306.out | apply IsS56.alloc | apply IsS56.drewN | apply IsS56.drew | apply IsS56.set_1) | exact HI306.out)) q159_ (by decide)) hk (fun _ h => h.2)) (fun _ h => h.1)); have n1_ := am_ (hb); have n2_ := am_ (hi); clear HO312; clear HB; clear HI306; have HO312 := n0_; have HB := n1_; have HI306 := n2_; clear n0_ n1_ n2_) | ((with_reducible refine gate_callee (f := 12) rfl ?_); refine goesL_ (some 31) rfl rfl Try.func12 (by kernel_rfl) rfl #[.pointer (some ⟨g306, 0, none⟩), .int .i64 3] rfl q107_ ?_; (with_reducible refine (tilefarmgen_Tape_Next.calls g306 t304 t315 3 t316 t317 w _ ?side1 ?side2 A5.out).mono ?_); (case side1 => repeat (first | (with_reducible first | exact HI306.out | apply IsS56.alloc | apply IsS56.drewN | apply IsS56.drew | apply IsS56.set_1) | exact HI306.out)); (case side2 => repeat (first | (with_reducible first | exact HB.out | apply below_alloc | apply pw_below_drewN | apply below_drew1 | refine below_set ?_ (IsS56.ge HI306.out)) | exact HB.out)); rintro e w14 ⟨rfl, hi, hb, hk⟩; refine ⟨_, rfl, ?_⟩; have n0_ := am_ (Kd.R_mono (Kd.R_keep (IsS56.apart (show IsS56 w _ g306 t304 t315 from by repeat (first | (with_reducible first | exact HI306.out | apply IsS56.alloc | apply IsS56.drewN | apply IsS56.drew | apply IsS56.set_1) | exact HI306.out)) q159_ (by decide)) hk (fun _ h => h.2)) (fun _ h => h.1)); have n1_ := am_ (hb); have n2_ := am_ (hi); clear HO312; clear HB; clear HI306; have HO312 := n0_; have HB := n1_; have HI306 := n2_; clear n0_ n1_ n2_) | ((with_reducible refine gate_dst (N := 4) rfl ?_); refine box_event ?hg (N := 4) ?hd (cs := #[.int .i64 0, .int .i64 0, .int .i64 0, .slice none 0 0]) (t := 26) ?hr ?_; (case hd => rfl); (case hg => rfl); (case hr => first | (go_simp; done) | (go_simp; rfl)); intro gb318 hg w15 hbox hb; have n0_ := am_ (Kd.R_below q159_ hb); have n1_ := am_ (IsS56.below (by repeat (first | (with_reducible first | exact HI306.out | apply IsS56.alloc | apply IsS56.drewN | apply IsS56.drew | apply IsS56.set_1) | exact HI306.out)) hb); have n2_ := am_ (below_step q83_ hb); have n3_ := am_ (hbox); have n4_ := am_ ((by rw [hg]; exact (below_size q83_) : w.heap.size ≤ gb318)); have n5_ := am_ ((by rw [hg]; exact (below_size q83_) : w.heap.size ≤ gb318)); have n6_ := am_ ((by rw [hg]; exact Nat.ne_of_lt (IsS56.lt (show IsS56 w _ g306 t304 t317 from by repeat (first | (with_reducible first | exact HI306.out | apply IsS56.alloc | apply IsS56.drewN | apply IsS56.drew | apply IsS56.set_1) | exact HI306.out))) : g306 ≠ gb318)); have n7_ := am_ ((by rw [hg]; exact Nat.ne_of_gt (IsS56.lt (show IsS56 w _ g306 t304 t317 from by repeat (first | (with_reducible first | exact HI306.out | apply IsS56.alloc | apply IsS56.drewN | apply IsS56.drew | apply IsS56.set_1) | exact HI306.out))) : gb318 ≠ g306)); clear HO312; clear HI306; clear HB; have HO312 := n0_; have HI306 := n1_; have HB := n2_; have BK318 := n3_; have GW318 := n4_; have GE318 := n5_; have NB306_318 := n6_; have NB318_306 := n7_; clear n0_ n1_ n2_ n3_ n4_ n5_ n6_ n7_; clear hb hbox hg; have hnb16 := NB318_306.out; have hnc16 := NB306_318.out; have hcz17_0 : w15.cell? ⟨gb318, 0, none⟩ = some (.int .i64 0) := (blk_cell BK318.out 0).trans rfl; have hcz17_1 : w15.cell? ⟨gb318, 1, none⟩ = some (.int .i64 0) := (blk_cell BK318.out 1).trans rfl; have hcz17_2 : w15.cell? ⟨gb318, 2, none⟩ = some (.int .i64 0) := (blk_cell BK318.out 2).trans rfl; have hcz17_3 : w15.cell? ⟨gb318, 3, none⟩ = some (.slice none 0 0) := (blk_cell BK318.out 3).trans rfl; have hfz17_0 := blk_frozen BK318.out 0; have hfz17_1 := blk_frozen BK318.out 1; have hfz17_2 := blk_frozen BK318.out 2; have hfz17_3 := blk_frozen BK318.out 3; obtain ⟨Ao18, co18, eo18⟩ := Kd.R_slice HO312.out; subst eo18) | ((with_reducible refine gate_callee (f := 10) rfl ?_); refine goesL_ (some 35) rfl rfl Try.func10 (by kernel_rfl) rfl #[.agg #[.int .i64 t307, .int .i64 t308, .int .i64 t309, .slice Ao18 t310.length co18]] rfl q107_ ?_; (with_reducible refine (integral_Whole.calls k t307 t308 t309 _ _ t310 t319 t320 t321 t322 t325 _ ?side1 ?side2 A6.out).mono ?_); (case side1 => refine (Kd.R_reads' (e := 3) (base := w.heap.size) (ok := fun k_ => True) (n := t310.length) (c := co18) ?_).2.2; exact q3_); (case side2 => exact (Kd.R_reads' HO312.out).2.1); rintro e w19 ⟨v323, rfl, ho0, hb⟩; refine ⟨_, rfl, ?_⟩; have n0_ := am_ (Kd.R_elder' q3_ (Kd.R_base ho0) hb); have n1_ := am_ (Kd.R_lower (Kd.R_new' ho0 (Kd.R_lt q3_)) (below_size q58_)); have n2_ := am_ (IsS56.below (show IsS56 w ((((w15.setCell ⟨gb318, 0, none⟩ (.int .i64 t307)).setCell ⟨gb318, 1, none⟩ (.int .i64 t308)).setCell ⟨gb318, 2, none⟩ (.int .i64 t309)).setCell ⟨gb318, 3, none⟩ (.slice Ao18 t310.length co18)) g306 t304 t317 from by repeat (first | (with_reducible first | exact HI306.out | apply IsS56.alloc | apply IsS56.drewN | apply IsS56.drew | apply IsS56.set_1 | refine IsS56.far ?_ NB306_318.out _) | exact HI306.out)) hb); have n3_ := am_ (blk_below (g := gb318) (o := .cells #[.int .i64 t307, .int .i64 t308, .int .i64 t309, .slice Ao18 t310.length co18] 26 (0, 0)) (by (with_reducible repeat (first | refine blk_drewN ?_ _ | refine blk_drew ?_ | refine blk_alloc ?_ _)); refine blk_put (cs := #[.int .i64 t307, .int .i64 t308, .int .i64 t309, .slice none 0 0]) ?_ 3 _ rfl; (with_reducible repeat (first | refine blk_drewN ?_ _ | refine blk_drew ?_ | refine blk_alloc ?_ _)); refine blk_put (cs := #[.int .i64 t307, .int .i64 t308, .int .i64 0, .slice none 0 0]) ?_ 2 _ rfl; (with_reducible repeat (first | refine blk_drewN ?_ _ | refine blk_drew ?_ | refine blk_alloc ?_ _)); refine blk_put (cs := #[.int .i64 t307, .int .i64 0, .int .i64 0, .slice none 0 0]) ?_ 1 _ rfl; (with_reducible repeat (first | refine blk_drewN ?_ _ | refine blk_drew ?_ | refine blk_alloc ?_ _)); refine blk_put (cs := #[.int .i64 0, .int .i64 0, .int .i64 0, .slice none 0 0]) ?_ 0 _ rfl; (with_reducible repeat (first | refine blk_drewN ?_ _ | refine blk_drew ?_ | refine blk_alloc ?_ _)); exact BK318.out) hb); have n4_ := am_ (below_step q58_ hb); clear HO312; clear HI306; clear BK318; clear HB; have HO312 := n0_; have HO324 := n1_; have HI306 := n2_; have BK318 := n3_; have HB := n4_; clear n0_ n1_ n2_ n3_ n4_; (try clear ho0)) | ((with_reducible refine gate_dst (N := 7) rfl ?_); refine box_event ?hg (N := 7) ?hd (cs := #[.int .i64 0, .int .i64 0, .int .i64 0, .slice none 0 0]) (t := 26) ?hr ?_; (case hd => rfl); (case hg => rfl); (case hr => first | (go_simp; done) | (go_simp; rfl)); intro gb326 hg w20 hbox hb; have n0_ := am_ (Kd.R_below q159_ hb); have n1_ := am_ (Kd.R_below q160_ hb); have n2_ := am_ (IsS56.below (by repeat (first | (with_reducible first | exact HI306.out | apply IsS56.alloc | apply IsS56.drewN | apply IsS56.drew | apply IsS56.set_1 | refine IsS56.far ?_ NB306_318.out _) | exact HI306.out)) hb); have n3_ := am_ (blk_below (g := gb318) (o := .cells #[.int .i64 t307, .int .i64 t308, .int .i64 t309, .slice Ao18 t310.length co18] 26 (0, 0)) q139_ hb); have n4_ := am_ (below_step q58_ hb); have n5_ := am_ (hbox); have n6_ := am_ ((by rw [hg]; exact (below_size q58_) : w.heap.size ≤ gb326)); have n7_ := am_ ((by rw [hg]; exact (below_size q58_) : w.heap.size ≤ gb326)); have n8_ := am_ ((q14_ : gb318 ≠ gb326)); have n9_ := am_ ((q15_ : gb326 ≠ gb318)); have n10_ := am_ ((by rw [hg]; exact Nat.ne_of_lt (IsS56.lt (show IsS56 w _ g306 t304 t317 from by repeat (first | (with_reducible first | exact HI306.out | apply IsS56.alloc | apply IsS56.drewN | apply IsS56.drew | apply IsS56.set_1 | refine IsS56.far ?_ NB306_318.out _) | exact HI306.out))) : g306 ≠ gb326)); have n11_ := am_ ((by rw [hg]; exact Nat.ne_of_gt (IsS56.lt (show IsS56 w _ g306 t304 t317 from by repeat (first | (with_reducible first | exact HI306.out | apply IsS56.alloc | apply IsS56.drewN | apply IsS56.drew | apply IsS56.set_1 | refine IsS56.far ?_ NB306_318.out _) | exact HI306.out))) : gb326 ≠ g306)); clear HO312; clear HO324; clear HI306; clear BK318; clear HB; have HO312 := n0_; have HO324 := n1_; have HI306 := n2_; have BK318 := n3_; have HB := n4_; have BK326 := n5_; have GW326 := n6_; have GE326 := n7_; have NB318_326 := n8_; have NB326_318 := n9_; have NB306_326 := n10_; have NB326_306 := n11_; clear n0_ n1_ n2_ n3_ n4_ n5_ n6_ n7_ n8_ n9_ n10_ n11_; clear hb hbox hg; have hnb21 := NB326_318.out; have hnc21 := NB318_326.out; have hnb22 := NB326_306.out; have hnc22 := NB306_326.out; have hcz23_0 : w20.cell? ⟨gb326, 0, none⟩ = some (.int .i64 0) := (blk_cell BK326.out 0).trans rfl; have hcz23_1 : w20.cell? ⟨gb326, 1, none⟩ = some (.int .i64 0) := (blk_cell BK326.out 1).trans rfl; have hcz23_2 : w20.cell? ⟨gb326, 2, none⟩ = some (.int .i64 0) := (blk_cell BK326.out 2).trans rfl; have hcz23_3 : w20.cell? ⟨gb326, 3, none⟩ = some (.slice none 0 0) := (blk_cell BK326.out 3).trans rfl; have hfz23_0 := blk_frozen BK326.out 0; have hfz23_1 := blk_frozen BK326.out 1; have hfz23_2 := blk_frozen BK326.out 2; have hfz23_3 := blk_frozen BK326.out 3; obtain ⟨Ao24, co24, eo24⟩ := Kd.R_slice HO324.out; subst eo24))
   have n0_ : Aside0 (Kd.R (Kd.int .i64) 3 ((((w20.setCell ⟨gb326, 0, none⟩ (.int .i64 t319)).setCell ⟨gb326, 1, none⟩ (.int .i64 t320)).setCell ⟨gb326, 2, none⟩ (.int .i64 t321)).setCell ⟨gb326, 3, none⟩ (.slice Ao24 t322.length co24)) w.heap.size (fun k_ => some k_ ≠ (.slice Ao24 t322.length co24 : Value).ownBlock) (.slice Ao18 t310.length co18) t310) := ⟨by (with_reducible repeat (first | apply Kd.R_alloc | apply Kd.R_drewN | apply Kd.R_drew)); exact Kd.R_mono (Kd.R_far (p := ⟨gb326, 3, none⟩) (Kd.R_far (p := ⟨gb326, 2, none⟩) (Kd.R_far (p := ⟨gb326, 1, none⟩) (Kd.R_far (p := ⟨gb326, 0, none⟩) (Kd.R_types HO312.out BK326.out (by decide)) (fun _ hk => hk.2) (.int .i64 t319)) (fun _ hk => hk.2) (.int .i64 t320)) (fun _ hk => hk.2) (.int .i64 t321)) (fun _ hk => hk.2) (.slice Ao24 t322.length co24)) (fun _ hk => hk.1.2)⟩
   have n1_ : Aside0 (Kd.R (Kd.int .i64) 3 ((((w20.setCell ⟨gb326, 0, none⟩ (.int .i64 t319)).setCell ⟨gb326, 1, none⟩ (.int .i64 t320)).setCell ⟨gb326, 2, none⟩ (.int .i64 t321)).setCell ⟨gb326, 3, none⟩ (.slice Ao24 t322.length co24)) w.heap.size (fun k_ => some k_ ≠ (.slice Ao18 t310.length co18 : Value).ownBlock) (.slice Ao24 t322.length co24) t322) := ⟨by (with_reducible repeat (first | apply Kd.R_alloc | apply Kd.R_drewN | apply Kd.R_drew)); exact Kd.R_mono (Kd.R_far (p := ⟨gb326, 3, none⟩) (Kd.R_far (p := ⟨gb326, 2, none⟩) (Kd.R_far (p := ⟨gb326, 1, none⟩) (Kd.R_far (p := ⟨gb326, 0, none⟩) (Kd.R_types HO324.out BK326.out (by decide)) (fun _ hk => hk.2) (.int .i64 t319)) (fun _ hk => hk.2) (.int .i64 t320)) (fun _ hk => hk.2) (.int .i64 t321)) (fun _ hk => hk.2) (.slice Ao24 t322.length co24)) (fun _ hk => hk.1.2)⟩
   have n2_ : Aside0 (((((w20.setCell ⟨gb326, 0, none⟩ (.int .i64 t319)).setCell ⟨gb326, 1, none⟩ (.int .i64 t320)).setCell ⟨gb326, 2, none⟩ (.int .i64 t321)).setCell ⟨gb326, 3, none⟩ (.slice Ao24 t322.length co24)).heap[gb318]? = some (.cells #[.int .i64 t307, .int .i64 t308, .int .i64 t309, .slice Ao18 t310.length co18] 26 (0, 0))) := ⟨by (with_reducible repeat (first | refine blk_drewN ?_ _ | refine blk_drew ?_ | refine blk_alloc ?_ _)); refine blk_far ?_ NB318_326.out _; (with_reducible repeat (first | refine blk_drewN ?_ _ | refine blk_drew ?_ | refine blk_alloc ?_ _)); refine blk_far ?_ NB318_326.out _; (with_reducible repeat (first | refine blk_drewN ?_ _ | refine blk_drew ?_ | refine blk_alloc ?_ _)); refine blk_far ?_ NB318_326.out _; (with_reducible repeat (first | refine blk_drewN ?_ _ | refine blk_drew ?_ | refine blk_alloc ?_ _)); refine blk_far ?_ NB318_326.out _; (with_reducible repeat (first | refine blk_drewN ?_ _ | refine blk_drew ?_ | refine blk_alloc ?_ _)); exact BK318.out⟩
   have n3_ : Aside0 (((((w20.setCell ⟨gb326, 0, none⟩ (.int .i64 t319)).setCell ⟨gb326, 1, none⟩ (.int .i64 t320)).setCell ⟨gb326, 2, none⟩ (.int .i64 t321)).setCell ⟨gb326, 3, none⟩ (.slice Ao24 t322.length co24)).heap[gb326]? = some (.cells #[.int .i64 t319, .int .i64 t320, .int .i64 t321, .slice Ao24 t322.length co24] 26 (0, 0))) := ⟨by (with_reducible repeat (first | refine blk_drewN ?_ _ | refine blk_drew ?_ | refine blk_alloc ?_ _)); refine blk_put (cs := #[.int .i64 t319, .int .i64 t320, .int .i64 t321, .slice none 0 0]) ?_ 3 _ rfl; (with_reducible repeat (first | refine blk_drewN ?_ _ | refine blk_drew ?_ | refine blk_alloc ?_ _)); refine blk_put (cs := #[.int .i64 t319, .int .i64 t320, .int .i64 0, .slice none 0 0]) ?_ 2 _ rfl; (with_reducible repeat (first | refine blk_drewN ?_ _ | refine blk_drew ?_ | refine blk_alloc ?_ _)); refine blk_put (cs := #[.int .i64 t319, .int .i64 0, .int .i64 0, .slice none 0 0]) ?_ 1 _ rfl; (with_reducible repeat (first | refine blk_drewN ?_ _ | refine blk_drew ?_ | refine blk_alloc ?_ _)); refine blk_put (cs := #[.int .i64 0, .int .i64 0, .int .i64 0, .slice none 0 0]) ?_ 0 _ rfl; (with_reducible repeat (first | refine blk_drewN ?_ _ | refine blk_drew ?_ | refine blk_alloc ?_ _)); exact BK326.out⟩
   have n4_ : Aside0 (IsS56 w ((((w20.setCell ⟨gb326, 0, none⟩ (.int .i64 t319)).setCell ⟨gb326, 1, none⟩ (.int .i64 t320)).setCell ⟨gb326, 2, none⟩ (.int .i64 t321)).setCell ⟨gb326, 3, none⟩ (.slice Ao24 t322.length co24)) g306 t304 t317) := ⟨q48_⟩
   have n5_ : Aside0 (Below w.heap.size w ((((w20.setCell ⟨gb326, 0, none⟩ (.int .i64 t319)).setCell ⟨gb326, 1, none⟩ (.int .i64 t320)).setCell ⟨gb326, 2, none⟩ (.int .i64 t321)).setCell ⟨gb326, 3, none⟩ (.slice Ao24 t322.length co24))) := ⟨q46_⟩
   (try clear HO312)
   (try clear HO324)
   (try clear BK318)
   (try clear BK326)
   (try clear HI306)
   (try clear HB)
   generalize ((((w20.setCell ⟨gb326, 0, none⟩ (.int .i64 t319)).setCell ⟨gb326, 1, none⟩ (.int .i64 t320)).setCell ⟨gb326, 2, none⟩ (.int .i64 t321)).setCell ⟨gb326, 3, none⟩ (.slice Ao24 t322.length co24)) = w25 at n0_ n1_ n2_ n3_ n4_ n5_ ⊢
   have HO312 := n0_
   have HO324 := n1_
   have BK318 := n2_
   have BK326 := n3_
   have HI306 := n4_
   have HB := n5_
   clear n0_ n1_ n2_ n3_ n4_ n5_
   have n0_ := am_ (Kd.R_drew HO312.out)
   have n1_ := am_ (Kd.R_drew HO324.out)
   have n2_ := am_ (blk_drew BK318.out)
   have n3_ := am_ (blk_drew BK326.out)
   have n4_ := am_ (IsS56.drew HI306.out)
   have n5_ := am_ (below_drew1 HB.out)
   clear HO312
   clear HO324
   clear BK318
   clear BK326
   clear HI306
   clear HB
   have HO312 := n0_
   have HO324 := n1_
   have BK318 := n2_
   have BK326 := n3_
   have HI306 := n4_
   have HB := n5_
   clear n0_ n1_ n2_ n3_ n4_ n5_
   refine start_ (n := 15) (S := fun w' => w'.cell? ⟨gb318, 0, none⟩ = some (.int .i64 t307) ∧ w'.cell? ⟨gb318, 1, none⟩ = some (.int .i64 t308) ∧ w'.cell? ⟨gb318, 2, none⟩ = some (.int .i64 t309) ∧ w'.cell? ⟨gb318, 3, none⟩ = some (.slice Ao18 t310.length co18) ∧ w'.cell? ⟨gb326, 0, none⟩ = some (.int .i64 t319) ∧ w'.cell? ⟨gb326, 1, none⟩ = some (.int .i64 t320) ∧ w'.cell? ⟨gb326, 2, none⟩ = some (.int .i64 t321) ∧ w'.cell? ⟨gb326, 3, none⟩ = some (.slice Ao24 t322.length co24)) (ds := []) #[false, false, false, false, false, false, false, false, false, false, false, false, false, false, false] (by kernel_rfl) rfl rfl ⟨(blk_cell BK318.out 0).trans rfl, (blk_cell BK318.out 1).trans rfl, (blk_cell BK318.out 2).trans rfl, (blk_cell BK318.out 3).trans rfl, (blk_cell BK326.out 0).trans rfl, (blk_cell BK326.out 1).trans rfl, (blk_cell BK326.out 2).trans rfl, (blk_cell BK326.out 3).trans rfl⟩ (fun hHeld => ?_); refine with_tabW tilefarmlaw13_IntegralGrows.tab4 tilefarmlaw13_IntegralGrows.bits4 (fun HT_ HW_ => ?_)
   generalize w25.drew = w26 at HO312 HO324 BK318 BK326 HI306 HB hHeld ⊢
   refine pure_ (i := 0) (N := some 38) (v := ?_) (a' := ?_) #[true, false, false, false, false, false, false, false, false, false, false, false, false, false, false] rfl rfl (any_of HT_.out (by kernel_rfl)) (fun _ _ _ h => h) (Or.inl ⟨by rfl, ?_⟩) ?_ ?_
   rotate_left
   ·intro w'
    go_simp
    with_reducible rfl
   rotate_left
   ·simp only [Act.put, List.setIfInBounds_toArray, List.set_cons_zero, List.set_cons_succ, i64_w, i32_w]
    rfl
   refine pure_ (i := 2) (N := some 40) (v := ?_) (a' := ?_) #[true, false, true, false, false, false, false, false, false, false, false, false, false, false, false] rfl rfl (any_of HT_.out (by kernel_rfl)) (fun _ _ _ h => h) (Or.inl ⟨by rfl, ?_⟩) ?_ ?_
   rotate_left
   ·intro w'
    go_simp
    with_reducible rfl
   rotate_left
   ·simp only [Act.put, List.setIfInBounds_toArray, List.set_cons_zero, List.set_cons_succ, i64_w, i32_w]
    rfl
   refine pure_ (i := 4) (N := some 42) (v := ?_) (a' := ?_) #[true, false, true, false, true, false, false, false, false, false, false, false, false, false, false] rfl rfl (any_of HT_.out (by kernel_rfl)) (fun _ _ _ h => h) (Or.inl ⟨by rfl, ?_⟩) ?_ ?_
   rotate_left
   ·intro w'
    go_simp
    with_reducible rfl
   rotate_left
   ·simp only [Act.put, List.setIfInBounds_toArray, List.set_cons_zero, List.set_cons_succ, i64_w, i32_w]
    rfl
   refine pure_ (i := 6) (N := some 44) (v := ?_) (a' := ?_) #[true, false, true, false, true, false, true, false, false, false, false, false, false, false, false] rfl rfl (any_of HT_.out (by kernel_rfl)) (fun _ _ _ h => h) (Or.inl ⟨by rfl, ?_⟩) ?_ ?_
   rotate_left
   ·intro w'
    go_simp
    with_reducible rfl
   rotate_left
   ·simp only [Act.put, List.setIfInBounds_toArray, List.set_cons_zero, List.set_cons_succ, i64_w, i32_w]
    rfl
   refine pure_ (i := 8) (N := some 46) (v := ?_) (a' := ?_) #[true, false, true, false, true, false, true, false, true, false, false, false, false, false, false] rfl rfl (any_of HT_.out (by kernel_rfl)) (fun _ _ _ h => h) (Or.inl ⟨by rfl, ?_⟩) ?_ ?_
   rotate_left
   ·intro w'
    go_simp
    with_reducible rfl
   rotate_left
   ·simp only [Act.put, List.setIfInBounds_toArray, List.set_cons_zero, List.set_cons_succ, i64_w, i32_w]
    rfl
   refine take_ (i := 1) (N := some 39) (v := ?_) (a' := ?_) #[true, true, true, false, true, false, true, false, true, false, false, false, false, false, false] rfl rfl (take_ofW HT_.out HW_.out (by kernel_rfl)) (fun _ _ _ h => h) (Or.inl ⟨by rfl, ?_⟩) hHeld ?_ ?_
   rotate_left
   ·rintro w' ⟨s0, s1, s2, s3, s4, s5, s6, s7⟩
    go_simp
    with_reducible rfl
   rotate_left
   ·simp only [Act.put, List.setIfInBounds_toArray, List.set_cons_zero, List.set_cons_succ, i64_w, i32_w]
    rfl
   refine take_ (i := 3) (N := some 41) (v := ?_) (a' := ?_) #[true, true, true, true, true, false, true, false, true, false, false, false, false, false, false] rfl rfl (take_ofW HT_.out HW_.out (by kernel_rfl)) (fun _ _ _ h => h) (Or.inl ⟨by rfl, ?_⟩) hHeld ?_ ?_
   rotate_left
   ·rintro w' ⟨s0, s1, s2, s3, s4, s5, s6, s7⟩
    go_simp
    with_reducible rfl
   rotate_left
   ·simp only [Act.put, List.setIfInBounds_toArray, List.set_cons_zero, List.set_cons_succ, i64_w, i32_w]
    rfl
   refine take_ (i := 5) (N := some 43) (v := ?_) (a' := ?_) #[true, true, true, true, true, true, true, false, true, false, false, false, false, false, false] rfl rfl (take_ofW HT_.out HW_.out (by kernel_rfl)) (fun _ _ _ h => h) (Or.inl ⟨by rfl, ?_⟩) hHeld ?_ ?_
   rotate_left
   ·rintro w' ⟨s0, s1, s2, s3, s4, s5, s6, s7⟩
    go_simp
    with_reducible rfl
   rotate_left
   ·simp only [Act.put, List.setIfInBounds_toArray, List.set_cons_zero, List.set_cons_succ, i64_w, i32_w]
    rfl
   refine take_ (i := 7) (N := some 45) (v := ?_) (a' := ?_) #[true, true, true, true, true, true, true, true, true, false, false, false, false, false, false] rfl rfl (take_ofW HT_.out HW_.out (by kernel_rfl)) (fun _ _ _ h => h) (Or.inl ⟨by rfl, ?_⟩) hHeld ?_ ?_
   rotate_left
   ·rintro w' ⟨s0, s1, s2, s3, s4, s5, s6, s7⟩
    go_simp
    with_reducible rfl
   rotate_left
   ·simp only [Act.put, List.setIfInBounds_toArray, List.set_cons_zero, List.set_cons_succ, i64_w, i32_w]
    rfl
   refine take_ (i := 9) (N := some 47) (v := ?_) (a' := ?_) #[true, true, true, true, true, true, true, true, true, true, false, false, false, false, false] rfl rfl (take_ofW HT_.out HW_.out (by kernel_rfl)) (fun _ _ _ h => h) (Or.inl ⟨by rfl, ?_⟩) hHeld ?_ ?_
   rotate_left
   ·rintro w' ⟨s0, s1, s2, s3, s4, s5, s6, s7⟩
    go_simp
    with_reducible rfl
   rotate_left
   ·simp only [Act.put, List.setIfInBounds_toArray, List.set_cons_zero, List.set_cons_succ, i64_w, i32_w]
    rfl
   refine pure_ (i := 10) (N := some 48) (v := ?_) (a' := ?_) #[true, true, true, true, true, true, true, true, true, true, true, false, false, false, false] rfl rfl (any_of HT_.out (by kernel_rfl)) (fun _ _ _ h => h) (Or.inl ⟨by rfl, ?_⟩) ?_ ?_
   rotate_left
   ·intro w'
    go_simp
    with_reducible rfl
   rotate_left
   ·simp only [Act.put, List.setIfInBounds_toArray, List.set_cons_zero, List.set_cons_succ, i64_w, i32_w]
    rfl
   refine join_ (σ := Value × Nat) 1 #[true, true, true, true, true, true, true, true, true, true, true, true, true, true, false] (fun s_ => [(49, s_.1), (9, .pointer (some ⟨s_.2, 0, none⟩)), (50, .agg #[.int .i64 t307, .int .i64 t308, .int .i64 t321, s_.1])]) (fun s_ w' => (w'.cell? ⟨gb318, 0, none⟩ = some (.int .i64 t307) ∧ w'.cell? ⟨gb318, 1, none⟩ = some (.int .i64 t308) ∧ w'.cell? ⟨gb318, 2, none⟩ = some (.int .i64 t309) ∧ w'.cell? ⟨gb318, 3, none⟩ = some (.slice Ao18 t310.length co18) ∧ w'.cell? ⟨gb326, 0, none⟩ = some (.int .i64 t319) ∧ w'.cell? ⟨gb326, 1, none⟩ = some (.int .i64 t320) ∧ w'.cell? ⟨gb326, 2, none⟩ = some (.int .i64 t321) ∧ w'.cell? ⟨gb326, 3, none⟩ = some (.slice Ao24 t322.length co24)) ∧ (Kd.R (Kd.int .i64) 3 w' w.heap.size (fun k_ => some k_ ≠ (.slice Ao24 t322.length co24 : Value).ownBlock ∧ some k_ ≠ (s_.1 : Value).ownBlock) (.slice Ao18 t310.length co18) t310) ∧ (Kd.R (Kd.int .i64) 3 w' w.heap.size (fun k_ => some k_ ≠ (.slice Ao18 t310.length co18 : Value).ownBlock ∧ some k_ ≠ (s_.1 : Value).ownBlock) (.slice Ao24 t322.length co24) t322) ∧ (Kd.R (Kd.int .i64) 3 w' w.heap.size (fun k_ => some k_ ≠ (.slice Ao18 t310.length co18 : Value).ownBlock ∧ some k_ ≠ (.slice Ao24 t322.length co24 : Value).ownBlock) s_.1 y327) ∧ (w'.heap[gb318]? = some (.cells #[.int .i64 t307, .int .i64 t308, .int .i64 t309, .slice Ao18 t310.length co18] 26 (0, 0))) ∧ (w'.heap[gb326]? = some (.cells #[.int .i64 t319, .int .i64 t320, .int .i64 t321, .slice Ao24 t322.length co24] 26 (0, 0))) ∧ (w'.heap[s_.2]? = some (.cells #[.int .i64 0, .int .i64 0, .int .i64 0, .slice none 0 0] 26 (0, 0))) ∧ (w.heap.size ≤ s_.2) ∧ (w.heap.size ≤ s_.2) ∧ (g306 ≠ s_.2) ∧ (s_.2 ≠ g306) ∧ (gb318 ≠ s_.2) ∧ (s_.2 ≠ gb318) ∧ (gb326 ≠ s_.2) ∧ (s_.2 ≠ gb326) ∧ (IsS56 w w' g306 t304 t317) ∧ (Below w.heap.size w w')) ?_ ?_
   rotate_left
   ·intro hCont
    refine two_ (i := 11) (j := 13) (Ni := some 49) (Nj := some 9) #[true, true, true, true, true, true, true, true, true, true, true, true, false, false, false] #[true, true, true, true, true, true, true, true, true, true, true, false, false, true, false] rfl rfl rfl rfl (two_of HT_.out (by kernel_rfl)) (by decide) (by decide) (fun K hK => ?_) (fun K hK => ?_)
    ·skip
     refine Kd.R_make_step (Kd.int .i64) _ 3 (by rfl) (N := 49) rfl 22 _ _ rfl ji7 rfl rfl Try.underlying22 (.int .i64 0) 8 info3 rfl (by decide) (by omega) 0 (ok := fun _ => True) (okp := fun _ => True) rfl (fun _ hk => hk) trivial (of_decide_eq_true q167_) (Nat.le_trans (Nat.mul_le_mul_right _ (of_decide_eq_true q167_ : ji7.toNat ≤ 35184372088832)) (by omega)) (Below.refl _ _) (Nat.le_refl _) ?_
     intro v328 w27 ho28 hb hg_ hnew_
     clear hg_ hnew_
     (first | rw [← Ny327.out] at ho28 | (simp only [Int.reduceToNat] at ho28; rw [← Ny327.out] at ho28))
     have n0_ := am_ (Kd.R_elder' q159_ (Kd.R_base ho28) hb)
     have n1_ := am_ (Kd.R_elder' q160_ (Kd.R_base ho28) hb)
     have n2_ := am_ (Kd.R_lower (Kd.R_new' (Kd.R_new' ho28 (Kd.R_lt q159_)) (Kd.R_lt q160_)) (below_size q46_))
     have n3_ := am_ (IsS56.below q48_ hb)
     have n4_ := am_ (blk_below (g := gb318) (o := .cells #[.int .i64 t307, .int .i64 t308, .int .i64 t309, .slice Ao18 t310.length co18] 26 (0, 0)) q139_ hb)
     have n5_ := am_ (blk_below (g := gb326) (o := .cells #[.int .i64 t319, .int .i64 t320, .int .i64 t321, .slice Ao24 t322.length co24] 26 (0, 0)) q140_ hb)
     have n6_ := am_ (below_step q46_ hb)
     clear HO312
     clear HO324
     clear HI306
     clear BK318
     clear BK326
     clear HB
     have HO312 := n0_
     have HO324 := n1_
     have HO329 := n2_
     have HI306 := n3_
     have BK318 := n4_
     have BK326 := n5_
     have HB := n6_
     clear n0_ n1_ n2_ n3_ n4_ n5_ n6_
     clear hb ho28
     obtain ⟨Ao29, co29, eo29⟩ := Kd.R_slice HO329.out
     (first | subst eo29 | (injection eo29 with f1_ f2_ f3_; have f4_ := f1_.symm; have f5_ := f3_.symm; clear f1_ f2_ f3_; subst f4_; subst f5_))
     refine hK.out _ _ ⟨(blk_cell BK318.out 0).trans rfl, (blk_cell BK318.out 1).trans rfl, (blk_cell BK318.out 2).trans rfl, (blk_cell BK318.out 3).trans rfl, (blk_cell BK326.out 0).trans rfl, (blk_cell BK326.out 1).trans rfl, (blk_cell BK326.out 2).trans rfl, (blk_cell BK326.out 3).trans rfl⟩ (fun hHeld => ?_)
     clear hK K
     refine norm_ (a' := ?_) ?_ ?_
     rotate_left
     ·show Act.put _ (some 49) _ = _
      simp only [Act.put, List.setIfInBounds_toArray, List.set_cons_zero, List.set_cons_succ, i64_w, i32_w]
      rfl
     refine pure_ (i := 12) (N := some 50) (v := ?_) (a' := ?_) #[true, true, true, true, true, true, true, true, true, true, true, true, true, false, false] rfl rfl (any_of HT_.out (by kernel_rfl)) (fun _ _ _ h => h) (Or.inl ⟨by rfl, ?_⟩) ?_ ?_
     rotate_left
     ·intro w'
      go_simp
      with_reducible rfl
     rotate_left
     ·simp only [Act.put, List.setIfInBounds_toArray, List.set_cons_zero, List.set_cons_succ, i64_w, i32_w]
      rfl
     refine one_ (i := 13) (N := some 9) #[true, true, true, true, true, true, true, true, true, true, true, true, true, true, false] rfl rfl (one_of HT_.out (by kernel_rfl)) (by decide) (fun K hK => ?_)
     refine box_step ?hg (N := 9) ?hd (cs := #[.int .i64 0, .int .i64 0, .int .i64 0, .slice none 0 0]) (t := 26) ?hr ?_; (case hd => rfl); (case hg => rfl); (case hr => first | (go_simp; done) | (go_simp; rfl))
     intro gb330 hg w30 hbox hb
     have n0_ := am_ (Kd.R_below q159_ hb)
     have n1_ := am_ (Kd.R_below q160_ hb)
     have n2_ := am_ (Kd.R_below (by (with_reducible repeat (first | apply Kd.R_alloc | apply Kd.R_drewN | apply Kd.R_drew)); exact HO329.out) hb)
     have n3_ := am_ (IsS56.below q48_ hb)
     have n4_ := am_ (blk_below (g := gb318) (o := .cells #[.int .i64 t307, .int .i64 t308, .int .i64 t309, .slice Ao18 t310.length co18] 26 (0, 0)) q139_ hb)
     have n5_ := am_ (blk_below (g := gb326) (o := .cells #[.int .i64 t319, .int .i64 t320, .int .i64 t321, .slice Ao24 t322.length co24] 26 (0, 0)) q140_ hb)
     have n6_ := am_ (below_step q46_ hb)
     have n7_ := am_ (hbox)
     have n8_ := am_ ((q18_ : w.heap.size ≤ gb330))
     have n9_ := am_ ((q18_ : w.heap.size ≤ gb330))
     have n10_ := am_ ((q14_ : gb318 ≠ gb330))
     have n11_ := am_ ((q15_ : gb330 ≠ gb318))
     have n12_ := am_ ((q16_ : gb326 ≠ gb330))
     have n13_ := am_ ((q17_ : gb330 ≠ gb326))
     have n14_ := am_ ((by rw [hg]; exact Nat.ne_of_lt (IsS56.lt (show IsS56 w _ g306 t304 t317 from by repeat (first | (with_reducible first | exact HI306.out | apply IsS56.alloc | apply IsS56.drewN | apply IsS56.drew | apply IsS56.set_1 | refine IsS56.far ?_ NB306_318.out _ | refine IsS56.far ?_ NB306_326.out _) | exact HI306.out))) : g306 ≠ gb330))
     have n15_ := am_ ((by rw [hg]; exact Nat.ne_of_gt (IsS56.lt (show IsS56 w _ g306 t304 t317 from by repeat (first | (with_reducible first | exact HI306.out | apply IsS56.alloc | apply IsS56.drewN | apply IsS56.drew | apply IsS56.set_1 | refine IsS56.far ?_ NB306_318.out _ | refine IsS56.far ?_ NB306_326.out _) | exact HI306.out))) : gb330 ≠ g306))
     clear HO312
     clear HO324
     clear HO329
     clear HI306
     clear BK318
     clear BK326
     clear HB
     have HO312 := n0_
     have HO324 := n1_
     have HO329 := n2_
     have HI306 := n3_
     have BK318 := n4_
     have BK326 := n5_
     have HB := n6_
     have BK330 := n7_
     have GW330 := n8_
     have GE330 := n9_
     have NB318_330 := n10_
     have NB330_318 := n11_
     have NB326_330 := n12_
     have NB330_326 := n13_
     have NB306_330 := n14_
     have NB330_306 := n15_
     clear n0_ n1_ n2_ n3_ n4_ n5_ n6_ n7_ n8_ n9_ n10_ n11_ n12_ n13_ n14_ n15_
     clear hb hbox hg
     refine hK.out _ _ ⟨(blk_cell BK318.out 0).trans rfl, (blk_cell BK318.out 1).trans rfl, (blk_cell BK318.out 2).trans rfl, (blk_cell BK318.out 3).trans rfl, (blk_cell BK326.out 0).trans rfl, (blk_cell BK326.out 1).trans rfl, (blk_cell BK326.out 2).trans rfl, (blk_cell BK326.out 3).trans rfl⟩ (fun hHeld => ?_)
     clear hK K
     refine norm_ (a' := ?_) ?_ ?_
     rotate_left
     ·show Act.put _ (some 9) _ = _
      simp only [Act.put, List.setIfInBounds_toArray, List.set_cons_zero, List.set_cons_succ, i64_w, i32_w]
      rfl
     exact norm_ q163_ (hCont (.slice Ao29 y327.length co29, gb330) _ ⟨hHeld, q159_, q160_, (by (with_reducible repeat (first | apply Kd.R_alloc | apply Kd.R_drewN | apply Kd.R_drew)); exact Kd.R_mono HO329.out (fun _ hk => ⟨hk.1.2, hk.2⟩)), q139_, q140_, q141_, GW330.out, GE330.out, NB306_330.out, NB330_306.out, NB318_330.out, NB330_318.out, NB326_330.out, NB330_326.out, q21_, q19_⟩)
    ·skip
     refine box_step ?hg (N := 9) ?hd (cs := #[.int .i64 0, .int .i64 0, .int .i64 0, .slice none 0 0]) (t := 26) ?hr ?_; (case hd => rfl); (case hg => rfl); (case hr => first | (go_simp; done) | (go_simp; rfl))
     intro gb330 hg w27 hbox hb
     have n0_ := am_ (Kd.R_below q159_ hb)
     have n1_ := am_ (Kd.R_below q160_ hb)
     have n2_ := am_ (IsS56.below q48_ hb)
     have n3_ := am_ (blk_below (g := gb318) (o := .cells #[.int .i64 t307, .int .i64 t308, .int .i64 t309, .slice Ao18 t310.length co18] 26 (0, 0)) q139_ hb)
     have n4_ := am_ (blk_below (g := gb326) (o := .cells #[.int .i64 t319, .int .i64 t320, .int .i64 t321, .slice Ao24 t322.length co24] 26 (0, 0)) q140_ hb)
     have n5_ := am_ (below_step q46_ hb)
     have n6_ := am_ (hbox)
     have n7_ := am_ ((q18_ : w.heap.size ≤ gb330))
     have n8_ := am_ ((q18_ : w.heap.size ≤ gb330))
     have n9_ := am_ ((q14_ : gb318 ≠ gb330))
     have n10_ := am_ ((q15_ : gb330 ≠ gb318))
     have n11_ := am_ ((q16_ : gb326 ≠ gb330))
     have n12_ := am_ ((q17_ : gb330 ≠ gb326))
     have n13_ := am_ ((by rw [hg]; exact Nat.ne_of_lt (IsS56.lt (show IsS56 w _ g306 t304 t317 from by repeat (first | (with_reducible first | exact HI306.out | apply IsS56.alloc | apply IsS56.drewN | apply IsS56.drew | apply IsS56.set_1 | refine IsS56.far ?_ NB306_318.out _ | refine IsS56.far ?_ NB306_326.out _) | exact HI306.out))) : g306 ≠ gb330))
     have n14_ := am_ ((by rw [hg]; exact Nat.ne_of_gt (IsS56.lt (show IsS56 w _ g306 t304 t317 from by repeat (first | (with_reducible first | exact HI306.out | apply IsS56.alloc | apply IsS56.drewN | apply IsS56.drew | apply IsS56.set_1 | refine IsS56.far ?_ NB306_318.out _ | refine IsS56.far ?_ NB306_326.out _) | exact HI306.out))) : gb330 ≠ g306))
     clear HO312
     clear HO324
     clear HI306
     clear BK318
     clear BK326
     clear HB
     have HO312 := n0_
     have HO324 := n1_
     have HI306 := n2_
     have BK318 := n3_
     have BK326 := n4_
     have HB := n5_
     have BK330 := n6_
     have GW330 := n7_
     have GE330 := n8_
     have NB318_330 := n9_
     have NB330_318 := n10_
     have NB326_330 := n11_
     have NB330_326 := n12_
     have NB306_330 := n13_
     have NB330_306 := n14_
     clear n0_ n1_ n2_ n3_ n4_ n5_ n6_ n7_ n8_ n9_ n10_ n11_ n12_ n13_ n14_
     clear hb hbox hg
     refine hK.out _ _ ⟨(blk_cell BK318.out 0).trans rfl, (blk_cell BK318.out 1).trans rfl, (blk_cell BK318.out 2).trans rfl, (blk_cell BK318.out 3).trans rfl, (blk_cell BK326.out 0).trans rfl, (blk_cell BK326.out 1).trans rfl, (blk_cell BK326.out 2).trans rfl, (blk_cell BK326.out 3).trans rfl⟩ (fun hHeld => ?_)
     clear hK K
     refine norm_ (a' := ?_) ?_ ?_
     rotate_left
     ·show Act.put _ (some 9) _ = _
      simp only [Act.put, List.setIfInBounds_toArray, List.set_cons_zero, List.set_cons_succ, i64_w, i32_w]
      rfl
     refine one_ (i := 11) (N := some 49) #[true, true, true, true, true, true, true, true, true, true, true, true, false, true, false] rfl rfl (one_of HT_.out (by kernel_rfl)) (by decide) (fun K hK => ?_)
     refine Kd.R_make_step (Kd.int .i64) _ 3 (by rfl) (N := 49) rfl 22 _ _ rfl ji7 rfl rfl Try.underlying22 (.int .i64 0) 8 info3 rfl (by decide) (by omega) 0 (ok := fun _ => True) (okp := fun _ => True) rfl (fun _ hk => hk) trivial (of_decide_eq_true q167_) (Nat.le_trans (Nat.mul_le_mul_right _ (of_decide_eq_true q167_ : ji7.toNat ≤ 35184372088832)) (by omega)) (Below.refl _ _) (Nat.le_refl _) ?_
     intro v328 w28 ho29 hb hg_ hnew_
     clear hg_ hnew_
     (first | rw [← Ny327.out] at ho29 | (simp only [Int.reduceToNat] at ho29; rw [← Ny327.out] at ho29))
     have n0_ := am_ (Kd.R_elder' q159_ (Kd.R_base ho29) hb)
     have n1_ := am_ (Kd.R_elder' q160_ (Kd.R_base ho29) hb)
     have n2_ := am_ (Kd.R_lower (Kd.R_new' (Kd.R_new' ho29 (Kd.R_lt q159_)) (Kd.R_lt q160_)) (below_size q19_))
     have n3_ := am_ (IsS56.below q21_ hb)
     have n4_ := am_ (blk_below (g := gb318) (o := .cells #[.int .i64 t307, .int .i64 t308, .int .i64 t309, .slice Ao18 t310.length co18] 26 (0, 0)) q139_ hb)
     have n5_ := am_ (blk_below (g := gb326) (o := .cells #[.int .i64 t319, .int .i64 t320, .int .i64 t321, .slice Ao24 t322.length co24] 26 (0, 0)) q140_ hb)
     have n6_ := am_ (blk_below (g := gb330) (o := .cells #[.int .i64 0, .int .i64 0, .int .i64 0, .slice none 0 0] 26 (0, 0)) q141_ hb)
     have n7_ := am_ (below_step q19_ hb)
     clear HO312
     clear HO324
     clear HI306
     clear BK318
     clear BK326
     clear BK330
     clear HB
     have HO312 := n0_
     have HO324 := n1_
     have HO329 := n2_
     have HI306 := n3_
     have BK318 := n4_
     have BK326 := n5_
     have BK330 := n6_
     have HB := n7_
     clear n0_ n1_ n2_ n3_ n4_ n5_ n6_ n7_
     clear hb ho29
     obtain ⟨Ao30, co30, eo30⟩ := Kd.R_slice HO329.out
     (first | subst eo30 | (injection eo30 with f1_ f2_ f3_; have f4_ := f1_.symm; have f5_ := f3_.symm; clear f1_ f2_ f3_; subst f4_; subst f5_))
     refine hK.out _ _ ⟨(blk_cell BK318.out 0).trans rfl, (blk_cell BK318.out 1).trans rfl, (blk_cell BK318.out 2).trans rfl, (blk_cell BK318.out 3).trans rfl, (blk_cell BK326.out 0).trans rfl, (blk_cell BK326.out 1).trans rfl, (blk_cell BK326.out 2).trans rfl, (blk_cell BK326.out 3).trans rfl⟩ (fun hHeld => ?_)
     clear hK K
     refine norm_ (a' := ?_) ?_ ?_
     rotate_left
     ·show Act.put _ (some 49) _ = _
      simp only [Act.put, List.setIfInBounds_toArray, List.set_cons_zero, List.set_cons_succ, i64_w, i32_w]
      rfl
     refine pure_ (i := 12) (N := some 50) (v := ?_) (a' := ?_) #[true, true, true, true, true, true, true, true, true, true, true, true, true, true, false] rfl rfl (any_of HT_.out (by kernel_rfl)) (fun _ _ _ h => h) (Or.inl ⟨by rfl, ?_⟩) ?_ ?_
     rotate_left
     ·intro w'
      go_simp
      with_reducible rfl
     rotate_left
     ·simp only [Act.put, List.setIfInBounds_toArray, List.set_cons_zero, List.set_cons_succ, i64_w, i32_w]
      rfl
     exact norm_ q163_ (hCont (.slice Ao30 y327.length co30, gb330) _ ⟨hHeld, q159_, q160_, (by (with_reducible repeat (first | apply Kd.R_alloc | apply Kd.R_drewN | apply Kd.R_drew)); exact Kd.R_mono HO329.out (fun _ hk => ⟨hk.1.2, hk.2⟩)), q139_, q140_, q141_, GW330.out, GE330.out, NB306_330.out, NB330_306.out, NB318_330.out, NB330_318.out, NB326_330.out, NB330_326.out, q21_, q19_⟩)
   rintro ⟨v328, gb330⟩ w31 ⟨hS_, h0_, h1_, h2_, h3_, h4_, h5_, h6_, h7_, h8_, h9_, h10_, h11_, h12_, h13_, h14_, h15_⟩
   have n0_ : Aside0 (Kd.R (Kd.int .i64) 3 w31 w.heap.size (fun k_ => some k_ ≠ (.slice Ao24 t322.length co24 : Value).ownBlock ∧ some k_ ≠ (v328 : Value).ownBlock) (.slice Ao18 t310.length co18) t310) := ⟨h0_⟩
   have n1_ : Aside0 (Kd.R (Kd.int .i64) 3 w31 w.heap.size (fun k_ => some k_ ≠ (.slice Ao18 t310.length co18 : Value).ownBlock ∧ some k_ ≠ (v328 : Value).ownBlock) (.slice Ao24 t322.length co24) t322) := ⟨h1_⟩
   have n2_ : Aside0 (Kd.R (Kd.int .i64) 3 w31 w.heap.size (fun k_ => some k_ ≠ (.slice Ao18 t310.length co18 : Value).ownBlock ∧ some k_ ≠ (.slice Ao24 t322.length co24 : Value).ownBlock) v328 y327) := ⟨h2_⟩
   have n3_ : Aside0 (w31.heap[gb318]? = some (.cells #[.int .i64 t307, .int .i64 t308, .int .i64 t309, .slice Ao18 t310.length co18] 26 (0, 0))) := ⟨h3_⟩
   have n4_ : Aside0 (w31.heap[gb326]? = some (.cells #[.int .i64 t319, .int .i64 t320, .int .i64 t321, .slice Ao24 t322.length co24] 26 (0, 0))) := ⟨h4_⟩
   have n5_ : Aside0 (w31.heap[gb330]? = some (.cells #[.int .i64 0, .int .i64 0, .int .i64 0, .slice none 0 0] 26 (0, 0))) := ⟨h5_⟩
   have n6_ : Aside0 (w.heap.size ≤ gb330) := ⟨h6_⟩
   have n7_ : Aside0 (w.heap.size ≤ gb330) := ⟨h7_⟩
   have n8_ : Aside0 (g306 ≠ gb330) := ⟨h8_⟩
   have n9_ : Aside0 (gb330 ≠ g306) := ⟨h9_⟩
   have n10_ : Aside0 (gb318 ≠ gb330) := ⟨h10_⟩
   have n11_ : Aside0 (gb330 ≠ gb318) := ⟨h11_⟩
   have n12_ : Aside0 (gb326 ≠ gb330) := ⟨h12_⟩
   have n13_ : Aside0 (gb330 ≠ gb326) := ⟨h13_⟩
   have n14_ : Aside0 (IsS56 w w31 g306 t304 t317) := ⟨h14_⟩
   have n15_ : Aside0 (Below w.heap.size w w31) := ⟨h15_⟩
   clear HO312
   clear HO324
   clear BK318
   clear BK326
   clear HI306
   clear HB
   clear h0_ h1_ h2_ h3_ h4_ h5_ h6_ h7_ h8_ h9_ h10_ h11_ h12_ h13_ h14_ h15_
   have HO312 := n0_
   have HO324 := n1_
   have HO329 := n2_
   have BK318 := n3_
   have BK326 := n4_
   have BK330 := n5_
   have GW330 := n6_
   have GE330 := n7_
   have NB306_330 := n8_
   have NB330_306 := n9_
   have NB318_330 := n10_
   have NB330_318 := n11_
   have NB326_330 := n12_
   have NB330_326 := n13_
   have HI306 := n14_
   have HB := n15_
   clear n0_ n1_ n2_ n3_ n4_ n5_ n6_ n7_ n8_ n9_ n10_ n11_ n12_ n13_ n14_ n15_
   have hHeld : w31.cell? ⟨gb318, 0, none⟩ = some (.int .i64 t307) ∧ w31.cell? ⟨gb318, 1, none⟩ = some (.int .i64 t308) ∧ w31.cell? ⟨gb318, 2, none⟩ = some (.int .i64 t309) ∧ w31.cell? ⟨gb318, 3, none⟩ = some (.slice Ao18 t310.length co18) ∧ w31.cell? ⟨gb326, 0, none⟩ = some (.int .i64 t319) ∧ w31.cell? ⟨gb326, 1, none⟩ = some (.int .i64 t320) ∧ w31.cell? ⟨gb326, 2, none⟩ = some (.int .i64 t321) ∧ w31.cell? ⟨gb326, 3, none⟩ = some (.slice Ao24 t322.length co24) := hS_
   obtain ⟨Ao32, co32, eo32⟩ := Kd.R_slice HO329.out
   (first | subst eo32 | (injection eo32 with f1_ f2_ f3_; have f4_ := f1_.symm; have f5_ := f3_.symm; clear f1_ f2_ f3_; subst f4_; subst f5_))
   refine norm_ (a' := ?_) ?_ ?_
   rotate_left
   ·simp only [putAll, Act.put, List.setIfInBounds_toArray, List.set_cons_zero, List.set_cons_succ]
    rfl
   refine one_ (i := 14) (N := none) #[true, true, true, true, true, true, true, true, true, true, true, true, true, true, true] rfl rfl (one_of HT_.out (by kernel_rfl)) (by decide) (fun K hK => ?_)
   have hs33 : w31.cell? ⟨gb330, 0, none⟩ = some (.int .i64 0) := (blk_cell BK330.out 0).trans rfl
   have hfs33 := blk_frozen BK330.out 0
   have hns33_0 := NB318_330.out
   have hns33_1 := NB326_330.out
   have hms33_0 := NB330_318.out
   have hms33_1 := NB330_326.out
   have hs34 : w31.cell? ⟨gb330, 1, none⟩ = some (.int .i64 0) := (blk_cell BK330.out 1).trans rfl
   have hfs34 := blk_frozen BK330.out 1
   have hns34_0 := NB318_330.out
   have hns34_1 := NB326_330.out
   have hms34_0 := NB330_318.out
   have hms34_1 := NB330_326.out
   have hs35 : w31.cell? ⟨gb330, 2, none⟩ = some (.int .i64 0) := (blk_cell BK330.out 2).trans rfl
   have hfs35 := blk_frozen BK330.out 2
   have hns35_0 := NB318_330.out
   have hns35_1 := NB326_330.out
   have hms35_0 := NB330_318.out
   have hms35_1 := NB330_326.out
   have hs36 : w31.cell? ⟨gb330, 3, none⟩ = some (.slice none 0 0) := (blk_cell BK330.out 3).trans rfl
   have hfs36 := blk_frozen BK330.out 3
   have hns36_0 := NB318_330.out
   have hns36_1 := NB326_330.out
   have hms36_0 := NB330_318.out
   have hms36_1 := NB330_326.out
   refine skip_ (w1 := ?_) (by rfl) rfl ?_ ?_
   rotate_left
   ·go_simp
    rfl
   refine hK.out _ _ ⟨((cell_far (p := ⟨gb330, _, none⟩) NB318_330.out _).trans (((cell_far (p := ⟨gb330, _, none⟩) NB318_330.out _).trans (((cell_far (p := ⟨gb330, _, none⟩) NB318_330.out _).trans (((cell_far (p := ⟨gb330, _, none⟩) NB318_330.out _).trans (hHeld.1)))))))), ((cell_far (p := ⟨gb330, _, none⟩) NB318_330.out _).trans (((cell_far (p := ⟨gb330, _, none⟩) NB318_330.out _).trans (((cell_far (p := ⟨gb330, _, none⟩) NB318_330.out _).trans (((cell_far (p := ⟨gb330, _, none⟩) NB318_330.out _).trans (hHeld.2.1)))))))), ((cell_far (p := ⟨gb330, _, none⟩) NB318_330.out _).trans (((cell_far (p := ⟨gb330, _, none⟩) NB318_330.out _).trans (((cell_far (p := ⟨gb330, _, none⟩) NB318_330.out _).trans (((cell_far (p := ⟨gb330, _, none⟩) NB318_330.out _).trans (hHeld.2.2.1)))))))), ((cell_far (p := ⟨gb330, _, none⟩) NB318_330.out _).trans (((cell_far (p := ⟨gb330, _, none⟩) NB318_330.out _).trans (((cell_far (p := ⟨gb330, _, none⟩) NB318_330.out _).trans (((cell_far (p := ⟨gb330, _, none⟩) NB318_330.out _).trans (hHeld.2.2.2.1)))))))), ((cell_far (p := ⟨gb330, _, none⟩) NB326_330.out _).trans (((cell_far (p := ⟨gb330, _, none⟩) NB326_330.out _).trans (((cell_far (p := ⟨gb330, _, none⟩) NB326_330.out _).trans (((cell_far (p := ⟨gb330, _, none⟩) NB326_330.out _).trans (hHeld.2.2.2.2.1)))))))), ((cell_far (p := ⟨gb330, _, none⟩) NB326_330.out _).trans (((cell_far (p := ⟨gb330, _, none⟩) NB326_330.out _).trans (((cell_far (p := ⟨gb330, _, none⟩) NB326_330.out _).trans (((cell_far (p := ⟨gb330, _, none⟩) NB326_330.out _).trans (hHeld.2.2.2.2.2.1)))))))), ((cell_far (p := ⟨gb330, _, none⟩) NB326_330.out _).trans (((cell_far (p := ⟨gb330, _, none⟩) NB326_330.out _).trans (((cell_far (p := ⟨gb330, _, none⟩) NB326_330.out _).trans (((cell_far (p := ⟨gb330, _, none⟩) NB326_330.out _).trans (hHeld.2.2.2.2.2.2.1)))))))), ((cell_far (p := ⟨gb330, _, none⟩) NB326_330.out _).trans (((cell_far (p := ⟨gb330, _, none⟩) NB326_330.out _).trans (((cell_far (p := ⟨gb330, _, none⟩) NB326_330.out _).trans (((cell_far (p := ⟨gb330, _, none⟩) NB326_330.out _).trans (hHeld.2.2.2.2.2.2.2))))))))⟩ (fun hHeld => ?_)
   clear hK K
   refine done_ (done_of HT_.out (by kernel_rfl)) ?_
   have hnb37 := NB318_330.out
   have hnc37 := NB330_318.out
   have hcz38_0 : w31.cell? ⟨gb318, 0, none⟩ = some (.int .i64 t307) := (blk_cell BK318.out 0).trans rfl
   have hcz38_1 : w31.cell? ⟨gb318, 1, none⟩ = some (.int .i64 t308) := (blk_cell BK318.out 1).trans rfl
   have hcz38_2 : w31.cell? ⟨gb318, 2, none⟩ = some (.int .i64 t309) := (blk_cell BK318.out 2).trans rfl
   have hcz38_3 : w31.cell? ⟨gb318, 3, none⟩ = some (.slice Ao18 t310.length co18) := (blk_cell BK318.out 3).trans rfl
   have hfz38_0 := blk_frozen BK318.out 0
   have hfz38_1 := blk_frozen BK318.out 1
   have hfz38_2 := blk_frozen BK318.out 2
   have hfz38_3 := blk_frozen BK318.out 3
   try go_wp2_with (first | ((with_reducible refine gate_callee (f := 24) rfl ?_); refine goesL_ (some 58) rfl rfl Try.func24 (by kernel_rfl) rfl #[.int .i64 t307, .int .i64 t308, .int .i64 (wrap64 (1 + t314)), .int .i64 (wrap64 (1 + t316))] rfl q107_ ?_; (with_reducible refine (grid_Count.calls k t307 t308 (wrap64 (1 + t314)) (wrap64 (1 + t316)) t331 t332 _ A10.out).mono ?_); rintro e w' ⟨rfl, ⟨nd, rfl⟩⟩; refine ⟨_, rfl, ?_⟩))
   go_loopg [12] k (fun kq v12 w' => ∃ (x12_1 : Int) (x331000_1 : Int) (x331001_1 : Int) (x331002_1 : Int) (x331003_1 : List Int) (u331003 : Value), v12 = .int .i64 x12_1 ∧ Aside0 (tilefarmlaw13_IntegralGrows.l0 kq (wrap64 (1 + t314)) (wrap64 (1 + t316)) t325 t331 t332 x12_1 t307 t308 t309 t310 t319 t320 t321 t322 x331000_1 x331001_1 x331002_1 x331003_1 = some r) ∧ Aside0 (kq ≤ k) ∧ Aside0 (Kd.R (Kd.int .i64) 3 w' w.heap.size (fun k_ => some k_ ≠ ((.slice Ao24 t322.length co24) : Value).ownBlock ∧ some k_ ≠ (u331003 : Value).ownBlock) (.slice Ao18 t310.length co18) t310) ∧ Aside0 (Kd.R (Kd.int .i64) 3 w' w.heap.size (fun k_ => some k_ ≠ ((.slice Ao18 t310.length co18) : Value).ownBlock ∧ some k_ ≠ (u331003 : Value).ownBlock) (.slice Ao24 t322.length co24) t322) ∧ Aside0 (Kd.R (Kd.int .i64) 3 w' w.heap.size (fun k_ => some k_ ≠ ((.slice Ao18 t310.length co18) : Value).ownBlock ∧ some k_ ≠ ((.slice Ao24 t322.length co24) : Value).ownBlock) u331003 x331003_1) ∧ Aside0 (w'.heap[gb318]? = some (.cells #[.int .i64 t307, .int .i64 t308, .int .i64 t309, (.slice Ao18 t310.length co18)] 26 (0, 0))) ∧ Aside0 (w'.heap[gb326]? = some (.cells #[.int .i64 t319, .int .i64 t320, .int .i64 t321, (.slice Ao24 t322.length co24)] 26 (0, 0))) ∧ Aside0 (w'.heap[gb330]? = some (.cells #[.int .i64 x331000_1, .int .i64 x331001_1, .int .i64 x331002_1, u331003] 26 (0, 0))) ∧ Aside0 (Below w.heap.size w w'))
   case atStart => exact ⟨(0), (t307), (t308), (t321), (y327), (.slice Ao32 y327.length co32), q169_, H', ⟨Nat.le_refl _⟩, ⟨by (with_reducible repeat (first | apply Kd.R_alloc | apply Kd.R_drewN | apply Kd.R_drew)); exact Kd.R_mono (Kd.R_far (p := ⟨gb330, 3, none⟩) (Kd.R_far (p := ⟨gb330, 2, none⟩) (Kd.R_far (p := ⟨gb330, 1, none⟩) (Kd.R_far (p := ⟨gb330, 0, none⟩) (Kd.R_types HO312.out BK330.out (by decide)) (fun _ hk => hk.2) (.int .i64 t307)) (fun _ hk => hk.2) (.int .i64 t308)) (fun _ hk => hk.2) (.int .i64 t321)) (fun _ hk => hk.2) (.slice Ao32 y327.length co32)) (fun _ hk => ⟨hk.1.1, hk.1.2⟩)⟩, ⟨by (with_reducible repeat (first | apply Kd.R_alloc | apply Kd.R_drewN | apply Kd.R_drew)); exact Kd.R_mono (Kd.R_far (p := ⟨gb330, 3, none⟩) (Kd.R_far (p := ⟨gb330, 2, none⟩) (Kd.R_far (p := ⟨gb330, 1, none⟩) (Kd.R_far (p := ⟨gb330, 0, none⟩) (Kd.R_types HO324.out BK330.out (by decide)) (fun _ hk => hk.2) (.int .i64 t307)) (fun _ hk => hk.2) (.int .i64 t308)) (fun _ hk => hk.2) (.int .i64 t321)) (fun _ hk => hk.2) (.slice Ao32 y327.length co32)) (fun _ hk => ⟨hk.1.1, hk.1.2⟩)⟩, ⟨by (with_reducible repeat (first | apply Kd.R_alloc | apply Kd.R_drewN | apply Kd.R_drew)); exact Kd.R_mono (Kd.R_far (p := ⟨gb330, 3, none⟩) (Kd.R_far (p := ⟨gb330, 2, none⟩) (Kd.R_far (p := ⟨gb330, 1, none⟩) (Kd.R_far (p := ⟨gb330, 0, none⟩) (Kd.R_types HO329.out BK330.out (by decide)) (fun _ hk => hk.2) (.int .i64 t307)) (fun _ hk => hk.2) (.int .i64 t308)) (fun _ hk => hk.2) (.int .i64 t321)) (fun _ hk => hk.2) (.slice Ao32 y327.length co32)) (fun _ hk => ⟨hk.1.1, hk.1.2⟩)⟩, ⟨by (with_reducible repeat (first | refine blk_drewN ?_ _ | refine blk_drew ?_ | refine blk_alloc ?_ _)); refine blk_far ?_ NB318_330.out _; (with_reducible repeat (first | refine blk_drewN ?_ _ | refine blk_drew ?_ | refine blk_alloc ?_ _)); refine blk_far ?_ NB318_330.out _; (with_reducible repeat (first | refine blk_drewN ?_ _ | refine blk_drew ?_ | refine blk_alloc ?_ _)); refine blk_far ?_ NB318_330.out _; (with_reducible repeat (first | refine blk_drewN ?_ _ | refine blk_drew ?_ | refine blk_alloc ?_ _)); refine blk_far ?_ NB318_330.out _; (with_reducible repeat (first | refine blk_drewN ?_ _ | refine blk_drew ?_ | refine blk_alloc ?_ _)); exact BK318.out⟩, ⟨by (with_reducible repeat (first | refine blk_drewN ?_ _ | refine blk_drew ?_ | refine blk_alloc ?_ _)); refine blk_far ?_ NB326_330.out _; (with_reducible repeat (first | refine blk_drewN ?_ _ | refine blk_drew ?_ | refine blk_alloc ?_ _)); refine blk_far ?_ NB326_330.out _; (with_reducible repeat (first | refine blk_drewN ?_ _ | refine blk_drew ?_ | refine blk_alloc ?_ _)); refine blk_far ?_ NB326_330.out _; (with_reducible repeat (first | refine blk_drewN ?_ _ | refine blk_drew ?_ | refine blk_alloc ?_ _)); refine blk_far ?_ NB326_330.out _; (with_reducible repeat (first | refine blk_drewN ?_ _ | refine blk_drew ?_ | refine blk_alloc ?_ _)); exact BK326.out⟩, ⟨by (with_reducible repeat (first | refine blk_drewN ?_ _ | refine blk_drew ?_ | refine blk_alloc ?_ _)); refine blk_put (cs := #[.int .i64 t307, .int .i64 t308, .int .i64 t321, .slice none 0 0]) ?_ 3 _ rfl; (with_reducible repeat (first | refine blk_drewN ?_ _ | refine blk_drew ?_ | refine blk_alloc ?_ _)); refine blk_put (cs := #[.int .i64 t307, .int .i64 t308, .int .i64 0, .slice none 0 0]) ?_ 2 _ rfl; (with_reducible repeat (first | refine blk_drewN ?_ _ | refine blk_drew ?_ | refine blk_alloc ?_ _)); refine blk_put (cs := #[.int .i64 t307, .int .i64 0, .int .i64 0, .slice none 0 0]) ?_ 1 _ rfl; (with_reducible repeat (first | refine blk_drewN ?_ _ | refine blk_drew ?_ | refine blk_alloc ?_ _)); refine blk_put (cs := #[.int .i64 0, .int .i64 0, .int .i64 0, .slice none 0 0]) ?_ 0 _ rfl; (with_reducible repeat (first | refine blk_drewN ?_ _ | refine blk_drew ?_ | refine blk_alloc ?_ _)); exact BK330.out⟩, ⟨q19_⟩⟩
   case round =>
    clear H'
    try clear c1
    try clear c2
    try clear p2
    try clear c3
    try clear p6
    try clear c7
    try clear c8
    try clear c8b0
    try clear c8b1
    try clear c9
    try clear c9b0
    try clear c9b1
    try clear c10
    try clear c12
    try clear c16
    try clear c21
    try clear c22
    try clear c24
    try clear c37
    try clear hcz17_0
    try clear hcz17_1
    try clear hcz17_2
    try clear hcz17_3
    try clear hcz23_0
    try clear hcz23_1
    try clear hcz23_2
    try clear hcz23_3
    try clear hcz38_0
    try clear hcz38_1
    try clear hcz38_2
    try clear hcz38_3
    try clear hfz17_0
    try clear hfz17_1
    try clear hfz17_2
    try clear hfz17_3
    try clear hfz23_0
    try clear hfz23_1
    try clear hfz23_2
    try clear hfz23_3
    try clear hfz38_0
    try clear hfz38_1
    try clear hfz38_2
    try clear hfz38_3
    obtain ⟨x12_1, x331000_1, x331001_1, x331002_1, x331003_1, u331003, rfl, HA, HK1, HO_319003, HO_327003, HO_331003, BK318, BK326, BK330, HB⟩ := hrel
    cases gk with
    | zero => exact absurd HA.out (by simp [tilefarmlaw13_IntegralGrows.l0])
    | succ k1 =>
     have H := HA.out
     clear HA
     simp only [tilefarmlaw13_IntegralGrows.l0] at H
     have HC39 := am_ H
     clear H
     go_upto_region 7 with (fail)
     go_cut [69] (fun v69 wc => ∃ (kq : Nat) (x69_38 : Bool), v69 = .bool x69_38 ∧ Aside0 (tilefarmlaw13_IntegralGrows.j1 kq (wrap64 (1 + t314)) (wrap64 (1 + t316)) t325 t331 t332 x12_1 x69_38 t307 t308 t309 t310 t319 t320 t321 t322 x331000_1 x331001_1 x331002_1 x331003_1 = some r) ∧ Aside0 (kq ≤ k1) ∧ Aside0 (Kd.R (Kd.int .i64) 3 wc w.heap.size (fun k_ => some k_ ≠ ((.slice Ao24 t322.length co24) : Value).ownBlock ∧ some k_ ≠ (u331003 : Value).ownBlock) (.slice Ao18 t310.length co18) t310) ∧ Aside0 (Kd.R (Kd.int .i64) 3 wc w.heap.size (fun k_ => some k_ ≠ ((.slice Ao18 t310.length co18) : Value).ownBlock ∧ some k_ ≠ (u331003 : Value).ownBlock) (.slice Ao24 t322.length co24) t322) ∧ Aside0 (Kd.R (Kd.int .i64) 3 wc w.heap.size (fun k_ => some k_ ≠ ((.slice Ao18 t310.length co18) : Value).ownBlock ∧ some k_ ≠ ((.slice Ao24 t322.length co24) : Value).ownBlock) u331003 x331003_1) ∧ Aside0 (wc.heap[gb318]? = some (.cells #[.int .i64 t307, .int .i64 t308, .int .i64 t309, (.slice Ao18 t310.length co18)] 26 (0, 0))) ∧ Aside0 (wc.heap[gb326]? = some (.cells #[.int .i64 t319, .int .i64 t320, .int .i64 t321, (.slice Ao24 t322.length co24)] 26 (0, 0))) ∧ Aside0 (wc.heap[gb330]? = some (.cells #[.int .i64 x331000_1, .int .i64 x331001_1, .int .i64 x331002_1, u331003] 26 (0, 0))) ∧ Aside0 (Below w.heap.size w wc))
     case first =>
      have H := HC39.out
      clear HC39
      by_cases c40 : x12_1 < (wrap64 (t331 * t332))
      ·rw [if_pos c40] at H
       have c40b0 : decide (x12_1 < (wrap64 (t331 * t332))) = true := decide_eq_true c40
       clear c40
       (first | rw [c40b0] | (simp only [i64_w, i32_w]; rw [c40b0]) | skip)
       have H' := am_ H
       clear H
       go_wp2
       go_meet
       case rel => exact ⟨_, ((t325 == 0)), q169_, q168_, ⟨by have := HK1.out; first | omega | exact Nat.le_refl _⟩, ⟨q146_⟩, ⟨q147_⟩, ⟨q148_⟩, ⟨q139_⟩, ⟨q140_⟩, ⟨q141_⟩, ⟨q53_⟩⟩
      ·rw [if_neg c40] at H
       have c40b0 : decide (x12_1 < (wrap64 (t331 * t332))) = false := decide_eq_false c40
       clear c40
       (first | rw [c40b0] | (simp only [i64_w, i32_w]; rw [c40b0]) | skip)
       have H' := am_ H
       clear H
       go_wp2
       go_meet
       case rel => exact ⟨_, (false), q169_, q168_, ⟨by have := HK1.out; first | omega | exact Nat.le_refl _⟩, ⟨q146_⟩, ⟨q147_⟩, ⟨q148_⟩, ⟨q139_⟩, ⟨q140_⟩, ⟨q141_⟩, ⟨q53_⟩⟩
     case rest =>
      clear HC39
      try clear c1
      try clear c2
      try clear p2
      try clear c3
      try clear c4
      try clear p6
      try clear c7
      try clear c8
      try clear c8b0
      try clear c8b1
      try clear c9
      try clear c9b0
      try clear c9b1
      try clear c10
      try clear c12
      try clear c16
      try clear c21
      try clear c22
      try clear c24
      try clear c37
      try clear c40
      try clear c40b0
      try clear hcz17_0
      try clear hcz17_1
      try clear hcz17_2
      try clear hcz17_3
      try clear hcz23_0
      try clear hcz23_1
      try clear hcz23_2
      try clear hcz23_3
      try clear hcz38_0
      try clear hcz38_1
      try clear hcz38_2
      try clear hcz38_3
      try clear hfz17_0
      try clear hfz17_1
      try clear hfz17_2
      try clear hfz17_3
      try clear hfz23_0
      try clear hfz23_1
      try clear hfz23_2
      try clear hfz23_3
      try clear hfz38_0
      try clear hfz38_1
      try clear hfz38_2
      try clear hfz38_3
      try clear p2
      try clear p6
      obtain ⟨kq, x69_38, rfl, HA, HJ38, HO_319003, HO_327003, HO_331003, BK318, BK326, BK330, HB⟩ := hcut
      cases kq with
      | zero => exact absurd HA.out (by simp [tilefarmlaw13_IntegralGrows.j1])
      | succ kj38 =>
       have H := HA.out
       clear HA
       simp only [tilefarmlaw13_IntegralGrows.j1] at H
       by_cases c41 : x69_38 = true
       ·subst c41
        have H1 : ((grid_Tile.f kj38 t307 t308 (wrap64 (1 + t314)) (wrap64 (1 + t316)) x12_1).bind fun bt335 => (tilefarmlaw13_IntegralGrows.l1 kj38 (wrap64 (1 + t314)) (wrap64 (1 + t316)) t325 t331 t332 x12_1 ([] : List Int) bt335.2.1 t307 t308 t309 t310 t319 t320 t321 t322 x331000_1 x331001_1 x331002_1 x331003_1 bt335.1 bt335.2.1 bt335.2.2.1 bt335.2.2.2.1)) = some r := by rw [if_pos rfl] at H; exact H
        clear H
        have H := H1
        clear H1
        replace H := Option.bind_eq_some_iff.mp H
        obtain ⟨⟨t335, t336, t337, t338, t339⟩, A420, H⟩ := H
        replace H : (tilefarmlaw13_IntegralGrows.l1 kj38 (wrap64 (1 + t314)) (wrap64 (1 + t316)) t325 t331 t332 x12_1 ([] : List Int) t336 t307 t308 t309 t310 t319 t320 t321 t322 x331000_1 x331001_1 x331002_1 x331003_1 t335 t336 t337 t338) = some r := H
        have A42 := am_ A420
        clear A420
        have H' := am_ H
        clear H
        have hnb43 := NB318_326.out
        have hnc43 := NB326_318.out
        have hnb44 := NB318_330.out
        have hnc44 := NB330_318.out
        have hcz45_0 : wc.cell? ⟨gb318, 0, none⟩ = some (.int .i64 t307) := (blk_cell BK318.out 0).trans rfl
        have hcz45_1 : wc.cell? ⟨gb318, 1, none⟩ = some (.int .i64 t308) := (blk_cell BK318.out 1).trans rfl
        have hcz45_2 : wc.cell? ⟨gb318, 2, none⟩ = some (.int .i64 t309) := (blk_cell BK318.out 2).trans rfl
        have hcz45_3 : wc.cell? ⟨gb318, 3, none⟩ = some (.slice Ao18 t310.length co18) := (blk_cell BK318.out 3).trans rfl
        have hfz45_0 := blk_frozen BK318.out 0
        have hfz45_1 := blk_frozen BK318.out 1
        have hfz45_2 := blk_frozen BK318.out 2
        have hfz45_3 := blk_frozen BK318.out 3
        go_wp2_with (first | ((with_reducible refine gate_callee (f := 25) rfl ?_); refine goesL_ (some 80) rfl rfl Try.func25 (by kernel_rfl) rfl #[.int .i64 t307, .int .i64 t308, .int .i64 (wrap64 (1 + t314)), .int .i64 (wrap64 (1 + t316)), .int .i64 x12_1] rfl q107_ ?_; (with_reducible refine (grid_Tile.calls kj38 t307 t308 (wrap64 (1 + t314)) (wrap64 (1 + t316)) x12_1 t335 t336 t337 t338 t339 _ A42.out).mono ?_); rintro e w46 ⟨rfl, hb⟩; refine ⟨_, rfl, ?_⟩; have n0_ := am_ (Kd.R_below q146_ hb); have n1_ := am_ (Kd.R_below q147_ hb); have n2_ := am_ (Kd.R_below q148_ hb); have n3_ := am_ (blk_below (g := gb318) (o := .cells #[.int .i64 t307, .int .i64 t308, .int .i64 t309, .slice Ao18 t310.length co18] 26 (0, 0)) q139_ hb); have n4_ := am_ (blk_below (g := gb326) (o := .cells #[.int .i64 t319, .int .i64 t320, .int .i64 t321, .slice Ao24 t322.length co24] 26 (0, 0)) q140_ hb); have n5_ := am_ (blk_below (g := gb330) (o := .cells #[.int .i64 x331000_1, .int .i64 x331001_1, .int .i64 x331002_1, u331003] 26 (0, 0)) q141_ hb); have n6_ := am_ (below_step q53_ hb); clear HO_319003; clear HO_327003; clear HO_331003; clear BK318; clear BK326; clear BK330; clear HB; have HO_319003 := n0_; have HO_327003 := n1_; have HO_331003 := n2_; have BK318 := n3_; have BK326 := n4_; have BK330 := n5_; have HB := n6_; clear n0_ n1_ n2_ n3_ n4_ n5_ n6_) | ((with_reducible refine gate_dst (N := 13) rfl ?_); refine box_event ?hg (N := 13) ?hd (cs := #[.int .i64 0, .int .i64 0, .int .i64 0, .int .i64 0]) (t := 32) ?hr ?_; (case hd => rfl); (case hg => rfl); (case hr => first | (go_simp; done) | (go_simp; rfl)); intro gb340 hg w47 hbox hb; have n0_ := am_ (Kd.R_below q146_ hb); have n1_ := am_ (Kd.R_below q147_ hb); have n2_ := am_ (Kd.R_below q148_ hb); have n3_ := am_ (blk_below (g := gb318) (o := .cells #[.int .i64 t307, .int .i64 t308, .int .i64 t309, .slice Ao18 t310.length co18] 26 (0, 0)) q139_ hb); have n4_ := am_ (blk_below (g := gb326) (o := .cells #[.int .i64 t319, .int .i64 t320, .int .i64 t321, .slice Ao24 t322.length co24] 26 (0, 0)) q140_ hb); have n5_ := am_ (blk_below (g := gb330) (o := .cells #[.int .i64 x331000_1, .int .i64 x331001_1, .int .i64 x331002_1, u331003] 26 (0, 0)) q141_ hb); have n6_ := am_ (below_step q53_ hb); have n7_ := am_ (hbox); have n8_ := am_ ((by rw [hg]; exact (below_size q53_) : w.heap.size ≤ gb340)); have n9_ := am_ ((by rw [hg]; exact (below_size q53_) : w.heap.size ≤ gb340)); have n10_ := am_ ((q14_ : gb318 ≠ gb340)); have n11_ := am_ ((q15_ : gb340 ≠ gb318)); have n12_ := am_ ((q16_ : gb326 ≠ gb340)); have n13_ := am_ ((q17_ : gb340 ≠ gb326)); have n14_ := am_ ((by rw [hg]; exact Nat.ne_of_lt (blk_lt (g := gb330) (o := .cells #[.int .i64 x331000_1, .int .i64 x331001_1, .int .i64 x331002_1, u331003] 26 (0, 0)) q141_) : gb330 ≠ gb340)); have n15_ := am_ ((by rw [hg]; exact Nat.ne_of_gt (blk_lt (g := gb330) (o := .cells #[.int .i64 x331000_1, .int .i64 x331001_1, .int .i64 x331002_1, u331003] 26 (0, 0)) q141_) : gb340 ≠ gb330)); clear HO_319003; clear HO_327003; clear HO_331003; clear BK318; clear BK326; clear BK330; clear HB; have HO_319003 := n0_; have HO_327003 := n1_; have HO_331003 := n2_; have BK318 := n3_; have BK326 := n4_; have BK330 := n5_; have HB := n6_; have BK340 := n7_; have GW340 := n8_; have GE340 := n9_; have NB318_340 := n10_; have NB340_318 := n11_; have NB326_340 := n12_; have NB340_326 := n13_; have NB330_340 := n14_; have NB340_330 := n15_; clear n0_ n1_ n2_ n3_ n4_ n5_ n6_ n7_ n8_ n9_ n10_ n11_ n12_ n13_ n14_ n15_; clear hb hbox hg; have hnb48 := NB340_318.out; have hnc48 := NB318_340.out; have hnb49 := NB340_326.out; have hnc49 := NB326_340.out; have hnb50 := NB340_330.out; have hnc50 := NB330_340.out; have hcz51_0 : w47.cell? ⟨gb340, 0, none⟩ = some (.int .i64 0) := (blk_cell BK340.out 0).trans rfl; have hcz51_1 : w47.cell? ⟨gb340, 1, none⟩ = some (.int .i64 0) := (blk_cell BK340.out 1).trans rfl; have hcz51_2 : w47.cell? ⟨gb340, 2, none⟩ = some (.int .i64 0) := (blk_cell BK340.out 2).trans rfl; have hcz51_3 : w47.cell? ⟨gb340, 3, none⟩ = some (.int .i64 0) := (blk_cell BK340.out 3).trans rfl; have hfz51_0 := blk_frozen BK340.out 0; have hfz51_1 := blk_frozen BK340.out 1; have hfz51_2 := blk_frozen BK340.out 2; have hfz51_3 := blk_frozen BK340.out 3))
        go_loopg [15, 17] kj38 (fun kq v15 v17 w' => ∃ (x15_3 : List Int) (x17_3 : Int), v17 = .int .i64 x17_3 ∧ Aside0 (tilefarmlaw13_IntegralGrows.l1 kq (wrap64 (1 + t314)) (wrap64 (1 + t316)) t325 t331 t332 x12_1 x15_3 x17_3 t307 t308 t309 t310 t319 t320 t321 t322 x331000_1 x331001_1 x331002_1 x331003_1 t335 t336 t337 t338 = some r) ∧ Aside0 (kq ≤ kj38) ∧ Aside0 (Kd.R (Kd.int .i64) 3 w' w.heap.size (fun k_ => some k_ ≠ ((.slice Ao18 t310.length co18) : Value).ownBlock ∧ some k_ ≠ ((.slice Ao24 t322.length co24) : Value).ownBlock ∧ some k_ ≠ (u331003 : Value).ownBlock) v15 x15_3) ∧ Aside0 (Kd.R (Kd.int .i64) 3 w' w.heap.size (fun k_ => some k_ ≠ (v15 : Value).ownBlock ∧ some k_ ≠ ((.slice Ao24 t322.length co24) : Value).ownBlock ∧ some k_ ≠ (u331003 : Value).ownBlock) (.slice Ao18 t310.length co18) t310) ∧ Aside0 (Kd.R (Kd.int .i64) 3 w' w.heap.size (fun k_ => some k_ ≠ (v15 : Value).ownBlock ∧ some k_ ≠ ((.slice Ao18 t310.length co18) : Value).ownBlock ∧ some k_ ≠ (u331003 : Value).ownBlock) (.slice Ao24 t322.length co24) t322) ∧ Aside0 (Kd.R (Kd.int .i64) 3 w' w.heap.size (fun k_ => some k_ ≠ (v15 : Value).ownBlock ∧ some k_ ≠ ((.slice Ao18 t310.length co18) : Value).ownBlock ∧ some k_ ≠ ((.slice Ao24 t322.length co24) : Value).ownBlock) u331003 x331003_1) ∧ Aside0 (w'.heap[gb318]? = some (.cells #[.int .i64 t307, .int .i64 t308, .int .i64 t309, (.slice Ao18 t310.length co18)] 26 (0, 0))) ∧ Aside0 (w'.heap[gb326]? = some (.cells #[.int .i64 t319, .int .i64 t320, .int .i64 t321, (.slice Ao24 t322.length co24)] 26 (0, 0))) ∧ Aside0 (w'.heap[gb330]? = some (.cells #[.int .i64 x331000_1, .int .i64 x331001_1, .int .i64 x331002_1, u331003] 26 (0, 0))) ∧ Aside0 (w'.heap[gb340]? = some (.cells #[.int .i64 t335, .int .i64 t336, .int .i64 t337, .int .i64 t338] 32 (0, 0))) ∧ Aside0 (Below w.heap.size w w'))
        case atStart => exact ⟨(([] : List Int)), (t336), q169_, H', ⟨Nat.le_refl _⟩, ⟨q106_⟩, ⟨by (with_reducible repeat (first | apply Kd.R_alloc | apply Kd.R_drewN | apply Kd.R_drew)); exact Kd.R_mono (Kd.R_far (p := ⟨gb340, 3, none⟩) (Kd.R_far (p := ⟨gb340, 2, none⟩) (Kd.R_far (p := ⟨gb340, 1, none⟩) (Kd.R_far (p := ⟨gb340, 0, none⟩) (Kd.R_types HO_319003.out BK340.out (by decide)) (fun _ hk => hk.2) (.int .i64 t335)) (fun _ hk => hk.2) (.int .i64 t336)) (fun _ hk => hk.2) (.int .i64 t337)) (fun _ hk => hk.2) (.int .i64 t338)) (fun _ hk => ⟨(by simp [Value.ownBlock]), ⟨hk.1.1, hk.1.2⟩⟩)⟩, ⟨by (with_reducible repeat (first | apply Kd.R_alloc | apply Kd.R_drewN | apply Kd.R_drew)); exact Kd.R_mono (Kd.R_far (p := ⟨gb340, 3, none⟩) (Kd.R_far (p := ⟨gb340, 2, none⟩) (Kd.R_far (p := ⟨gb340, 1, none⟩) (Kd.R_far (p := ⟨gb340, 0, none⟩) (Kd.R_types HO_327003.out BK340.out (by decide)) (fun _ hk => hk.2) (.int .i64 t335)) (fun _ hk => hk.2) (.int .i64 t336)) (fun _ hk => hk.2) (.int .i64 t337)) (fun _ hk => hk.2) (.int .i64 t338)) (fun _ hk => ⟨(by simp [Value.ownBlock]), ⟨hk.1.1, hk.1.2⟩⟩)⟩, ⟨by (with_reducible repeat (first | apply Kd.R_alloc | apply Kd.R_drewN | apply Kd.R_drew)); exact Kd.R_mono (Kd.R_far (p := ⟨gb340, 3, none⟩) (Kd.R_far (p := ⟨gb340, 2, none⟩) (Kd.R_far (p := ⟨gb340, 1, none⟩) (Kd.R_far (p := ⟨gb340, 0, none⟩) (Kd.R_types HO_331003.out BK340.out (by decide)) (fun _ hk => hk.2) (.int .i64 t335)) (fun _ hk => hk.2) (.int .i64 t336)) (fun _ hk => hk.2) (.int .i64 t337)) (fun _ hk => hk.2) (.int .i64 t338)) (fun _ hk => ⟨(by simp [Value.ownBlock]), ⟨hk.1.1, hk.1.2⟩⟩)⟩, ⟨by (with_reducible repeat (first | refine blk_drewN ?_ _ | refine blk_drew ?_ | refine blk_alloc ?_ _)); refine blk_far ?_ NB318_340.out _; (with_reducible repeat (first | refine blk_drewN ?_ _ | refine blk_drew ?_ | refine blk_alloc ?_ _)); refine blk_far ?_ NB318_340.out _; (with_reducible repeat (first | refine blk_drewN ?_ _ | refine blk_drew ?_ | refine blk_alloc ?_ _)); refine blk_far ?_ NB318_340.out _; (with_reducible repeat (first | refine blk_drewN ?_ _ | refine blk_drew ?_ | refine blk_alloc ?_ _)); refine blk_far ?_ NB318_340.out _; (with_reducible repeat (first | refine blk_drewN ?_ _ | refine blk_drew ?_ | refine blk_alloc ?_ _)); exact BK318.out⟩, ⟨by (with_reducible repeat (first | refine blk_drewN ?_ _ | refine blk_drew ?_ | refine blk_alloc ?_ _)); refine blk_far ?_ NB326_340.out _; (with_reducible repeat (first | refine blk_drewN ?_ _ | refine blk_drew ?_ | refine blk_alloc ?_ _)); refine blk_far ?_ NB326_340.out _; (with_reducible repeat (first | refine blk_drewN ?_ _ | refine blk_drew ?_ | refine blk_alloc ?_ _)); refine blk_far ?_ NB326_340.out _; (with_reducible repeat (first | refine blk_drewN ?_ _ | refine blk_drew ?_ | refine blk_alloc ?_ _)); refine blk_far ?_ NB326_340.out _; (with_reducible repeat (first | refine blk_drewN ?_ _ | refine blk_drew ?_ | refine blk_alloc ?_ _)); exact BK326.out⟩, ⟨by (with_reducible repeat (first | refine blk_drewN ?_ _ | refine blk_drew ?_ | refine blk_alloc ?_ _)); refine blk_far ?_ NB330_340.out _; (with_reducible repeat (first | refine blk_drewN ?_ _ | refine blk_drew ?_ | refine blk_alloc ?_ _)); refine blk_far ?_ NB330_340.out _; (with_reducible repeat (first | refine blk_drewN ?_ _ | refine blk_drew ?_ | refine blk_alloc ?_ _)); refine blk_far ?_ NB330_340.out _; (with_reducible repeat (first | refine blk_drewN ?_ _ | refine blk_drew ?_ | refine blk_alloc ?_ _)); refine blk_far ?_ NB330_340.out _; (with_reducible repeat (first | refine blk_drewN ?_ _ | refine blk_drew ?_ | refine blk_alloc ?_ _)); exact BK330.out⟩, ⟨by (with_reducible repeat (first | refine blk_drewN ?_ _ | refine blk_drew ?_ | refine blk_alloc ?_ _)); refine blk_put (cs := #[.int .i64 t335, .int .i64 t336, .int .i64 t337, .int .i64 0]) ?_ 3 _ rfl; (with_reducible repeat (first | refine blk_drewN ?_ _ | refine blk_drew ?_ | refine blk_alloc ?_ _)); refine blk_put (cs := #[.int .i64 t335, .int .i64 t336, .int .i64 0, .int .i64 0]) ?_ 2 _ rfl; (with_reducible repeat (first | refine blk_drewN ?_ _ | refine blk_drew ?_ | refine blk_alloc ?_ _)); refine blk_put (cs := #[.int .i64 t335, .int .i64 0, .int .i64 0, .int .i64 0]) ?_ 1 _ rfl; (with_reducible repeat (first | refine blk_drewN ?_ _ | refine blk_drew ?_ | refine blk_alloc ?_ _)); refine blk_put (cs := #[.int .i64 0, .int .i64 0, .int .i64 0, .int .i64 0]) ?_ 0 _ rfl; (with_reducible repeat (first | refine blk_drewN ?_ _ | refine blk_drew ?_ | refine blk_alloc ?_ _)); exact BK340.out⟩, ⟨q37_⟩⟩
        case round =>
         clear H'
         try clear c1
         try clear c2
         try clear p2
         try clear c3
         try clear c4
         try clear c5
         try clear p6
         try clear c7
         try clear c8
         try clear c8b0
         try clear c8b1
         try clear c9
         try clear c9b0
         try clear c9b1
         try clear c10
         try clear c12
         try clear c16
         try clear c21
         try clear c22
         try clear c24
         try clear c25
         try clear c37
         try clear c40
         try clear c40b0
         try clear c41
         try clear c43
         try clear c44
         try clear c48
         try clear c49
         try clear c50
         try clear hcz17_0
         try clear hcz17_1
         try clear hcz17_2
         try clear hcz17_3
         try clear hcz23_0
         try clear hcz23_1
         try clear hcz23_2
         try clear hcz23_3
         try clear hcz38_0
         try clear hcz38_1
         try clear hcz38_2
         try clear hcz38_3
         try clear hcz45_0
         try clear hcz45_1
         try clear hcz45_2
         try clear hcz45_3
         try clear hcz51_0
         try clear hcz51_1
         try clear hcz51_2
         try clear hcz51_3
         try clear hfz17_0
         try clear hfz17_1
         try clear hfz17_2
         try clear hfz17_3
         try clear hfz23_0
         try clear hfz23_1
         try clear hfz23_2
         try clear hfz23_3
         try clear hfz38_0
         try clear hfz38_1
         try clear hfz38_2
         try clear hfz38_3
         try clear hfz45_0
         try clear hfz45_1
         try clear hfz45_2
         try clear hfz45_3
         try clear hfz51_0
         try clear hfz51_1
         try clear hfz51_2
         try clear hfz51_3
         try clear p2
         try clear p6
         obtain ⟨x15_3, x17_3, rfl, HA, HK3, HO_15, HO_319003, HO_327003, HO_331003, BK318, BK326, BK330, BK340, HB⟩ := hrel
         cases gk with
         | zero => exact absurd HA.out (by simp [tilefarmlaw13_IntegralGrows.l1])
         | succ k3 =>
          have H := HA.out
          clear HA
          simp only [tilefarmlaw13_IntegralGrows.l1] at H
          by_cases c52 : x17_3 < t338
          ·rw [if_pos c52] at H
           have c52b0 : decide (x17_3 < t338) = true := decide_eq_true c52
           clear c52
           replace H := Option.bind_eq_some_iff.mp H
           obtain ⟨t341, A530, H⟩ := H
           replace H : (if x15_3.length < 17592186044416 then (tilefarmlaw13_IntegralGrows.l1 k3 (wrap64 (1 + t314)) (wrap64 (1 + t316)) t325 t331 t332 x12_1 (x15_3 ++ [t341]) (wrap64 (x17_3 + 1)) t307 t308 t309 t310 t319 t320 t321 t322 x331000_1 x331001_1 x331002_1 x331003_1 t335 t336 t337 t338) else (none)) = some r := H
           have A53 := am_ A530
           clear A530
           by_cases c54 : x15_3.length < 17592186044416
           ·rw [if_pos c54] at H
            have LMc54 := am_ c54
            clear c54
            obtain ⟨y342, hy342⟩ : ∃ y_ : List Int, y_ = (x15_3 ++ [t341]) := ⟨_, rfl⟩
            replace H : (tilefarmlaw13_IntegralGrows.l1 k3 (wrap64 (1 + t314)) (wrap64 (1 + t316)) t325 t331 t332 x12_1 y342 (wrap64 (x17_3 + 1)) t307 t308 t309 t310 t319 t320 t321 t322 x331000_1 x331001_1 x331002_1 x331003_1 t335 t336 t337 t338) = some r := by first | (rw [hy342]; with_reducible exact H) | (have H2_ := (Option.bind_some _ _).symm.trans H; rw [hy342]; with_reducible exact H2_) | (have H2_ := (Option.bind_some _ _).symm.trans H; with_reducible exact H2_) | with_reducible exact H | (rw [hy342]; exact H) | exact H
            have Ny342 := am_ hy342
            clear hy342
            have H' := am_ H
            clear H
            have hnb55 := NB340_318.out
            have hnc55 := NB318_340.out
            have hnb56 := NB340_326.out
            have hnc56 := NB326_340.out
            have hnb57 := NB340_330.out
            have hnc57 := NB330_340.out
            have hcz58_0 : wr.cell? ⟨gb340, 0, none⟩ = some (.int .i64 t335) := (blk_cell BK340.out 0).trans rfl
            have hcz58_1 : wr.cell? ⟨gb340, 1, none⟩ = some (.int .i64 t336) := (blk_cell BK340.out 1).trans rfl
            have hcz58_2 : wr.cell? ⟨gb340, 2, none⟩ = some (.int .i64 t337) := (blk_cell BK340.out 2).trans rfl
            have hcz58_3 : wr.cell? ⟨gb340, 3, none⟩ = some (.int .i64 t338) := (blk_cell BK340.out 3).trans rfl
            have hfz58_0 := blk_frozen BK340.out 0
            have hfz58_1 := blk_frozen BK340.out 1
            have hfz58_2 := blk_frozen BK340.out 2
            have hfz58_3 := blk_frozen BK340.out 3
            have hnb59 := NB330_318.out
            have hnc59 := NB318_330.out
            have hnb60 := NB330_326.out
            have hnc60 := NB326_330.out
            have hcz61_0 : wr.cell? ⟨gb330, 0, none⟩ = some (.int .i64 x331000_1) := (blk_cell BK330.out 0).trans rfl
            have hcz61_1 : wr.cell? ⟨gb330, 1, none⟩ = some (.int .i64 x331001_1) := (blk_cell BK330.out 1).trans rfl
            have hcz61_2 : wr.cell? ⟨gb330, 2, none⟩ = some (.int .i64 x331002_1) := (blk_cell BK330.out 2).trans rfl
            have hcz61_3 : wr.cell? ⟨gb330, 3, none⟩ = some (u331003) := (blk_cell BK330.out 3).trans rfl
            have hfz61_0 := blk_frozen BK330.out 0
            have hfz61_1 := blk_frozen BK330.out 1
            have hfz61_2 := blk_frozen BK330.out 2
            have hfz61_3 := blk_frozen BK330.out 3
            obtain ⟨Ao62, co62, eo62⟩ := Kd.R_slice HO_331003.out
            subst eo62
            go_wp2_with (first | ((with_reducible refine gate_callee (f := 26) rfl ?_); refine goesL_ (some 97) rfl rfl Try.func26 (by kernel_rfl) rfl #[.agg #[.int .i64 x331000_1, .int .i64 x331001_1, .int .i64 x331002_1, .slice Ao62 x331003_1.length co62], .int .i64 (wrap64 (t335 - 1)), .int .i64 x17_3] rfl q107_ ?_; (with_reducible refine (tilefarmlaw13_at.calls x331000_1 x331001_1 x331002_1 _ _ x331003_1 (wrap64 (t335 - 1)) x17_3 t341 _ ?side1 ?side2 A53.out).mono ?_); (case side1 => repeat (first | exact (Kd.R_reads' HO_331003.out).2.2 | (with_reducible refine Kd.C_alloc ?_ _) | (with_reducible refine Kd.C_drewN ?_ _) | (with_reducible refine Kd.C_drew ?_))); (case side2 => exact (Kd.R_reads' HO_331003.out).2.1); rintro e w63 ⟨rfl, hb⟩; refine ⟨_, rfl, ?_⟩; have n0_ := am_ (Kd.R_below q161_ hb); have n1_ := am_ (Kd.R_below q146_ hb); have n2_ := am_ (Kd.R_below q147_ hb); have n3_ := am_ (Kd.R_below q148_ hb); have n4_ := am_ (blk_below (g := gb318) (o := .cells #[.int .i64 t307, .int .i64 t308, .int .i64 t309, .slice Ao18 t310.length co18] 26 (0, 0)) q139_ hb); have n5_ := am_ (blk_below (g := gb326) (o := .cells #[.int .i64 t319, .int .i64 t320, .int .i64 t321, .slice Ao24 t322.length co24] 26 (0, 0)) q140_ hb); have n6_ := am_ (blk_below (g := gb330) (o := .cells #[.int .i64 x331000_1, .int .i64 x331001_1, .int .i64 x331002_1, .slice Ao62 x331003_1.length co62] 26 (0, 0)) q141_ hb); have n7_ := am_ (blk_below (g := gb340) (o := .cells #[.int .i64 t335, .int .i64 t336, .int .i64 t337, .int .i64 t338] 32 (0, 0)) q142_ hb); have n8_ := am_ (below_step q37_ hb); clear HO_15; clear HO_319003; clear HO_327003; clear HO_331003; clear BK318; clear BK326; clear BK330; clear BK340; clear HB; have HO_15 := n0_; have HO_319003 := n1_; have HO_327003 := n2_; have HO_331003 := n3_; have BK318 := n4_; have BK326 := n5_; have BK330 := n6_; have BK340 := n7_; have HB := n8_; clear n0_ n1_ n2_ n3_ n4_ n5_ n6_ n7_ n8_) | ((with_reducible refine gate_builtin (b := .append) (xs := #[.tmp 91, .tmp 98]) rfl ?_); at_builtin; refine Kd.R_append (Kd.int .i64) (w0 := w) w.heap.size rfl (.tmp 91) (.tmp 98) 22 3 (.int .i64 0) 8 rfl Try.underlying22 info3 rfl (by decide) (by omega) u15 x15_3 t341 [.int .i64 t341] (fun k_ => some k_ ≠ (.slice Ao18 t310.length co18 : Value).ownBlock ∧ some k_ ≠ (.slice Ao24 t322.length co24 : Value).ownBlock ∧ some k_ ≠ (.slice Ao62 x331003_1.length co62 : Value).ownBlock) (fun _ => False) rfl rfl ?aP (fun _ hk => hk.elim) ?aF ?aO ?aB ?aS ?aL ?_; (case aP => exact rfl); (case aB => exact q37_); (case aF => exact (fun k_ hk => ⟨Kd.fresh' (Kd.R_lt q146_) k_ hk, Kd.fresh' (Kd.R_lt q147_) k_ hk, Kd.fresh' (Kd.R_lt q148_) k_ hk⟩)); (case aO => exact q161_); (case aS => exact (below_size q37_)); (case aL => have := LMc54.out; omega); intro v343 w64 ho hb hg hat; rw [← Ny342.out] at ho; have n0_ := am_ (Kd.R_after (ok := (fun k_ => some k_ ≠ (.slice Ao24 t322.length co24 : Value).ownBlock ∧ some k_ ≠ (.slice Ao62 x331003_1.length co62 : Value).ownBlock)) (by (with_reducible repeat (first | apply Kd.R_alloc | apply Kd.R_drewN | apply Kd.R_drew)); exact Kd.R_mono HO_319003.out (fun _ hk => ⟨⟨hk.2.1, hk.2.2⟩, hk.1⟩)) hg hat); have n1_ := am_ (Kd.R_after (ok := (fun k_ => some k_ ≠ (.slice Ao18 t310.length co18 : Value).ownBlock ∧ some k_ ≠ (.slice Ao62 x331003_1.length co62 : Value).ownBlock)) (by (with_reducible repeat (first | apply Kd.R_alloc | apply Kd.R_drewN | apply Kd.R_drew)); exact Kd.R_mono HO_327003.out (fun _ hk => ⟨⟨hk.2.1, hk.2.2⟩, hk.1⟩)) hg hat); have n2_ := am_ (Kd.R_after (ok := (fun k_ => some k_ ≠ (.slice Ao18 t310.length co18 : Value).ownBlock ∧ some k_ ≠ (.slice Ao24 t322.length co24 : Value).ownBlock)) (by (with_reducible repeat (first | apply Kd.R_alloc | apply Kd.R_drewN | apply Kd.R_drew)); exact Kd.R_mono HO_331003.out (fun _ hk => ⟨⟨hk.2.1, hk.2.2⟩, hk.1⟩)) hg hat); have n3_ := am_ (blk_grown (g := gb318) (o := .cells #[.int .i64 t307, .int .i64 t308, .int .i64 t309, .slice Ao18 t310.length co18] 26 (0, 0)) q139_ hg (Kd.R_ne HO_15.out BK318.out (by decide))); have n4_ := am_ (blk_grown (g := gb326) (o := .cells #[.int .i64 t319, .int .i64 t320, .int .i64 t321, .slice Ao24 t322.length co24] 26 (0, 0)) q140_ hg (Kd.R_ne HO_15.out BK326.out (by decide))); have n5_ := am_ (blk_grown (g := gb330) (o := .cells #[.int .i64 x331000_1, .int .i64 x331001_1, .int .i64 x331002_1, .slice Ao62 x331003_1.length co62] 26 (0, 0)) q141_ hg (Kd.R_ne HO_15.out BK330.out (by decide))); have n6_ := am_ (blk_grown (g := gb340) (o := .cells #[.int .i64 t335, .int .i64 t336, .int .i64 t337, .int .i64 t338] 32 (0, 0)) q142_ hg (Kd.R_ne HO_15.out BK340.out (by decide))); have n7_ := am_ (hb); have n8_ := am_ (ho); clear HO_319003; clear HO_327003; clear HO_331003; clear BK318; clear BK326; clear BK330; clear BK340; clear HB; clear HO_15; have HO_319003 := n0_; have HO_327003 := n1_; have HO_331003 := n2_; have BK318 := n3_; have BK326 := n4_; have BK330 := n5_; have BK340 := n6_; have HB := n7_; have HO344 := n8_; clear n0_ n1_ n2_ n3_ n4_ n5_ n6_ n7_ n8_; clear ho hb hg hat))
            go_roundg k3
            case measure => have := HK1.out; have := HJ38.out; have := HK3.out; omega
            case rel => exact ⟨(y342), (wrap64 (x17_3 + 1)), q169_, q168_, ⟨by have := HK1.out; have := HJ38.out; have := HK3.out; omega⟩, ⟨by (with_reducible repeat (first | apply Kd.R_alloc | apply Kd.R_drewN | apply Kd.R_drew)); exact HO344.out⟩, ⟨by (with_reducible repeat (first | apply Kd.R_alloc | apply Kd.R_drewN | apply Kd.R_drew)); exact Kd.R_mono HO_319003.out (fun _ hk => ⟨hk.2, ⟨hk.1.1, hk.1.2⟩⟩)⟩, ⟨by (with_reducible repeat (first | apply Kd.R_alloc | apply Kd.R_drewN | apply Kd.R_drew)); exact Kd.R_mono HO_327003.out (fun _ hk => ⟨hk.2, ⟨hk.1.1, hk.1.2⟩⟩)⟩, ⟨by (with_reducible repeat (first | apply Kd.R_alloc | apply Kd.R_drewN | apply Kd.R_drew)); exact Kd.R_mono HO_331003.out (fun _ hk => ⟨hk.2, ⟨hk.1.1, hk.1.2⟩⟩)⟩, ⟨q139_⟩, ⟨q140_⟩, ⟨q141_⟩, ⟨q142_⟩, ⟨q37_⟩⟩
           ·rw [if_neg c54] at H
            exact absurd H (by simp)
          ·rw [if_neg c52] at H
           have c52b0 : decide (x17_3 < t338) = false := decide_eq_false c52
           clear c52
           have H' := am_ H
           clear H
           have hnb65 := NB340_318.out
           have hnc65 := NB318_340.out
           have hnb66 := NB340_326.out
           have hnc66 := NB326_340.out
           have hnb67 := NB340_330.out
           have hnc67 := NB330_340.out
           have hcz68_0 : wr.cell? ⟨gb340, 0, none⟩ = some (.int .i64 t335) := (blk_cell BK340.out 0).trans rfl
           have hcz68_1 : wr.cell? ⟨gb340, 1, none⟩ = some (.int .i64 t336) := (blk_cell BK340.out 1).trans rfl
           have hcz68_2 : wr.cell? ⟨gb340, 2, none⟩ = some (.int .i64 t337) := (blk_cell BK340.out 2).trans rfl
           have hcz68_3 : wr.cell? ⟨gb340, 3, none⟩ = some (.int .i64 t338) := (blk_cell BK340.out 3).trans rfl
           have hfz68_0 := blk_frozen BK340.out 0
           have hfz68_1 := blk_frozen BK340.out 1
           have hfz68_2 := blk_frozen BK340.out 2
           have hfz68_3 := blk_frozen BK340.out 3
           go_wp2
           go_loopg [16, 18] k3 (fun kq v16 v18 w' => ∃ (x16_4 : List Int) (x18_4 : Int), v18 = .int .i64 x18_4 ∧ Aside0 (tilefarmlaw13_IntegralGrows.l2 kq (wrap64 (1 + t314)) (wrap64 (1 + t316)) t325 t331 t332 x12_1 x15_3 x16_4 x18_4 t307 t308 t309 t310 t319 t320 t321 t322 x331000_1 x331001_1 x331002_1 x331003_1 t335 t336 t337 t338 = some r) ∧ Aside0 (kq ≤ k3) ∧ Aside0 (Kd.R (Kd.int .i64) 3 w' w.heap.size (fun k_ => some k_ ≠ (v16 : Value).ownBlock ∧ some k_ ≠ ((.slice Ao18 t310.length co18) : Value).ownBlock ∧ some k_ ≠ ((.slice Ao24 t322.length co24) : Value).ownBlock ∧ some k_ ≠ (u331003 : Value).ownBlock) u15 x15_3) ∧ Aside0 (Kd.R (Kd.int .i64) 3 w' w.heap.size (fun k_ => some k_ ≠ (u15 : Value).ownBlock ∧ some k_ ≠ ((.slice Ao18 t310.length co18) : Value).ownBlock ∧ some k_ ≠ ((.slice Ao24 t322.length co24) : Value).ownBlock ∧ some k_ ≠ (u331003 : Value).ownBlock) v16 x16_4) ∧ Aside0 (Kd.R (Kd.int .i64) 3 w' w.heap.size (fun k_ => some k_ ≠ (u15 : Value).ownBlock ∧ some k_ ≠ (v16 : Value).ownBlock ∧ some k_ ≠ ((.slice Ao24 t322.length co24) : Value).ownBlock ∧ some k_ ≠ (u331003 : Value).ownBlock) (.slice Ao18 t310.length co18) t310) ∧ Aside0 (Kd.R (Kd.int .i64) 3 w' w.heap.size (fun k_ => some k_ ≠ (u15 : Value).ownBlock ∧ some k_ ≠ (v16 : Value).ownBlock ∧ some k_ ≠ ((.slice Ao18 t310.length co18) : Value).ownBlock ∧ some k_ ≠ (u331003 : Value).ownBlock) (.slice Ao24 t322.length co24) t322) ∧ Aside0 (Kd.R (Kd.int .i64) 3 w' w.heap.size (fun k_ => some k_ ≠ (u15 : Value).ownBlock ∧ some k_ ≠ (v16 : Value).ownBlock ∧ some k_ ≠ ((.slice Ao18 t310.length co18) : Value).ownBlock ∧ some k_ ≠ ((.slice Ao24 t322.length co24) : Value).ownBlock) u331003 x331003_1) ∧ Aside0 (w'.heap[gb318]? = some (.cells #[.int .i64 t307, .int .i64 t308, .int .i64 t309, (.slice Ao18 t310.length co18)] 26 (0, 0))) ∧ Aside0 (w'.heap[gb326]? = some (.cells #[.int .i64 t319, .int .i64 t320, .int .i64 t321, (.slice Ao24 t322.length co24)] 26 (0, 0))) ∧ Aside0 (w'.heap[gb330]? = some (.cells #[.int .i64 x331000_1, .int .i64 x331001_1, .int .i64 x331002_1, u331003] 26 (0, 0))) ∧ Aside0 (w'.heap[gb340]? = some (.cells #[.int .i64 t335, .int .i64 t336, .int .i64 t337, .int .i64 t338] 32 (0, 0))) ∧ Aside0 (Below w.heap.size w w'))
           case atStart => exact ⟨(([] : List Int)), (t335), q169_, H', ⟨Nat.le_refl _⟩, ⟨by (with_reducible repeat (first | apply Kd.R_alloc | apply Kd.R_drewN | apply Kd.R_drew)); exact Kd.R_mono HO_15.out (fun _ hk => ⟨(by simp [Value.ownBlock]), ⟨hk.1, ⟨hk.2.1, hk.2.2⟩⟩⟩)⟩, ⟨q106_⟩, ⟨by (with_reducible repeat (first | apply Kd.R_alloc | apply Kd.R_drewN | apply Kd.R_drew)); exact Kd.R_mono HO_319003.out (fun _ hk => ⟨hk.1, ⟨(by simp [Value.ownBlock]), ⟨hk.2.1, hk.2.2⟩⟩⟩)⟩, ⟨by (with_reducible repeat (first | apply Kd.R_alloc | apply Kd.R_drewN | apply Kd.R_drew)); exact Kd.R_mono HO_327003.out (fun _ hk => ⟨hk.1, ⟨(by simp [Value.ownBlock]), ⟨hk.2.1, hk.2.2⟩⟩⟩)⟩, ⟨by (with_reducible repeat (first | apply Kd.R_alloc | apply Kd.R_drewN | apply Kd.R_drew)); exact Kd.R_mono HO_331003.out (fun _ hk => ⟨hk.1, ⟨(by simp [Value.ownBlock]), ⟨hk.2.1, hk.2.2⟩⟩⟩)⟩, ⟨q139_⟩, ⟨q140_⟩, ⟨q141_⟩, ⟨q142_⟩, ⟨q37_⟩⟩
           case round =>
            clear H'
            try clear c1
            try clear c2
            try clear p2
            try clear c3
            try clear c4
            try clear c5
            try clear c6
            try clear p6
            try clear c7
            try clear c8
            try clear c8b0
            try clear c8b1
            try clear c9
            try clear c9b0
            try clear c9b1
            try clear c10
            try clear c12
            try clear c16
            try clear c21
            try clear c22
            try clear c24
            try clear c25
            try clear c26
            try clear c37
            try clear c40
            try clear c40b0
            try clear c41
            try clear c43
            try clear c44
            try clear c48
            try clear c49
            try clear c50
            try clear c52
            try clear c52b0
            try clear c54
            try clear c55
            try clear c56
            try clear c57
            try clear c59
            try clear c60
            try clear p64
            try clear c65
            try clear c66
            try clear c67
            try clear hcz17_0
            try clear hcz17_1
            try clear hcz17_2
            try clear hcz17_3
            try clear hcz23_0
            try clear hcz23_1
            try clear hcz23_2
            try clear hcz23_3
            try clear hcz38_0
            try clear hcz38_1
            try clear hcz38_2
            try clear hcz38_3
            try clear hcz45_0
            try clear hcz45_1
            try clear hcz45_2
            try clear hcz45_3
            try clear hcz51_0
            try clear hcz51_1
            try clear hcz51_2
            try clear hcz51_3
            try clear hcz58_0
            try clear hcz58_1
            try clear hcz58_2
            try clear hcz58_3
            try clear hcz61_0
            try clear hcz61_1
            try clear hcz61_2
            try clear hcz61_3
            try clear hcz68_0
            try clear hcz68_1
            try clear hcz68_2
            try clear hcz68_3
            try clear hfz17_0
            try clear hfz17_1
            try clear hfz17_2
            try clear hfz17_3
            try clear hfz23_0
            try clear hfz23_1
            try clear hfz23_2
            try clear hfz23_3
            try clear hfz38_0
            try clear hfz38_1
            try clear hfz38_2
            try clear hfz38_3
            try clear hfz45_0
            try clear hfz45_1
            try clear hfz45_2
            try clear hfz45_3
            try clear hfz51_0
            try clear hfz51_1
            try clear hfz51_2
            try clear hfz51_3
            try clear hfz58_0
            try clear hfz58_1
            try clear hfz58_2
            try clear hfz58_3
            try clear hfz61_0
            try clear hfz61_1
            try clear hfz61_2
            try clear hfz61_3
            try clear hfz68_0
            try clear hfz68_1
            try clear hfz68_2
            try clear hfz68_3
            try clear p2
            try clear p6
            obtain ⟨x16_4, x18_4, rfl, HA, HK4, HO_15, HO_16, HO_319003, HO_327003, HO_331003, BK318, BK326, BK330, BK340, HB⟩ := hrel
            cases gk with
            | zero => exact absurd HA.out (by simp [tilefarmlaw13_IntegralGrows.l2])
            | succ k4 =>
             have H := HA.out
             clear HA
             simp only [tilefarmlaw13_IntegralGrows.l2] at H
             by_cases c69 : x18_4 < t337
             ·rw [if_pos c69] at H
              have c69b0 : decide (x18_4 < t337) = true := decide_eq_true c69
              clear c69
              replace H := Option.bind_eq_some_iff.mp H
              obtain ⟨t345, A700, H⟩ := H
              replace H : (if x16_4.length < 17592186044416 then (tilefarmlaw13_IntegralGrows.l2 k4 (wrap64 (1 + t314)) (wrap64 (1 + t316)) t325 t331 t332 x12_1 x15_3 (x16_4 ++ [t345]) (wrap64 (x18_4 + 1)) t307 t308 t309 t310 t319 t320 t321 t322 x331000_1 x331001_1 x331002_1 x331003_1 t335 t336 t337 t338) else (none)) = some r := H
              have A70 := am_ A700
              clear A700
              by_cases c71 : x16_4.length < 17592186044416
              ·rw [if_pos c71] at H
               have LMc71 := am_ c71
               clear c71
               obtain ⟨y346, hy346⟩ : ∃ y_ : List Int, y_ = (x16_4 ++ [t345]) := ⟨_, rfl⟩
               replace H : (tilefarmlaw13_IntegralGrows.l2 k4 (wrap64 (1 + t314)) (wrap64 (1 + t316)) t325 t331 t332 x12_1 x15_3 y346 (wrap64 (x18_4 + 1)) t307 t308 t309 t310 t319 t320 t321 t322 x331000_1 x331001_1 x331002_1 x331003_1 t335 t336 t337 t338) = some r := by first | (rw [hy346]; with_reducible exact H) | (have H2_ := (Option.bind_some _ _).symm.trans H; rw [hy346]; with_reducible exact H2_) | (have H2_ := (Option.bind_some _ _).symm.trans H; with_reducible exact H2_) | with_reducible exact H | (rw [hy346]; exact H) | exact H
               have Ny346 := am_ hy346
               clear hy346
               have H' := am_ H
               clear H
               have hnb72 := NB340_318.out
               have hnc72 := NB318_340.out
               have hnb73 := NB340_326.out
               have hnc73 := NB326_340.out
               have hnb74 := NB340_330.out
               have hnc74 := NB330_340.out
               have hcz75_0 : wr.cell? ⟨gb340, 0, none⟩ = some (.int .i64 t335) := (blk_cell BK340.out 0).trans rfl
               have hcz75_1 : wr.cell? ⟨gb340, 1, none⟩ = some (.int .i64 t336) := (blk_cell BK340.out 1).trans rfl
               have hcz75_2 : wr.cell? ⟨gb340, 2, none⟩ = some (.int .i64 t337) := (blk_cell BK340.out 2).trans rfl
               have hcz75_3 : wr.cell? ⟨gb340, 3, none⟩ = some (.int .i64 t338) := (blk_cell BK340.out 3).trans rfl
               have hfz75_0 := blk_frozen BK340.out 0
               have hfz75_1 := blk_frozen BK340.out 1
               have hfz75_2 := blk_frozen BK340.out 2
               have hfz75_3 := blk_frozen BK340.out 3
               have hnb76 := NB330_318.out
               have hnc76 := NB318_330.out
               have hnb77 := NB330_326.out
               have hnc77 := NB326_330.out
               have hcz78_0 : wr.cell? ⟨gb330, 0, none⟩ = some (.int .i64 x331000_1) := (blk_cell BK330.out 0).trans rfl
               have hcz78_1 : wr.cell? ⟨gb330, 1, none⟩ = some (.int .i64 x331001_1) := (blk_cell BK330.out 1).trans rfl
               have hcz78_2 : wr.cell? ⟨gb330, 2, none⟩ = some (.int .i64 x331002_1) := (blk_cell BK330.out 2).trans rfl
               have hcz78_3 : wr.cell? ⟨gb330, 3, none⟩ = some (u331003) := (blk_cell BK330.out 3).trans rfl
               have hfz78_0 := blk_frozen BK330.out 0
               have hfz78_1 := blk_frozen BK330.out 1
               have hfz78_2 := blk_frozen BK330.out 2
               have hfz78_3 := blk_frozen BK330.out 3
               obtain ⟨Ao79, co79, eo79⟩ := Kd.R_slice HO_331003.out
               subst eo79
               go_wp2_with (first | ((with_reducible refine gate_callee (f := 26) rfl ?_); refine goesL_ (some 114) rfl rfl Try.func26 (by kernel_rfl) rfl #[.agg #[.int .i64 x331000_1, .int .i64 x331001_1, .int .i64 x331002_1, .slice Ao79 x331003_1.length co79], .int .i64 x18_4, .int .i64 (wrap64 (t336 - 1))] rfl q107_ ?_; (with_reducible refine (tilefarmlaw13_at.calls x331000_1 x331001_1 x331002_1 _ _ x331003_1 x18_4 (wrap64 (t336 - 1)) t345 _ ?side1 ?side2 A70.out).mono ?_); (case side1 => repeat (first | exact (Kd.R_reads' HO_331003.out).2.2 | (with_reducible refine Kd.C_alloc ?_ _) | (with_reducible refine Kd.C_drewN ?_ _) | (with_reducible refine Kd.C_drew ?_))); (case side2 => exact (Kd.R_reads' HO_331003.out).2.1); rintro e w80 ⟨rfl, hb⟩; refine ⟨_, rfl, ?_⟩; have n0_ := am_ (Kd.R_below q161_ hb); have n1_ := am_ (Kd.R_below q162_ hb); have n2_ := am_ (Kd.R_below q146_ hb); have n3_ := am_ (Kd.R_below q147_ hb); have n4_ := am_ (Kd.R_below q148_ hb); have n5_ := am_ (blk_below (g := gb318) (o := .cells #[.int .i64 t307, .int .i64 t308, .int .i64 t309, .slice Ao18 t310.length co18] 26 (0, 0)) q139_ hb); have n6_ := am_ (blk_below (g := gb326) (o := .cells #[.int .i64 t319, .int .i64 t320, .int .i64 t321, .slice Ao24 t322.length co24] 26 (0, 0)) q140_ hb); have n7_ := am_ (blk_below (g := gb330) (o := .cells #[.int .i64 x331000_1, .int .i64 x331001_1, .int .i64 x331002_1, .slice Ao79 x331003_1.length co79] 26 (0, 0)) q141_ hb); have n8_ := am_ (blk_below (g := gb340) (o := .cells #[.int .i64 t335, .int .i64 t336, .int .i64 t337, .int .i64 t338] 32 (0, 0)) q142_ hb); have n9_ := am_ (below_step q37_ hb); clear HO_15; clear HO_16; clear HO_319003; clear HO_327003; clear HO_331003; clear BK318; clear BK326; clear BK330; clear BK340; clear HB; have HO_15 := n0_; have HO_16 := n1_; have HO_319003 := n2_; have HO_327003 := n3_; have HO_331003 := n4_; have BK318 := n5_; have BK326 := n6_; have BK330 := n7_; have BK340 := n8_; have HB := n9_; clear n0_ n1_ n2_ n3_ n4_ n5_ n6_ n7_ n8_ n9_) | ((with_reducible refine gate_builtin (b := .append) (xs := #[.tmp 108, .tmp 115]) rfl ?_); at_builtin; refine Kd.R_append (Kd.int .i64) (w0 := w) w.heap.size rfl (.tmp 108) (.tmp 115) 22 3 (.int .i64 0) 8 rfl Try.underlying22 info3 rfl (by decide) (by omega) u16 x16_4 t345 [.int .i64 t345] (fun k_ => some k_ ≠ (u15 : Value).ownBlock ∧ some k_ ≠ (.slice Ao18 t310.length co18 : Value).ownBlock ∧ some k_ ≠ (.slice Ao24 t322.length co24 : Value).ownBlock ∧ some k_ ≠ (.slice Ao79 x331003_1.length co79 : Value).ownBlock) (fun _ => False) rfl rfl ?aP (fun _ hk => hk.elim) ?aF ?aO ?aB ?aS ?aL ?_; (case aP => exact rfl); (case aB => exact q37_); (case aF => exact (fun k_ hk => ⟨Kd.fresh' (Kd.R_lt q161_) k_ hk, Kd.fresh' (Kd.R_lt q146_) k_ hk, Kd.fresh' (Kd.R_lt q147_) k_ hk, Kd.fresh' (Kd.R_lt q148_) k_ hk⟩)); (case aO => exact q162_); (case aS => exact (below_size q37_)); (case aL => have := LMc71.out; omega); intro v347 w81 ho hb hg hat; rw [← Ny346.out] at ho; have n0_ := am_ (Kd.R_after (ok := (fun k_ => some k_ ≠ (.slice Ao18 t310.length co18 : Value).ownBlock ∧ some k_ ≠ (.slice Ao24 t322.length co24 : Value).ownBlock ∧ some k_ ≠ (.slice Ao79 x331003_1.length co79 : Value).ownBlock)) (by (with_reducible repeat (first | apply Kd.R_alloc | apply Kd.R_drewN | apply Kd.R_drew)); exact Kd.R_mono HO_15.out (fun _ hk => ⟨⟨hk.2.1, ⟨hk.2.2.1, hk.2.2.2⟩⟩, hk.1⟩)) hg hat); have n1_ := am_ (Kd.R_after (ok := (fun k_ => some k_ ≠ (u15 : Value).ownBlock ∧ some k_ ≠ (.slice Ao24 t322.length co24 : Value).ownBlock ∧ some k_ ≠ (.slice Ao79 x331003_1.length co79 : Value).ownBlock)) (by (with_reducible repeat (first | apply Kd.R_alloc | apply Kd.R_drewN | apply Kd.R_drew)); exact Kd.R_mono HO_319003.out (fun _ hk => ⟨⟨hk.1, ⟨hk.2.2.1, hk.2.2.2⟩⟩, hk.2.1⟩)) hg hat); have n2_ := am_ (Kd.R_after (ok := (fun k_ => some k_ ≠ (u15 : Value).ownBlock ∧ some k_ ≠ (.slice Ao18 t310.length co18 : Value).ownBlock ∧ some k_ ≠ (.slice Ao79 x331003_1.length co79 : Value).ownBlock)) (by (with_reducible repeat (first | apply Kd.R_alloc | apply Kd.R_drewN | apply Kd.R_drew)); exact Kd.R_mono HO_327003.out (fun _ hk => ⟨⟨hk.1, ⟨hk.2.2.1, hk.2.2.2⟩⟩, hk.2.1⟩)) hg hat); have n3_ := am_ (Kd.R_after (ok := (fun k_ => some k_ ≠ (u15 : Value).ownBlock ∧ some k_ ≠ (.slice Ao18 t310.length co18 : Value).ownBlock ∧ some k_ ≠ (.slice Ao24 t322.length co24 : Value).ownBlock)) (by (with_reducible repeat (first | apply Kd.R_alloc | apply Kd.R_drewN | apply Kd.R_drew)); exact Kd.R_mono HO_331003.out (fun _ hk => ⟨⟨hk.1, ⟨hk.2.2.1, hk.2.2.2⟩⟩, hk.2.1⟩)) hg hat); have n4_ := am_ (blk_grown (g := gb318) (o := .cells #[.int .i64 t307, .int .i64 t308, .int .i64 t309, .slice Ao18 t310.length co18] 26 (0, 0)) q139_ hg (Kd.R_ne HO_16.out BK318.out (by decide))); have n5_ := am_ (blk_grown (g := gb326) (o := .cells #[.int .i64 t319, .int .i64 t320, .int .i64 t321, .slice Ao24 t322.length co24] 26 (0, 0)) q140_ hg (Kd.R_ne HO_16.out BK326.out (by decide))); have n6_ := am_ (blk_grown (g := gb330) (o := .cells #[.int .i64 x331000_1, .int .i64 x331001_1, .int .i64 x331002_1, .slice Ao79 x331003_1.length co79] 26 (0, 0)) q141_ hg (Kd.R_ne HO_16.out BK330.out (by decide))); have n7_ := am_ (blk_grown (g := gb340) (o := .cells #[.int .i64 t335, .int .i64 t336, .int .i64 t337, .int .i64 t338] 32 (0, 0)) q142_ hg (Kd.R_ne HO_16.out BK340.out (by decide))); have n8_ := am_ (hb); have n9_ := am_ (ho); clear HO_15; clear HO_319003; clear HO_327003; clear HO_331003; clear BK318; clear BK326; clear BK330; clear BK340; clear HB; clear HO_16; have HO_15 := n0_; have HO_319003 := n1_; have HO_327003 := n2_; have HO_331003 := n3_; have BK318 := n4_; have BK326 := n5_; have BK330 := n6_; have BK340 := n7_; have HB := n8_; have HO348 := n9_; clear n0_ n1_ n2_ n3_ n4_ n5_ n6_ n7_ n8_ n9_; clear ho hb hg hat))
               go_roundg k4
               case measure => have := HK1.out; have := HJ38.out; have := HK3.out; have := HK4.out; omega
               case rel => exact ⟨(y346), (wrap64 (x18_4 + 1)), q169_, q168_, ⟨by have := HK1.out; have := HJ38.out; have := HK3.out; have := HK4.out; omega⟩, ⟨by (with_reducible repeat (first | apply Kd.R_alloc | apply Kd.R_drewN | apply Kd.R_drew)); exact Kd.R_mono HO_15.out (fun _ hk => ⟨hk.2, ⟨hk.1.1, ⟨hk.1.2.1, hk.1.2.2⟩⟩⟩)⟩, ⟨by (with_reducible repeat (first | apply Kd.R_alloc | apply Kd.R_drewN | apply Kd.R_drew)); exact HO348.out⟩, ⟨by (with_reducible repeat (first | apply Kd.R_alloc | apply Kd.R_drewN | apply Kd.R_drew)); exact Kd.R_mono HO_319003.out (fun _ hk => ⟨hk.1.1, ⟨hk.2, ⟨hk.1.2.1, hk.1.2.2⟩⟩⟩)⟩, ⟨by (with_reducible repeat (first | apply Kd.R_alloc | apply Kd.R_drewN | apply Kd.R_drew)); exact Kd.R_mono HO_327003.out (fun _ hk => ⟨hk.1.1, ⟨hk.2, ⟨hk.1.2.1, hk.1.2.2⟩⟩⟩)⟩, ⟨by (with_reducible repeat (first | apply Kd.R_alloc | apply Kd.R_drewN | apply Kd.R_drew)); exact Kd.R_mono HO_331003.out (fun _ hk => ⟨hk.1.1, ⟨hk.2, ⟨hk.1.2.1, hk.1.2.2⟩⟩⟩)⟩, ⟨q139_⟩, ⟨q140_⟩, ⟨q141_⟩, ⟨q142_⟩, ⟨q37_⟩⟩
              ·rw [if_neg c71] at H
               exact absurd H (by simp)
             ·rw [if_neg c69] at H
              have c69b0 : decide (x18_4 < t337) = false := decide_eq_false c69
              clear c69
              replace H := Option.bind_eq_some_iff.mp H
              obtain ⟨t349, A820, H⟩ := H
              replace H : ((integral_Tile.f k4 t307 t308 t309 t310 t335 t336 t337 t338 x15_3 x16_4 t349).bind fun bt350 => ((plane_Blit.f k4 x331000_1 x331001_1 x331002_1 x331003_1 bt350.1 bt350.2.1 bt350.2.2.1 bt350.2.2.2.1 t335 t336).bind fun bt358 => (if bt350.2.2.2.2 = 0 then (if bt358.2.2.2.2 = true then (tilefarmlaw13_IntegralGrows.l0 k4 (wrap64 (1 + t314)) (wrap64 (1 + t316)) t325 t331 t332 (wrap64 (x12_1 + 1)) t307 t308 t309 t310 t319 t320 t321 t322 bt358.1 bt358.2.1 bt358.2.2.1 bt358.2.2.2.1) else (some false)) else (some false)))) = some r := H
              have A82 := am_ A820
              clear A820
              replace H := Option.bind_eq_some_iff.mp H
              obtain ⟨⟨t350, t351, t352, t353, t356⟩, A830, H⟩ := H
              replace H : ((plane_Blit.f k4 x331000_1 x331001_1 x331002_1 x331003_1 t350 t351 t352 t353 t335 t336).bind fun bt358 => (if t356 = 0 then (if bt358.2.2.2.2 = true then (tilefarmlaw13_IntegralGrows.l0 k4 (wrap64 (1 + t314)) (wrap64 (1 + t316)) t325 t331 t332 (wrap64 (x12_1 + 1)) t307 t308 t309 t310 t319 t320 t321 t322 bt358.1 bt358.2.1 bt358.2.2.1 bt358.2.2.2.1) else (some false)) else (some false))) = some r := H
              have A83 := am_ A830
              clear A830
              replace H := Option.bind_eq_some_iff.mp H
              obtain ⟨⟨t358, t359, t360, t361, t364⟩, A840, H⟩ := H
              replace H : (if t356 = 0 then (if t364 = true then (tilefarmlaw13_IntegralGrows.l0 k4 (wrap64 (1 + t314)) (wrap64 (1 + t316)) t325 t331 t332 (wrap64 (x12_1 + 1)) t307 t308 t309 t310 t319 t320 t321 t322 t358 t359 t360 t361) else (some false)) else (some false)) = some r := H
              have A84 := am_ A840
              clear A840
              by_cases c85 : t356 = 0
              ·rw [if_pos c85] at H
               have c85b0 : (t356 == 0) = true := beq_iff_eq.mpr c85
               have c85b1 : (t356 != 0) = false := bne_eq_false_iff_eq.mpr c85
               clear c85
               by_cases c86 : t364 = true
               ·subst c86
                have H1 : (tilefarmlaw13_IntegralGrows.l0 k4 (wrap64 (1 + t314)) (wrap64 (1 + t316)) t325 t331 t332 (wrap64 (x12_1 + 1)) t307 t308 t309 t310 t319 t320 t321 t322 t358 t359 t360 t361) = some r := by rw [if_pos rfl] at H; exact H
                clear H
                have H := H1
                clear H1
                have H' := am_ H
                clear H
                have hnb87 := NB340_318.out
                have hnc87 := NB318_340.out
                have hnb88 := NB340_326.out
                have hnc88 := NB326_340.out
                have hnb89 := NB340_330.out
                have hnc89 := NB330_340.out
                have hcz90_0 : wr.cell? ⟨gb340, 0, none⟩ = some (.int .i64 t335) := (blk_cell BK340.out 0).trans rfl
                have hcz90_1 : wr.cell? ⟨gb340, 1, none⟩ = some (.int .i64 t336) := (blk_cell BK340.out 1).trans rfl
                have hcz90_2 : wr.cell? ⟨gb340, 2, none⟩ = some (.int .i64 t337) := (blk_cell BK340.out 2).trans rfl
                have hcz90_3 : wr.cell? ⟨gb340, 3, none⟩ = some (.int .i64 t338) := (blk_cell BK340.out 3).trans rfl
                have hfz90_0 := blk_frozen BK340.out 0
                have hfz90_1 := blk_frozen BK340.out 1
                have hfz90_2 := blk_frozen BK340.out 2
                have hfz90_3 := blk_frozen BK340.out 3
                obtain ⟨Ao91, co91, eo91⟩ := Kd.R_slice HO_331003.out
                subst eo91
                obtain ⟨Ao92, co92, eo92⟩ := Kd.R_slice HO_15.out
                subst eo92
                obtain ⟨Ao93, co93, eo93⟩ := Kd.R_slice HO_16.out
                subst eo93
                try go_wp2
                have n0_ := am_ (Kd.R_drew HO_15.out)
                have n1_ := am_ (Kd.R_drew HO_16.out)
                have n2_ := am_ (Kd.R_drew HO_319003.out)
                have n3_ := am_ (Kd.R_drew HO_327003.out)
                have n4_ := am_ (Kd.R_drew HO_331003.out)
                have n5_ := am_ (blk_drew BK318.out)
                have n6_ := am_ (blk_drew BK326.out)
                have n7_ := am_ (blk_drew BK330.out)
                have n8_ := am_ (blk_drew BK340.out)
                have n9_ := am_ (below_drew1 HB.out)
                clear HO_15
                clear HO_16
                clear HO_319003
                clear HO_327003
                clear HO_331003
                clear BK318
                clear BK326
                clear BK330
                clear BK340
                clear HB
                have HO_15 := n0_
                have HO_16 := n1_
                have HO_319003 := n2_
                have HO_327003 := n3_
                have HO_331003 := n4_
                have BK318 := n5_
                have BK326 := n6_
                have BK330 := n7_
                have BK340 := n8_
                have HB := n9_
                clear n0_ n1_ n2_ n3_ n4_ n5_ n6_ n7_ n8_ n9_
                refine start_ (n := 19) (S := fun w' => w'.cell? ⟨gb318, 0, none⟩ = some (.int .i64 t307) ∧ w'.cell? ⟨gb318, 1, none⟩ = some (.int .i64 t308) ∧ w'.cell? ⟨gb318, 2, none⟩ = some (.int .i64 t309) ∧ w'.cell? ⟨gb318, 3, none⟩ = some (.slice Ao18 t310.length co18) ∧ w'.cell? ⟨gb340, 0, none⟩ = some (.int .i64 t335) ∧ w'.cell? ⟨gb340, 1, none⟩ = some (.int .i64 t336) ∧ w'.cell? ⟨gb340, 2, none⟩ = some (.int .i64 t337) ∧ w'.cell? ⟨gb340, 3, none⟩ = some (.int .i64 t338) ∧ w'.cell? ⟨gb330, 0, none⟩ = some (.int .i64 x331000_1) ∧ w'.cell? ⟨gb330, 1, none⟩ = some (.int .i64 x331001_1) ∧ w'.cell? ⟨gb330, 2, none⟩ = some (.int .i64 x331002_1) ∧ w'.cell? ⟨gb330, 3, none⟩ = some (.slice Ao91 x331003_1.length co91)) (ds := []) #[false, false, false, false, false, false, false, false, false, false, false, false, false, false, false, false, false, false, false] (by kernel_rfl) rfl rfl ⟨(blk_cell BK318.out 0).trans rfl, (blk_cell BK318.out 1).trans rfl, (blk_cell BK318.out 2).trans rfl, (blk_cell BK318.out 3).trans rfl, (blk_cell BK340.out 0).trans rfl, (blk_cell BK340.out 1).trans rfl, (blk_cell BK340.out 2).trans rfl, (blk_cell BK340.out 3).trans rfl, (blk_cell BK330.out 0).trans rfl, (blk_cell BK330.out 1).trans rfl, (blk_cell BK330.out 2).trans rfl, (blk_cell BK330.out 3).trans rfl⟩ (fun hHeld => ?_); refine with_tabW tilefarmlaw13_IntegralGrows.tab19 tilefarmlaw13_IntegralGrows.bits19 (fun HT_ HW_ => ?_)
                generalize wr.drew = w94 at HO_15 HO_16 HO_319003 HO_327003 HO_331003 BK318 BK326 BK330 BK340 HB hHeld ⊢
                refine pure_ (i := 2) (N := some 120) (v := ?_) (a' := ?_) #[false, false, true, false, false, false, false, false, false, false, false, false, false, false, false, false, false, false, false] rfl rfl (any_of HT_.out (by kernel_rfl)) (fun _ _ _ h => h) (Or.inl ⟨by rfl, ?_⟩) ?_ ?_
                rotate_left
                ·intro w'
                 go_simp
                 with_reducible rfl
                rotate_left
                ·simp only [Act.put, List.setIfInBounds_toArray, List.set_cons_zero, List.set_cons_succ, i64_w, i32_w]
                 rfl
                refine pure_ (i := 3) (N := some 121) (v := ?_) (a' := ?_) #[false, false, true, true, false, false, false, false, false, false, false, false, false, false, false, false, false, false, false] rfl rfl (any_of HT_.out (by kernel_rfl)) (fun _ _ _ h => h) (Or.inl ⟨by rfl, ?_⟩) ?_ ?_
                rotate_left
                ·intro w'
                 go_simp
                 with_reducible rfl
                rotate_left
                ·simp only [Act.put, List.setIfInBounds_toArray, List.set_cons_zero, List.set_cons_succ, i64_w, i32_w]
                 rfl
                refine pure_ (i := 5) (N := some 123) (v := ?_) (a' := ?_) #[false, false, true, true, false, true, false, false, false, false, false, false, false, false, false, false, false, false, false] rfl rfl (any_of HT_.out (by kernel_rfl)) (fun _ _ _ h => h) (Or.inl ⟨by rfl, ?_⟩) ?_ ?_
                rotate_left
                ·intro w'
                 go_simp
                 with_reducible rfl
                rotate_left
                ·simp only [Act.put, List.setIfInBounds_toArray, List.set_cons_zero, List.set_cons_succ, i64_w, i32_w]
                 rfl
                refine pure_ (i := 8) (N := some 126) (v := ?_) (a' := ?_) #[false, false, true, true, false, true, false, false, true, false, false, false, false, false, false, false, false, false, false] rfl rfl (any_of HT_.out (by kernel_rfl)) (fun _ _ _ h => h) (Or.inl ⟨by rfl, ?_⟩) ?_ ?_
                rotate_left
                ·intro w'
                 go_simp
                 with_reducible rfl
                rotate_left
                ·simp only [Act.put, List.setIfInBounds_toArray, List.set_cons_zero, List.set_cons_succ, i64_w, i32_w]
                 rfl
                refine take_ (i := 0) (N := some 118) (v := ?_) (a' := ?_) #[true, false, true, true, false, true, false, false, true, false, false, false, false, false, false, false, false, false, false] rfl rfl (take_ofW HT_.out HW_.out (by kernel_rfl)) (fun _ _ _ h => h) (Or.inl ⟨by rfl, ?_⟩) hHeld ?_ ?_
                rotate_left
                ·rintro w' ⟨s0, s1, s2, s3, s4, s5, s6, s7, s8, s9, s10, s11⟩
                 go_simp
                 with_reducible rfl
                rotate_left
                ·simp only [Act.put, List.setIfInBounds_toArray, List.set_cons_zero, List.set_cons_succ, i64_w, i32_w]
                 rfl
                refine take_ (i := 1) (N := some 119) (v := ?_) (a' := ?_) #[true, true, true, true, false, true, false, false, true, false, false, false, false, false, false, false, false, false, false] rfl rfl (take_ofW HT_.out HW_.out (by kernel_rfl)) (fun _ _ _ h => h) (Or.inl ⟨by rfl, ?_⟩) hHeld ?_ ?_
                rotate_left
                ·rintro w' ⟨s0, s1, s2, s3, s4, s5, s6, s7, s8, s9, s10, s11⟩
                 go_simp
                 with_reducible rfl
                rotate_left
                ·simp only [Act.put, List.setIfInBounds_toArray, List.set_cons_zero, List.set_cons_succ, i64_w, i32_w]
                 rfl
                refine take_ (i := 4) (N := some 122) (v := ?_) (a' := ?_) #[true, true, true, true, true, true, false, false, true, false, false, false, false, false, false, false, false, false, false] rfl rfl (take_ofW HT_.out HW_.out (by kernel_rfl)) (fun _ _ _ h => h) (Or.inl ⟨by rfl, ?_⟩) hHeld ?_ ?_
                rotate_left
                ·rintro w' ⟨s0, s1, s2, s3, s4, s5, s6, s7, s8, s9, s10, s11⟩
                 go_simp
                 with_reducible rfl
                rotate_left
                ·simp only [Act.put, List.setIfInBounds_toArray, List.set_cons_zero, List.set_cons_succ, i64_w, i32_w]
                 rfl
                refine take_ (i := 6) (N := some 124) (v := ?_) (a' := ?_) #[true, true, true, true, true, true, true, false, true, false, false, false, false, false, false, false, false, false, false] rfl rfl (take_ofW HT_.out HW_.out (by kernel_rfl)) (fun _ _ _ h => h) (Or.inl ⟨by rfl, ?_⟩) hHeld ?_ ?_
                rotate_left
                ·rintro w' ⟨s0, s1, s2, s3, s4, s5, s6, s7, s8, s9, s10, s11⟩
                 go_simp
                 with_reducible rfl
                rotate_left
                ·simp only [Act.put, List.setIfInBounds_toArray, List.set_cons_zero, List.set_cons_succ, i64_w, i32_w]
                 rfl
                refine pure_ (i := 7) (N := some 125) (v := ?_) (a' := ?_) #[true, true, true, true, true, true, true, true, true, false, false, false, false, false, false, false, false, false, false] rfl rfl (any_of HT_.out (by kernel_rfl)) (fun _ _ _ h => h) (Or.inl ⟨by rfl, ?_⟩) ?_ ?_
                rotate_left
                ·intro w'
                 go_simp
                 with_reducible rfl
                rotate_left
                ·simp only [Act.put, List.setIfInBounds_toArray, List.set_cons_zero, List.set_cons_succ, i64_w, i32_w]
                 rfl
                refine take_ (i := 9) (N := some 127) (v := ?_) (a' := ?_) #[true, true, true, true, true, true, true, true, true, true, false, false, false, false, false, false, false, false, false] rfl rfl (take_ofW HT_.out HW_.out (by kernel_rfl)) (fun _ _ _ h => h) (Or.inl ⟨by rfl, ?_⟩) hHeld ?_ ?_
                rotate_left
                ·rintro w' ⟨s0, s1, s2, s3, s4, s5, s6, s7, s8, s9, s10, s11⟩
                 go_simp
                 with_reducible rfl
                rotate_left
                ·simp only [Act.put, List.setIfInBounds_toArray, List.set_cons_zero, List.set_cons_succ, i64_w, i32_w]
                 rfl
                refine pure_ (i := 10) (N := some 128) (v := ?_) (a' := ?_) #[true, true, true, true, true, true, true, true, true, true, true, false, false, false, false, false, false, false, false] rfl rfl (any_of HT_.out (by kernel_rfl)) (fun _ _ _ h => h) (Or.inl ⟨by rfl, ?_⟩) ?_ ?_
                rotate_left
                ·intro w'
                 go_simp
                 with_reducible rfl
                rotate_left
                ·simp only [Act.put, List.setIfInBounds_toArray, List.set_cons_zero, List.set_cons_succ, i64_w, i32_w]
                 rfl
                refine join_ (σ := Value × Nat) 2 #[true, true, true, true, true, true, true, true, true, true, true, true, true, true, true, true, true, false, false] (fun s_ => [(129, .int .i64 t349), (130, .tuple #[.agg #[.int .i64 t350, .int .i64 t351, .int .i64 t352, s_.1], .int .i64 t356]), (19, .pointer (some ⟨s_.2, 0, none⟩)), (117, .tuple #[.agg #[.int .i64 t350, .int .i64 t351, .int .i64 t352, s_.1], .int .i64 t356]), (131, .agg #[.int .i64 t350, .int .i64 t351, .int .i64 t352, s_.1]), (132, .int .i64 t356)]) (fun s_ w' => (w'.cell? ⟨gb318, 0, none⟩ = some (.int .i64 t307) ∧ w'.cell? ⟨gb318, 1, none⟩ = some (.int .i64 t308) ∧ w'.cell? ⟨gb318, 2, none⟩ = some (.int .i64 t309) ∧ w'.cell? ⟨gb318, 3, none⟩ = some (.slice Ao18 t310.length co18) ∧ w'.cell? ⟨gb340, 0, none⟩ = some (.int .i64 t335) ∧ w'.cell? ⟨gb340, 1, none⟩ = some (.int .i64 t336) ∧ w'.cell? ⟨gb340, 2, none⟩ = some (.int .i64 t337) ∧ w'.cell? ⟨gb340, 3, none⟩ = some (.int .i64 t338) ∧ w'.cell? ⟨gb330, 0, none⟩ = some (.int .i64 x331000_1) ∧ w'.cell? ⟨gb330, 1, none⟩ = some (.int .i64 x331001_1) ∧ w'.cell? ⟨gb330, 2, none⟩ = some (.int .i64 x331002_1) ∧ w'.cell? ⟨gb330, 3, none⟩ = some (.slice Ao91 x331003_1.length co91)) ∧ (Kd.R (Kd.int .i64) 3 w' w.heap.size (fun k_ => some k_ ≠ (.slice Ao92 x15_3.length co92 : Value).ownBlock ∧ some k_ ≠ (.slice Ao93 x16_4.length co93 : Value).ownBlock ∧ some k_ ≠ (.slice Ao18 t310.length co18 : Value).ownBlock ∧ some k_ ≠ (.slice Ao24 t322.length co24 : Value).ownBlock ∧ some k_ ≠ (.slice Ao91 x331003_1.length co91 : Value).ownBlock) s_.1 t353) ∧ (Kd.R (Kd.int .i64) 3 w' w.heap.size (fun k_ => some k_ ≠ (s_.1 : Value).ownBlock ∧ some k_ ≠ (.slice Ao93 x16_4.length co93 : Value).ownBlock ∧ some k_ ≠ (.slice Ao18 t310.length co18 : Value).ownBlock ∧ some k_ ≠ (.slice Ao24 t322.length co24 : Value).ownBlock ∧ some k_ ≠ (.slice Ao91 x331003_1.length co91 : Value).ownBlock) (.slice Ao92 x15_3.length co92) x15_3) ∧ (Kd.R (Kd.int .i64) 3 w' w.heap.size (fun k_ => some k_ ≠ (s_.1 : Value).ownBlock ∧ some k_ ≠ (.slice Ao92 x15_3.length co92 : Value).ownBlock ∧ some k_ ≠ (.slice Ao18 t310.length co18 : Value).ownBlock ∧ some k_ ≠ (.slice Ao24 t322.length co24 : Value).ownBlock ∧ some k_ ≠ (.slice Ao91 x331003_1.length co91 : Value).ownBlock) (.slice Ao93 x16_4.length co93) x16_4) ∧ (Kd.R (Kd.int .i64) 3 w' w.heap.size (fun k_ => some k_ ≠ (s_.1 : Value).ownBlock ∧ some k_ ≠ (.slice Ao92 x15_3.length co92 : Value).ownBlock ∧ some k_ ≠ (.slice Ao93 x16_4.length co93 : Value).ownBlock ∧ some k_ ≠ (.slice Ao24 t322.length co24 : Value).ownBlock ∧ some k_ ≠ (.slice Ao91 x331003_1.length co91 : Value).ownBlock) (.slice Ao18 t310.length co18) t310) ∧ (Kd.R (Kd.int .i64) 3 w' w.heap.size (fun k_ => some k_ ≠ (s_.1 : Value).ownBlock ∧ some k_ ≠ (.slice Ao92 x15_3.length co92 : Value).ownBlock ∧ some k_ ≠ (.slice Ao93 x16_4.length co93 : Value).ownBlock ∧ some k_ ≠ (.slice Ao18 t310.length co18 : Value).ownBlock ∧ some k_ ≠ (.slice Ao91 x331003_1.length co91 : Value).ownBlock) (.slice Ao24 t322.length co24) t322) ∧ (Kd.R (Kd.int .i64) 3 w' w.heap.size (fun k_ => some k_ ≠ (s_.1 : Value).ownBlock ∧ some k_ ≠ (.slice Ao92 x15_3.length co92 : Value).ownBlock ∧ some k_ ≠ (.slice Ao93 x16_4.length co93 : Value).ownBlock ∧ some k_ ≠ (.slice Ao18 t310.length co18 : Value).ownBlock ∧ some k_ ≠ (.slice Ao24 t322.length co24 : Value).ownBlock) (.slice Ao91 x331003_1.length co91) x331003_1) ∧ (w'.heap[gb318]? = some (.cells #[.int .i64 t307, .int .i64 t308, .int .i64 t309, .slice Ao18 t310.length co18] 26 (0, 0))) ∧ (w'.heap[gb326]? = some (.cells #[.int .i64 t319, .int .i64 t320, .int .i64 t321, .slice Ao24 t322.length co24] 26 (0, 0))) ∧ (w'.heap[gb330]? = some (.cells #[.int .i64 x331000_1, .int .i64 x331001_1, .int .i64 x331002_1, .slice Ao91 x331003_1.length co91] 26 (0, 0))) ∧ (w'.heap[gb340]? = some (.cells #[.int .i64 t335, .int .i64 t336, .int .i64 t337, .int .i64 t338] 32 (0, 0))) ∧ (w'.heap[s_.2]? = some (.cells #[.int .i64 0, .int .i64 0, .int .i64 0, .slice none 0 0] 26 (0, 0))) ∧ (w.heap.size ≤ s_.2) ∧ (w.heap.size ≤ s_.2) ∧ (gb318 ≠ s_.2) ∧ (s_.2 ≠ gb318) ∧ (gb326 ≠ s_.2) ∧ (s_.2 ≠ gb326) ∧ (gb330 ≠ s_.2) ∧ (s_.2 ≠ gb330) ∧ (gb340 ≠ s_.2) ∧ (s_.2 ≠ gb340) ∧ (Below w.heap.size w w')) ?_ ?_
                rotate_left
                ·intro hCont
                 refine two_ (i := 11) (j := 16) (Ni := some 129) (Nj := some 19) #[true, true, true, true, true, true, true, true, true, true, true, true, false, false, false, false, false, false, false] #[true, true, true, true, true, true, true, true, true, true, true, false, false, false, false, false, true, false, false] rfl rfl rfl rfl (two_of HT_.out (by kernel_rfl)) (by decide) (by decide) (fun K hK => ?_) (fun K hK => ?_)
                 ·skip
                  refine goes_ Try.func26 (by kernel_rfl) rfl #[.agg #[.int .i64 x331000_1, .int .i64 x331001_1, .int .i64 x331002_1, .slice Ao91 x331003_1.length co91], .int .i64 (wrap64 (t335 - 1)), .int .i64 (wrap64 (t336 - 1))] (by rfl) rfl rfl q107_ ?_
                  with_reducible refine (tilefarmlaw13_at.calls x331000_1 x331001_1 x331002_1 _ _ x331003_1 (wrap64 (t335 - 1)) (wrap64 (t336 - 1)) t349 _ ?side1 ?side2 A82.out).mono ?_
                  (case side1 => repeat (first | exact (Kd.R_reads' HO_331003.out).2.2 | (with_reducible refine Kd.C_alloc ?_ _) | (with_reducible refine Kd.C_drewN ?_ _) | (with_reducible refine Kd.C_drew ?_)))
                  (case side2 => exact (Kd.R_reads' HO_331003.out).2.1)
                  rintro e w95 ⟨rfl, hb⟩
                  refine ⟨_, rfl, ?_⟩
                  have n0_ := am_ (Kd.R_below q161_ hb)
                  have n1_ := am_ (Kd.R_below q162_ hb)
                  have n2_ := am_ (Kd.R_below q146_ hb)
                  have n3_ := am_ (Kd.R_below q147_ hb)
                  have n4_ := am_ (Kd.R_below q148_ hb)
                  have n5_ := am_ (blk_below (g := gb318) (o := .cells #[.int .i64 t307, .int .i64 t308, .int .i64 t309, .slice Ao18 t310.length co18] 26 (0, 0)) q139_ hb)
                  have n6_ := am_ (blk_below (g := gb326) (o := .cells #[.int .i64 t319, .int .i64 t320, .int .i64 t321, .slice Ao24 t322.length co24] 26 (0, 0)) q140_ hb)
                  have n7_ := am_ (blk_below (g := gb330) (o := .cells #[.int .i64 x331000_1, .int .i64 x331001_1, .int .i64 x331002_1, .slice Ao91 x331003_1.length co91] 26 (0, 0)) q141_ hb)
                  have n8_ := am_ (blk_below (g := gb340) (o := .cells #[.int .i64 t335, .int .i64 t336, .int .i64 t337, .int .i64 t338] 32 (0, 0)) q142_ hb)
                  have n9_ := am_ (below_step q37_ hb)
                  clear HO_15
                  clear HO_16
                  clear HO_319003
                  clear HO_327003
                  clear HO_331003
                  clear BK318
                  clear BK326
                  clear BK330
                  clear BK340
                  clear HB
                  have HO_15 := n0_
                  have HO_16 := n1_
                  have HO_319003 := n2_
                  have HO_327003 := n3_
                  have HO_331003 := n4_
                  have BK318 := n5_
                  have BK326 := n6_
                  have BK330 := n7_
                  have BK340 := n8_
                  have HB := n9_
                  clear n0_ n1_ n2_ n3_ n4_ n5_ n6_ n7_ n8_ n9_
                  (try clear hb)
                  (try clear hb2)
                  (try clear hk)
                  (try clear hi)
                  refine hK.out _ _ ⟨(blk_cell BK318.out 0).trans rfl, (blk_cell BK318.out 1).trans rfl, (blk_cell BK318.out 2).trans rfl, (blk_cell BK318.out 3).trans rfl, (blk_cell BK340.out 0).trans rfl, (blk_cell BK340.out 1).trans rfl, (blk_cell BK340.out 2).trans rfl, (blk_cell BK340.out 3).trans rfl, (blk_cell BK330.out 0).trans rfl, (blk_cell BK330.out 1).trans rfl, (blk_cell BK330.out 2).trans rfl, (blk_cell BK330.out 3).trans rfl⟩ (fun hHeld => ?_)
                  clear hK K
                  refine norm_ (a' := ?_) ?_ ?_
                  rotate_left
                  ·show Act.put _ (some 129) _ = _
                   simp only [Act.put, List.setIfInBounds_toArray, List.set_cons_zero, List.set_cons_succ, i64_w, i32_w]
                   rfl
                  refine two_ (i := 12) (j := 16) (Ni := some 130) (Nj := some 19) #[true, true, true, true, true, true, true, true, true, true, true, true, true, false, false, false, false, false, false] #[true, true, true, true, true, true, true, true, true, true, true, true, false, false, false, false, true, false, false] rfl rfl rfl rfl (two_of HT_.out (by kernel_rfl)) (by decide) (by decide) (fun K hK => ?_) (fun K hK => ?_)
                  ·skip
                   refine goes_ Try.func22 (by kernel_rfl) rfl #[.agg #[.int .i64 t307, .int .i64 t308, .int .i64 t309, .slice Ao18 t310.length co18], .agg #[.int .i64 t335, .int .i64 t336, .int .i64 t337, .int .i64 t338], .slice Ao92 x15_3.length co92, .slice Ao93 x16_4.length co93, .int .i64 t349] (by rfl) rfl rfl q107_ ?_
                   with_reducible refine (integral_Tile.calls k4 t307 t308 t309 _ _ t310 t335 t336 t337 t338 _ _ x15_3 _ _ x16_4 t349 t350 t351 t352 t353 t356 _ ?side1 ?side2 ?side3 ?side4 ?side5 ?side6 A83.out).mono ?_
                   (case side1 => repeat (first | exact (Kd.R_reads' HO_319003.out).2.2 | (with_reducible refine Kd.C_alloc ?_ _) | (with_reducible refine Kd.C_drewN ?_ _) | (with_reducible refine Kd.C_drew ?_)))
                   (case side2 => exact (Kd.R_reads' HO_319003.out).2.1)
                   (case side3 => repeat (first | exact (Kd.R_reads' HO_15.out).2.2 | (with_reducible refine Kd.C_alloc ?_ _) | (with_reducible refine Kd.C_drewN ?_ _) | (with_reducible refine Kd.C_drew ?_)))
                   (case side4 => exact (Kd.R_reads' HO_15.out).2.1)
                   (case side5 => repeat (first | exact (Kd.R_reads' HO_16.out).2.2 | (with_reducible refine Kd.C_alloc ?_ _) | (with_reducible refine Kd.C_drewN ?_ _) | (with_reducible refine Kd.C_drew ?_)))
                   (case side6 => exact (Kd.R_reads' HO_16.out).2.1)
                   rintro e w96 ⟨v354, rfl, ho0, hb⟩
                   refine ⟨_, rfl, ?_⟩
                   have n0_ := am_ (Kd.R_elder' q161_ (Kd.R_base ho0) hb)
                   have n1_ := am_ (Kd.R_elder' q162_ (Kd.R_base ho0) hb)
                   have n2_ := am_ (Kd.R_elder' q146_ (Kd.R_base ho0) hb)
                   have n3_ := am_ (Kd.R_elder' q147_ (Kd.R_base ho0) hb)
                   have n4_ := am_ (Kd.R_elder' q148_ (Kd.R_base ho0) hb)
                   have n5_ := am_ (Kd.R_lower (Kd.R_new' (Kd.R_new' (Kd.R_new' (Kd.R_new' (Kd.R_new' ho0 (Kd.R_lt q161_)) (Kd.R_lt q162_)) (Kd.R_lt q146_)) (Kd.R_lt q147_)) (Kd.R_lt q148_)) (below_size q37_))
                   have n6_ := am_ (blk_below (g := gb318) (o := .cells #[.int .i64 t307, .int .i64 t308, .int .i64 t309, .slice Ao18 t310.length co18] 26 (0, 0)) q139_ hb)
                   have n7_ := am_ (blk_below (g := gb326) (o := .cells #[.int .i64 t319, .int .i64 t320, .int .i64 t321, .slice Ao24 t322.length co24] 26 (0, 0)) q140_ hb)
                   have n8_ := am_ (blk_below (g := gb330) (o := .cells #[.int .i64 x331000_1, .int .i64 x331001_1, .int .i64 x331002_1, .slice Ao91 x331003_1.length co91] 26 (0, 0)) q141_ hb)
                   have n9_ := am_ (blk_below (g := gb340) (o := .cells #[.int .i64 t335, .int .i64 t336, .int .i64 t337, .int .i64 t338] 32 (0, 0)) q142_ hb)
                   have n10_ := am_ (below_step q37_ hb)
                   clear HO_15
                   clear HO_16
                   clear HO_319003
                   clear HO_327003
                   clear HO_331003
                   clear BK318
                   clear BK326
                   clear BK330
                   clear BK340
                   clear HB
                   have HO_15 := n0_
                   have HO_16 := n1_
                   have HO_319003 := n2_
                   have HO_327003 := n3_
                   have HO_331003 := n4_
                   have HO355 := n5_
                   have BK318 := n6_
                   have BK326 := n7_
                   have BK330 := n8_
                   have BK340 := n9_
                   have HB := n10_
                   clear n0_ n1_ n2_ n3_ n4_ n5_ n6_ n7_ n8_ n9_ n10_
                   (try clear hb)
                   (try clear hb2)
                   (try clear hk)
                   (try clear hi)
                   (try clear ho0)
                   refine hK.out _ _ ⟨(blk_cell BK318.out 0).trans rfl, (blk_cell BK318.out 1).trans rfl, (blk_cell BK318.out 2).trans rfl, (blk_cell BK318.out 3).trans rfl, (blk_cell BK340.out 0).trans rfl, (blk_cell BK340.out 1).trans rfl, (blk_cell BK340.out 2).trans rfl, (blk_cell BK340.out 3).trans rfl, (blk_cell BK330.out 0).trans rfl, (blk_cell BK330.out 1).trans rfl, (blk_cell BK330.out 2).trans rfl, (blk_cell BK330.out 3).trans rfl⟩ (fun hHeld => ?_)
                   clear hK K
                   refine norm_ (a' := ?_) ?_ ?_
                   rotate_left
                   ·show Act.put _ (some 130) _ = _
                    simp only [Act.put, List.setIfInBounds_toArray, List.set_cons_zero, List.set_cons_succ, i64_w, i32_w]
                    rfl
                   refine pure_ (i := 13) (N := some 117) (v := ?_) (a' := ?_) #[true, true, true, true, true, true, true, true, true, true, true, true, true, true, false, false, false, false, false] rfl rfl (any_of HT_.out (by kernel_rfl)) (fun _ _ _ h => h) (Or.inl ⟨by rfl, ?_⟩) ?_ ?_
                   rotate_left
                   ·intro w'
                    go_simp
                    with_reducible rfl
                   rotate_left
                   ·simp only [Act.put, List.setIfInBounds_toArray, List.set_cons_zero, List.set_cons_succ, i64_w, i32_w]
                    rfl
                   refine pure_ (i := 14) (N := some 131) (v := ?_) (a' := ?_) #[true, true, true, true, true, true, true, true, true, true, true, true, true, true, true, false, false, false, false] rfl rfl (any_of HT_.out (by kernel_rfl)) (fun _ _ _ h => h) (Or.inl ⟨by rfl, ?_⟩) ?_ ?_
                   rotate_left
                   ·intro w'
                    go_simp
                    with_reducible rfl
                   rotate_left
                   ·simp only [Act.put, List.setIfInBounds_toArray, List.set_cons_zero, List.set_cons_succ, i64_w, i32_w]
                    rfl
                   refine pure_ (i := 15) (N := some 132) (v := ?_) (a' := ?_) #[true, true, true, true, true, true, true, true, true, true, true, true, true, true, true, true, false, false, false] rfl rfl (any_of HT_.out (by kernel_rfl)) (fun _ _ _ h => h) (Or.inl ⟨by rfl, ?_⟩) ?_ ?_
                   rotate_left
                   ·intro w'
                    go_simp
                    with_reducible rfl
                   rotate_left
                   ·simp only [Act.put, List.setIfInBounds_toArray, List.set_cons_zero, List.set_cons_succ, i64_w, i32_w]
                    rfl
                   refine one_ (i := 16) (N := some 19) #[true, true, true, true, true, true, true, true, true, true, true, true, true, true, true, true, true, false, false] rfl rfl (one_of HT_.out (by kernel_rfl)) (by decide) (fun K hK => ?_)
                   refine box_step ?hg (N := 19) ?hd (cs := #[.int .i64 0, .int .i64 0, .int .i64 0, .slice none 0 0]) (t := 26) ?hr ?_; (case hd => rfl); (case hg => rfl); (case hr => first | (go_simp; done) | (go_simp; rfl))
                   intro gb357 hg w97 hbox hb
                   have n0_ := am_ (Kd.R_below q161_ hb)
                   have n1_ := am_ (Kd.R_below q162_ hb)
                   have n2_ := am_ (Kd.R_below q146_ hb)
                   have n3_ := am_ (Kd.R_below q147_ hb)
                   have n4_ := am_ (Kd.R_below q148_ hb)
                   have n5_ := am_ (Kd.R_below (by (with_reducible repeat (first | apply Kd.R_alloc | apply Kd.R_drewN | apply Kd.R_drew)); exact HO355.out) hb)
                   have n6_ := am_ (blk_below (g := gb318) (o := .cells #[.int .i64 t307, .int .i64 t308, .int .i64 t309, .slice Ao18 t310.length co18] 26 (0, 0)) q139_ hb)
                   have n7_ := am_ (blk_below (g := gb326) (o := .cells #[.int .i64 t319, .int .i64 t320, .int .i64 t321, .slice Ao24 t322.length co24] 26 (0, 0)) q140_ hb)
                   have n8_ := am_ (blk_below (g := gb330) (o := .cells #[.int .i64 x331000_1, .int .i64 x331001_1, .int .i64 x331002_1, .slice Ao91 x331003_1.length co91] 26 (0, 0)) q141_ hb)
                   have n9_ := am_ (blk_below (g := gb340) (o := .cells #[.int .i64 t335, .int .i64 t336, .int .i64 t337, .int .i64 t338] 32 (0, 0)) q142_ hb)
                   have n10_ := am_ (below_step q37_ hb)
                   have n11_ := am_ (hbox)
                   have n12_ := am_ ((q7_ : w.heap.size ≤ gb357))
                   have n13_ := am_ ((q7_ : w.heap.size ≤ gb357))
                   have n14_ := am_ ((q14_ : gb318 ≠ gb357))
                   have n15_ := am_ ((q15_ : gb357 ≠ gb318))
                   have n16_ := am_ ((q16_ : gb326 ≠ gb357))
                   have n17_ := am_ ((q17_ : gb357 ≠ gb326))
                   have n18_ := am_ ((q5_ : gb330 ≠ gb357))
                   have n19_ := am_ ((q6_ : gb357 ≠ gb330))
                   have n20_ := am_ ((q32_ : gb340 ≠ gb357))
                   have n21_ := am_ ((q33_ : gb357 ≠ gb340))
                   clear HO_15
                   clear HO_16
                   clear HO_319003
                   clear HO_327003
                   clear HO_331003
                   clear HO355
                   clear BK318
                   clear BK326
                   clear BK330
                   clear BK340
                   clear HB
                   have HO_15 := n0_
                   have HO_16 := n1_
                   have HO_319003 := n2_
                   have HO_327003 := n3_
                   have HO_331003 := n4_
                   have HO355 := n5_
                   have BK318 := n6_
                   have BK326 := n7_
                   have BK330 := n8_
                   have BK340 := n9_
                   have HB := n10_
                   have BK357 := n11_
                   have GW357 := n12_
                   have GE357 := n13_
                   have NB318_357 := n14_
                   have NB357_318 := n15_
                   have NB326_357 := n16_
                   have NB357_326 := n17_
                   have NB330_357 := n18_
                   have NB357_330 := n19_
                   have NB340_357 := n20_
                   have NB357_340 := n21_
                   clear n0_ n1_ n2_ n3_ n4_ n5_ n6_ n7_ n8_ n9_ n10_ n11_ n12_ n13_ n14_ n15_ n16_ n17_ n18_ n19_ n20_ n21_
                   clear hb hbox hg
                   refine hK.out _ _ ⟨(blk_cell BK318.out 0).trans rfl, (blk_cell BK318.out 1).trans rfl, (blk_cell BK318.out 2).trans rfl, (blk_cell BK318.out 3).trans rfl, (blk_cell BK340.out 0).trans rfl, (blk_cell BK340.out 1).trans rfl, (blk_cell BK340.out 2).trans rfl, (blk_cell BK340.out 3).trans rfl, (blk_cell BK330.out 0).trans rfl, (blk_cell BK330.out 1).trans rfl, (blk_cell BK330.out 2).trans rfl, (blk_cell BK330.out 3).trans rfl⟩ (fun hHeld => ?_)
                   clear hK K
                   refine norm_ (a' := ?_) ?_ ?_
                   rotate_left
                   ·show Act.put _ (some 19) _ = _
                    simp only [Act.put, List.setIfInBounds_toArray, List.set_cons_zero, List.set_cons_succ, i64_w, i32_w]
                    rfl
                   exact norm_ q163_ (hCont (v354, gb357) _ ⟨hHeld, q78_, q79_, q80_, q74_, q75_, q76_, q139_, q140_, q141_, q142_, q143_, GW357.out, GE357.out, NB318_357.out, NB357_318.out, NB326_357.out, NB357_326.out, NB330_357.out, NB357_330.out, NB340_357.out, NB357_340.out, q9_⟩)
                  ·skip
                   refine box_step ?hg (N := 19) ?hd (cs := #[.int .i64 0, .int .i64 0, .int .i64 0, .slice none 0 0]) (t := 26) ?hr ?_; (case hd => rfl); (case hg => rfl); (case hr => first | (go_simp; done) | (go_simp; rfl))
                   intro gb357 hg w96 hbox hb
                   have n0_ := am_ (Kd.R_below q161_ hb)
                   have n1_ := am_ (Kd.R_below q162_ hb)
                   have n2_ := am_ (Kd.R_below q146_ hb)
                   have n3_ := am_ (Kd.R_below q147_ hb)
                   have n4_ := am_ (Kd.R_below q148_ hb)
                   have n5_ := am_ (blk_below (g := gb318) (o := .cells #[.int .i64 t307, .int .i64 t308, .int .i64 t309, .slice Ao18 t310.length co18] 26 (0, 0)) q139_ hb)
                   have n6_ := am_ (blk_below (g := gb326) (o := .cells #[.int .i64 t319, .int .i64 t320, .int .i64 t321, .slice Ao24 t322.length co24] 26 (0, 0)) q140_ hb)
                   have n7_ := am_ (blk_below (g := gb330) (o := .cells #[.int .i64 x331000_1, .int .i64 x331001_1, .int .i64 x331002_1, .slice Ao91 x331003_1.length co91] 26 (0, 0)) q141_ hb)
                   have n8_ := am_ (blk_below (g := gb340) (o := .cells #[.int .i64 t335, .int .i64 t336, .int .i64 t337, .int .i64 t338] 32 (0, 0)) q142_ hb)
                   have n9_ := am_ (below_step q37_ hb)
                   have n10_ := am_ (hbox)
                   have n11_ := am_ ((q7_ : w.heap.size ≤ gb357))
                   have n12_ := am_ ((q7_ : w.heap.size ≤ gb357))
                   have n13_ := am_ ((q14_ : gb318 ≠ gb357))
                   have n14_ := am_ ((q15_ : gb357 ≠ gb318))
                   have n15_ := am_ ((q16_ : gb326 ≠ gb357))
                   have n16_ := am_ ((q17_ : gb357 ≠ gb326))
                   have n17_ := am_ ((q5_ : gb330 ≠ gb357))
                   have n18_ := am_ ((q6_ : gb357 ≠ gb330))
                   have n19_ := am_ ((q32_ : gb340 ≠ gb357))
                   have n20_ := am_ ((q33_ : gb357 ≠ gb340))
                   clear HO_15
                   clear HO_16
                   clear HO_319003
                   clear HO_327003
                   clear HO_331003
                   clear BK318
                   clear BK326
                   clear BK330
                   clear BK340
                   clear HB
                   have HO_15 := n0_
                   have HO_16 := n1_
                   have HO_319003 := n2_
                   have HO_327003 := n3_
                   have HO_331003 := n4_
                   have BK318 := n5_
                   have BK326 := n6_
                   have BK330 := n7_
                   have BK340 := n8_
                   have HB := n9_
                   have BK357 := n10_
                   have GW357 := n11_
                   have GE357 := n12_
                   have NB318_357 := n13_
                   have NB357_318 := n14_
                   have NB326_357 := n15_
                   have NB357_326 := n16_
                   have NB330_357 := n17_
                   have NB357_330 := n18_
                   have NB340_357 := n19_
                   have NB357_340 := n20_
                   clear n0_ n1_ n2_ n3_ n4_ n5_ n6_ n7_ n8_ n9_ n10_ n11_ n12_ n13_ n14_ n15_ n16_ n17_ n18_ n19_ n20_
                   clear hb hbox hg
                   refine hK.out _ _ ⟨(blk_cell BK318.out 0).trans rfl, (blk_cell BK318.out 1).trans rfl, (blk_cell BK318.out 2).trans rfl, (blk_cell BK318.out 3).trans rfl, (blk_cell BK340.out 0).trans rfl, (blk_cell BK340.out 1).trans rfl, (blk_cell BK340.out 2).trans rfl, (blk_cell BK340.out 3).trans rfl, (blk_cell BK330.out 0).trans rfl, (blk_cell BK330.out 1).trans rfl, (blk_cell BK330.out 2).trans rfl, (blk_cell BK330.out 3).trans rfl⟩ (fun hHeld => ?_)
                   clear hK K
                   refine norm_ (a' := ?_) ?_ ?_
                   rotate_left
                   ·show Act.put _ (some 19) _ = _
                    simp only [Act.put, List.setIfInBounds_toArray, List.set_cons_zero, List.set_cons_succ, i64_w, i32_w]
                    rfl
                   refine one_ (i := 12) (N := some 130) #[true, true, true, true, true, true, true, true, true, true, true, true, true, false, false, false, true, false, false] rfl rfl (one_of HT_.out (by kernel_rfl)) (by decide) (fun K hK => ?_)
                   refine goes_ Try.func22 (by kernel_rfl) rfl #[.agg #[.int .i64 t307, .int .i64 t308, .int .i64 t309, .slice Ao18 t310.length co18], .agg #[.int .i64 t335, .int .i64 t336, .int .i64 t337, .int .i64 t338], .slice Ao92 x15_3.length co92, .slice Ao93 x16_4.length co93, .int .i64 t349] (by rfl) rfl rfl q107_ ?_
                   with_reducible refine (integral_Tile.calls k4 t307 t308 t309 _ _ t310 t335 t336 t337 t338 _ _ x15_3 _ _ x16_4 t349 t350 t351 t352 t353 t356 _ ?side1 ?side2 ?side3 ?side4 ?side5 ?side6 A83.out).mono ?_
                   (case side1 => repeat (first | exact (Kd.R_reads' HO_319003.out).2.2 | (with_reducible refine Kd.C_alloc ?_ _) | (with_reducible refine Kd.C_drewN ?_ _) | (with_reducible refine Kd.C_drew ?_)))
                   (case side2 => exact (Kd.R_reads' HO_319003.out).2.1)
                   (case side3 => repeat (first | exact (Kd.R_reads' HO_15.out).2.2 | (with_reducible refine Kd.C_alloc ?_ _) | (with_reducible refine Kd.C_drewN ?_ _) | (with_reducible refine Kd.C_drew ?_)))
                   (case side4 => exact (Kd.R_reads' HO_15.out).2.1)
                   (case side5 => repeat (first | exact (Kd.R_reads' HO_16.out).2.2 | (with_reducible refine Kd.C_alloc ?_ _) | (with_reducible refine Kd.C_drewN ?_ _) | (with_reducible refine Kd.C_drew ?_)))
                   (case side6 => exact (Kd.R_reads' HO_16.out).2.1)
                   rintro e w97 ⟨v354, rfl, ho0, hb⟩
                   refine ⟨_, rfl, ?_⟩
                   have n0_ := am_ (Kd.R_elder' q161_ (Kd.R_base ho0) hb)
                   have n1_ := am_ (Kd.R_elder' q162_ (Kd.R_base ho0) hb)
                   have n2_ := am_ (Kd.R_elder' q146_ (Kd.R_base ho0) hb)
                   have n3_ := am_ (Kd.R_elder' q147_ (Kd.R_base ho0) hb)
                   have n4_ := am_ (Kd.R_elder' q148_ (Kd.R_base ho0) hb)
                   have n5_ := am_ (Kd.R_lower (Kd.R_new' (Kd.R_new' (Kd.R_new' (Kd.R_new' (Kd.R_new' ho0 (Kd.R_lt q161_)) (Kd.R_lt q162_)) (Kd.R_lt q146_)) (Kd.R_lt q147_)) (Kd.R_lt q148_)) (below_size q9_))
                   have n6_ := am_ (blk_below (g := gb318) (o := .cells #[.int .i64 t307, .int .i64 t308, .int .i64 t309, .slice Ao18 t310.length co18] 26 (0, 0)) q139_ hb)
                   have n7_ := am_ (blk_below (g := gb326) (o := .cells #[.int .i64 t319, .int .i64 t320, .int .i64 t321, .slice Ao24 t322.length co24] 26 (0, 0)) q140_ hb)
                   have n8_ := am_ (blk_below (g := gb330) (o := .cells #[.int .i64 x331000_1, .int .i64 x331001_1, .int .i64 x331002_1, .slice Ao91 x331003_1.length co91] 26 (0, 0)) q141_ hb)
                   have n9_ := am_ (blk_below (g := gb340) (o := .cells #[.int .i64 t335, .int .i64 t336, .int .i64 t337, .int .i64 t338] 32 (0, 0)) q142_ hb)
                   have n10_ := am_ (blk_below (g := gb357) (o := .cells #[.int .i64 0, .int .i64 0, .int .i64 0, .slice none 0 0] 26 (0, 0)) q143_ hb)
                   have n11_ := am_ (below_step q9_ hb)
                   clear HO_15
                   clear HO_16
                   clear HO_319003
                   clear HO_327003
                   clear HO_331003
                   clear BK318
                   clear BK326
                   clear BK330
                   clear BK340
                   clear BK357
                   clear HB
                   have HO_15 := n0_
                   have HO_16 := n1_
                   have HO_319003 := n2_
                   have HO_327003 := n3_
                   have HO_331003 := n4_
                   have HO355 := n5_
                   have BK318 := n6_
                   have BK326 := n7_
                   have BK330 := n8_
                   have BK340 := n9_
                   have BK357 := n10_
                   have HB := n11_
                   clear n0_ n1_ n2_ n3_ n4_ n5_ n6_ n7_ n8_ n9_ n10_ n11_
                   (try clear hb)
                   (try clear hb2)
                   (try clear hk)
                   (try clear hi)
                   (try clear ho0)
                   refine hK.out _ _ ⟨(blk_cell BK318.out 0).trans rfl, (blk_cell BK318.out 1).trans rfl, (blk_cell BK318.out 2).trans rfl, (blk_cell BK318.out 3).trans rfl, (blk_cell BK340.out 0).trans rfl, (blk_cell BK340.out 1).trans rfl, (blk_cell BK340.out 2).trans rfl, (blk_cell BK340.out 3).trans rfl, (blk_cell BK330.out 0).trans rfl, (blk_cell BK330.out 1).trans rfl, (blk_cell BK330.out 2).trans rfl, (blk_cell BK330.out 3).trans rfl⟩ (fun hHeld => ?_)
                   clear hK K
                   refine norm_ (a' := ?_) ?_ ?_
                   rotate_left
                   ·show Act.put _ (some 130) _ = _
                    simp only [Act.put, List.setIfInBounds_toArray, List.set_cons_zero, List.set_cons_succ, i64_w, i32_w]
                    rfl
                   refine pure_ (i := 13) (N := some 117) (v := ?_) (a' := ?_) #[true, true, true, true, true, true, true, true, true, true, true, true, true, true, false, false, true, false, false] rfl rfl (any_of HT_.out (by kernel_rfl)) (fun _ _ _ h => h) (Or.inl ⟨by rfl, ?_⟩) ?_ ?_
                   rotate_left
                   ·intro w'
                    go_simp
                    with_reducible rfl
                   rotate_left
                   ·simp only [Act.put, List.setIfInBounds_toArray, List.set_cons_zero, List.set_cons_succ, i64_w, i32_w]
                    rfl
                   refine pure_ (i := 14) (N := some 131) (v := ?_) (a' := ?_) #[true, true, true, true, true, true, true, true, true, true, true, true, true, true, true, false, true, false, false] rfl rfl (any_of HT_.out (by kernel_rfl)) (fun _ _ _ h => h) (Or.inl ⟨by rfl, ?_⟩) ?_ ?_
                   rotate_left
                   ·intro w'
                    go_simp
                    with_reducible rfl
                   rotate_left
                   ·simp only [Act.put, List.setIfInBounds_toArray, List.set_cons_zero, List.set_cons_succ, i64_w, i32_w]
                    rfl
                   refine pure_ (i := 15) (N := some 132) (v := ?_) (a' := ?_) #[true, true, true, true, true, true, true, true, true, true, true, true, true, true, true, true, true, false, false] rfl rfl (any_of HT_.out (by kernel_rfl)) (fun _ _ _ h => h) (Or.inl ⟨by rfl, ?_⟩) ?_ ?_
                   rotate_left
                   ·intro w'
                    go_simp
                    with_reducible rfl
                   rotate_left
                   ·simp only [Act.put, List.setIfInBounds_toArray, List.set_cons_zero, List.set_cons_succ, i64_w, i32_w]
                    rfl
                   exact norm_ q163_ (hCont (v354, gb357) _ ⟨hHeld, q78_, q79_, q80_, q74_, q75_, q76_, q139_, q140_, q141_, q142_, q143_, GW357.out, GE357.out, NB318_357.out, NB357_318.out, NB326_357.out, NB357_326.out, NB330_357.out, NB357_330.out, NB340_357.out, NB357_340.out, q9_⟩)
                 ·skip
                  refine box_step ?hg (N := 19) ?hd (cs := #[.int .i64 0, .int .i64 0, .int .i64 0, .slice none 0 0]) (t := 26) ?hr ?_; (case hd => rfl); (case hg => rfl); (case hr => first | (go_simp; done) | (go_simp; rfl))
                  intro gb357 hg w95 hbox hb
                  have n0_ := am_ (Kd.R_below q161_ hb)
                  have n1_ := am_ (Kd.R_below q162_ hb)
                  have n2_ := am_ (Kd.R_below q146_ hb)
                  have n3_ := am_ (Kd.R_below q147_ hb)
                  have n4_ := am_ (Kd.R_below q148_ hb)
                  have n5_ := am_ (blk_below (g := gb318) (o := .cells #[.int .i64 t307, .int .i64 t308, .int .i64 t309, .slice Ao18 t310.length co18] 26 (0, 0)) q139_ hb)
                  have n6_ := am_ (blk_below (g := gb326) (o := .cells #[.int .i64 t319, .int .i64 t320, .int .i64 t321, .slice Ao24 t322.length co24] 26 (0, 0)) q140_ hb)
                  have n7_ := am_ (blk_below (g := gb330) (o := .cells #[.int .i64 x331000_1, .int .i64 x331001_1, .int .i64 x331002_1, .slice Ao91 x331003_1.length co91] 26 (0, 0)) q141_ hb)
                  have n8_ := am_ (blk_below (g := gb340) (o := .cells #[.int .i64 t335, .int .i64 t336, .int .i64 t337, .int .i64 t338] 32 (0, 0)) q142_ hb)
                  have n9_ := am_ (below_step q37_ hb)
                  have n10_ := am_ (hbox)
                  have n11_ := am_ ((q7_ : w.heap.size ≤ gb357))
                  have n12_ := am_ ((q7_ : w.heap.size ≤ gb357))
                  have n13_ := am_ ((q14_ : gb318 ≠ gb357))
                  have n14_ := am_ ((q15_ : gb357 ≠ gb318))
                  have n15_ := am_ ((q16_ : gb326 ≠ gb357))
                  have n16_ := am_ ((q17_ : gb357 ≠ gb326))
                  have n17_ := am_ ((q5_ : gb330 ≠ gb357))
                  have n18_ := am_ ((q6_ : gb357 ≠ gb330))
                  have n19_ := am_ ((q32_ : gb340 ≠ gb357))
                  have n20_ := am_ ((q33_ : gb357 ≠ gb340))
                  clear HO_15
                  clear HO_16
                  clear HO_319003
                  clear HO_327003
                  clear HO_331003
                  clear BK318
                  clear BK326
                  clear BK330
                  clear BK340
                  clear HB
                  have HO_15 := n0_
                  have HO_16 := n1_
                  have HO_319003 := n2_
                  have HO_327003 := n3_
                  have HO_331003 := n4_
                  have BK318 := n5_
                  have BK326 := n6_
                  have BK330 := n7_
                  have BK340 := n8_
                  have HB := n9_
                  have BK357 := n10_
                  have GW357 := n11_
                  have GE357 := n12_
                  have NB318_357 := n13_
                  have NB357_318 := n14_
                  have NB326_357 := n15_
                  have NB357_326 := n16_
                  have NB330_357 := n17_
                  have NB357_330 := n18_
                  have NB340_357 := n19_
                  have NB357_340 := n20_
                  clear n0_ n1_ n2_ n3_ n4_ n5_ n6_ n7_ n8_ n9_ n10_ n11_ n12_ n13_ n14_ n15_ n16_ n17_ n18_ n19_ n20_
                  clear hb hbox hg
                  refine hK.out _ _ ⟨(blk_cell BK318.out 0).trans rfl, (blk_cell BK318.out 1).trans rfl, (blk_cell BK318.out 2).trans rfl, (blk_cell BK318.out 3).trans rfl, (blk_cell BK340.out 0).trans rfl, (blk_cell BK340.out 1).trans rfl, (blk_cell BK340.out 2).trans rfl, (blk_cell BK340.out 3).trans rfl, (blk_cell BK330.out 0).trans rfl, (blk_cell BK330.out 1).trans rfl, (blk_cell BK330.out 2).trans rfl, (blk_cell BK330.out 3).trans rfl⟩ (fun hHeld => ?_)
                  clear hK K
                  refine norm_ (a' := ?_) ?_ ?_
                  rotate_left
                  ·show Act.put _ (some 19) _ = _
                   simp only [Act.put, List.setIfInBounds_toArray, List.set_cons_zero, List.set_cons_succ, i64_w, i32_w]
                   rfl
                  refine one_ (i := 11) (N := some 129) #[true, true, true, true, true, true, true, true, true, true, true, true, false, false, false, false, true, false, false] rfl rfl (one_of HT_.out (by kernel_rfl)) (by decide) (fun K hK => ?_)
                  refine goes_ Try.func26 (by kernel_rfl) rfl #[.agg #[.int .i64 x331000_1, .int .i64 x331001_1, .int .i64 x331002_1, .slice Ao91 x331003_1.length co91], .int .i64 (wrap64 (t335 - 1)), .int .i64 (wrap64 (t336 - 1))] (by rfl) rfl rfl q107_ ?_
                  with_reducible refine (tilefarmlaw13_at.calls x331000_1 x331001_1 x331002_1 _ _ x331003_1 (wrap64 (t335 - 1)) (wrap64 (t336 - 1)) t349 _ ?side1 ?side2 A82.out).mono ?_
                  (case side1 => repeat (first | exact (Kd.R_reads' HO_331003.out).2.2 | (with_reducible refine Kd.C_alloc ?_ _) | (with_reducible refine Kd.C_drewN ?_ _) | (with_reducible refine Kd.C_drew ?_)))
                  (case side2 => exact (Kd.R_reads' HO_331003.out).2.1)
                  rintro e w96 ⟨rfl, hb⟩
                  refine ⟨_, rfl, ?_⟩
                  have n0_ := am_ (Kd.R_below q161_ hb)
                  have n1_ := am_ (Kd.R_below q162_ hb)
                  have n2_ := am_ (Kd.R_below q146_ hb)
                  have n3_ := am_ (Kd.R_below q147_ hb)
                  have n4_ := am_ (Kd.R_below q148_ hb)
                  have n5_ := am_ (blk_below (g := gb318) (o := .cells #[.int .i64 t307, .int .i64 t308, .int .i64 t309, .slice Ao18 t310.length co18] 26 (0, 0)) q139_ hb)
                  have n6_ := am_ (blk_below (g := gb326) (o := .cells #[.int .i64 t319, .int .i64 t320, .int .i64 t321, .slice Ao24 t322.length co24] 26 (0, 0)) q140_ hb)
                  have n7_ := am_ (blk_below (g := gb330) (o := .cells #[.int .i64 x331000_1, .int .i64 x331001_1, .int .i64 x331002_1, .slice Ao91 x331003_1.length co91] 26 (0, 0)) q141_ hb)
                  have n8_ := am_ (blk_below (g := gb340) (o := .cells #[.int .i64 t335, .int .i64 t336, .int .i64 t337, .int .i64 t338] 32 (0, 0)) q142_ hb)
                  have n9_ := am_ (blk_below (g := gb357) (o := .cells #[.int .i64 0, .int .i64 0, .int .i64 0, .slice none 0 0] 26 (0, 0)) q143_ hb)
                  have n10_ := am_ (below_step q9_ hb)
                  clear HO_15
                  clear HO_16
                  clear HO_319003
                  clear HO_327003
                  clear HO_331003
                  clear BK318
                  clear BK326
                  clear BK330
                  clear BK340
                  clear BK357
                  clear HB
                  have HO_15 := n0_
                  have HO_16 := n1_
                  have HO_319003 := n2_
                  have HO_327003 := n3_
                  have HO_331003 := n4_
                  have BK318 := n5_
                  have BK326 := n6_
                  have BK330 := n7_
                  have BK340 := n8_
                  have BK357 := n9_
                  have HB := n10_
                  clear n0_ n1_ n2_ n3_ n4_ n5_ n6_ n7_ n8_ n9_ n10_
                  (try clear hb)
                  (try clear hb2)
                  (try clear hk)
                  (try clear hi)
                  refine hK.out _ _ ⟨(blk_cell BK318.out 0).trans rfl, (blk_cell BK318.out 1).trans rfl, (blk_cell BK318.out 2).trans rfl, (blk_cell BK318.out 3).trans rfl, (blk_cell BK340.out 0).trans rfl, (blk_cell BK340.out 1).trans rfl, (blk_cell BK340.out 2).trans rfl, (blk_cell BK340.out 3).trans rfl, (blk_cell BK330.out 0).trans rfl, (blk_cell BK330.out 1).trans rfl, (blk_cell BK330.out 2).trans rfl, (blk_cell BK330.out 3).trans rfl⟩ (fun hHeld => ?_)
                  clear hK K
                  refine norm_ (a' := ?_) ?_ ?_
                  rotate_left
                  ·show Act.put _ (some 129) _ = _
                   simp only [Act.put, List.setIfInBounds_toArray, List.set_cons_zero, List.set_cons_succ, i64_w, i32_w]
                   rfl
                  refine one_ (i := 12) (N := some 130) #[true, true, true, true, true, true, true, true, true, true, true, true, true, false, false, false, true, false, false] rfl rfl (one_of HT_.out (by kernel_rfl)) (by decide) (fun K hK => ?_)
                  refine goes_ Try.func22 (by kernel_rfl) rfl #[.agg #[.int .i64 t307, .int .i64 t308, .int .i64 t309, .slice Ao18 t310.length co18], .agg #[.int .i64 t335, .int .i64 t336, .int .i64 t337, .int .i64 t338], .slice Ao92 x15_3.length co92, .slice Ao93 x16_4.length co93, .int .i64 t349] (by rfl) rfl rfl q107_ ?_
                  with_reducible refine (integral_Tile.calls k4 t307 t308 t309 _ _ t310 t335 t336 t337 t338 _ _ x15_3 _ _ x16_4 t349 t350 t351 t352 t353 t356 _ ?side1 ?side2 ?side3 ?side4 ?side5 ?side6 A83.out).mono ?_
                  (case side1 => repeat (first | exact (Kd.R_reads' HO_319003.out).2.2 | (with_reducible refine Kd.C_alloc ?_ _) | (with_reducible refine Kd.C_drewN ?_ _) | (with_reducible refine Kd.C_drew ?_)))
                  (case side2 => exact (Kd.R_reads' HO_319003.out).2.1)
                  (case side3 => repeat (first | exact (Kd.R_reads' HO_15.out).2.2 | (with_reducible refine Kd.C_alloc ?_ _) | (with_reducible refine Kd.C_drewN ?_ _) | (with_reducible refine Kd.C_drew ?_)))
                  (case side4 => exact (Kd.R_reads' HO_15.out).2.1)
                  (case side5 => repeat (first | exact (Kd.R_reads' HO_16.out).2.2 | (with_reducible refine Kd.C_alloc ?_ _) | (with_reducible refine Kd.C_drewN ?_ _) | (with_reducible refine Kd.C_drew ?_)))
                  (case side6 => exact (Kd.R_reads' HO_16.out).2.1)
                  rintro e w97 ⟨v354, rfl, ho0, hb⟩
                  refine ⟨_, rfl, ?_⟩
                  have n0_ := am_ (Kd.R_elder' q161_ (Kd.R_base ho0) hb)
                  have n1_ := am_ (Kd.R_elder' q162_ (Kd.R_base ho0) hb)
                  have n2_ := am_ (Kd.R_elder' q146_ (Kd.R_base ho0) hb)
                  have n3_ := am_ (Kd.R_elder' q147_ (Kd.R_base ho0) hb)
                  have n4_ := am_ (Kd.R_elder' q148_ (Kd.R_base ho0) hb)
                  have n5_ := am_ (Kd.R_lower (Kd.R_new' (Kd.R_new' (Kd.R_new' (Kd.R_new' (Kd.R_new' ho0 (Kd.R_lt q161_)) (Kd.R_lt q162_)) (Kd.R_lt q146_)) (Kd.R_lt q147_)) (Kd.R_lt q148_)) (below_size q9_))
                  have n6_ := am_ (blk_below (g := gb318) (o := .cells #[.int .i64 t307, .int .i64 t308, .int .i64 t309, .slice Ao18 t310.length co18] 26 (0, 0)) q139_ hb)
                  have n7_ := am_ (blk_below (g := gb326) (o := .cells #[.int .i64 t319, .int .i64 t320, .int .i64 t321, .slice Ao24 t322.length co24] 26 (0, 0)) q140_ hb)
                  have n8_ := am_ (blk_below (g := gb330) (o := .cells #[.int .i64 x331000_1, .int .i64 x331001_1, .int .i64 x331002_1, .slice Ao91 x331003_1.length co91] 26 (0, 0)) q141_ hb)
                  have n9_ := am_ (blk_below (g := gb340) (o := .cells #[.int .i64 t335, .int .i64 t336, .int .i64 t337, .int .i64 t338] 32 (0, 0)) q142_ hb)
                  have n10_ := am_ (blk_below (g := gb357) (o := .cells #[.int .i64 0, .int .i64 0, .int .i64 0, .slice none 0 0] 26 (0, 0)) q143_ hb)
                  have n11_ := am_ (below_step q9_ hb)
                  clear HO_15
                  clear HO_16
                  clear HO_319003
                  clear HO_327003
                  clear HO_331003
                  clear BK318
                  clear BK326
                  clear BK330
                  clear BK340
                  clear BK357
                  clear HB
                  have HO_15 := n0_
                  have HO_16 := n1_
                  have HO_319003 := n2_
                  have HO_327003 := n3_
                  have HO_331003 := n4_
                  have HO355 := n5_
                  have BK318 := n6_
                  have BK326 := n7_
                  have BK330 := n8_
                  have BK340 := n9_
                  have BK357 := n10_
                  have HB := n11_
                  clear n0_ n1_ n2_ n3_ n4_ n5_ n6_ n7_ n8_ n9_ n10_ n11_
                  (try clear hb)
                  (try clear hb2)
                  (try clear hk)
                  (try clear hi)
                  (try clear ho0)
                  refine hK.out _ _ ⟨(blk_cell BK318.out 0).trans rfl, (blk_cell BK318.out 1).trans rfl, (blk_cell BK318.out 2).trans rfl, (blk_cell BK318.out 3).trans rfl, (blk_cell BK340.out 0).trans rfl, (blk_cell BK340.out 1).trans rfl, (blk_cell BK340.out 2).trans rfl, (blk_cell BK340.out 3).trans rfl, (blk_cell BK330.out 0).trans rfl, (blk_cell BK330.out 1).trans rfl, (blk_cell BK330.out 2).trans rfl, (blk_cell BK330.out 3).trans rfl⟩ (fun hHeld => ?_)
                  clear hK K
                  refine norm_ (a' := ?_) ?_ ?_
                  rotate_left
                  ·show Act.put _ (some 130) _ = _
                   simp only [Act.put, List.setIfInBounds_toArray, List.set_cons_zero, List.set_cons_succ, i64_w, i32_w]
                   rfl
                  refine pure_ (i := 13) (N := some 117) (v := ?_) (a' := ?_) #[true, true, true, true, true, true, true, true, true, true, true, true, true, true, false, false, true, false, false] rfl rfl (any_of HT_.out (by kernel_rfl)) (fun _ _ _ h => h) (Or.inl ⟨by rfl, ?_⟩) ?_ ?_
                  rotate_left
                  ·intro w'
                   go_simp
                   with_reducible rfl
                  rotate_left
                  ·simp only [Act.put, List.setIfInBounds_toArray, List.set_cons_zero, List.set_cons_succ, i64_w, i32_w]
                   rfl
                  refine pure_ (i := 14) (N := some 131) (v := ?_) (a' := ?_) #[true, true, true, true, true, true, true, true, true, true, true, true, true, true, true, false, true, false, false] rfl rfl (any_of HT_.out (by kernel_rfl)) (fun _ _ _ h => h) (Or.inl ⟨by rfl, ?_⟩) ?_ ?_
                  rotate_left
                  ·intro w'
                   go_simp
                   with_reducible rfl
                  rotate_left
                  ·simp only [Act.put, List.setIfInBounds_toArray, List.set_cons_zero, List.set_cons_succ, i64_w, i32_w]
                   rfl
                  refine pure_ (i := 15) (N := some 132) (v := ?_) (a' := ?_) #[true, true, true, true, true, true, true, true, true, true, true, true, true, true, true, true, true, false, false] rfl rfl (any_of HT_.out (by kernel_rfl)) (fun _ _ _ h => h) (Or.inl ⟨by rfl, ?_⟩) ?_ ?_
                  rotate_left
                  ·intro w'
                   go_simp
                   with_reducible rfl
                  rotate_left
                  ·simp only [Act.put, List.setIfInBounds_toArray, List.set_cons_zero, List.set_cons_succ, i64_w, i32_w]
                   rfl
                  exact norm_ q163_ (hCont (v354, gb357) _ ⟨hHeld, q78_, q79_, q80_, q74_, q75_, q76_, q139_, q140_, q141_, q142_, q143_, GW357.out, GE357.out, NB318_357.out, NB357_318.out, NB326_357.out, NB357_326.out, NB330_357.out, NB357_330.out, NB340_357.out, NB357_340.out, q9_⟩)
                rintro ⟨v354, gb357⟩ w98 ⟨hS_, h0_, h1_, h2_, h3_, h4_, h5_, h6_, h7_, h8_, h9_, h10_, h11_, h12_, h13_, h14_, h15_, h16_, h17_, h18_, h19_, h20_, h21_⟩
                have n0_ : Aside0 (Kd.R (Kd.int .i64) 3 w98 w.heap.size (fun k_ => some k_ ≠ (.slice Ao92 x15_3.length co92 : Value).ownBlock ∧ some k_ ≠ (.slice Ao93 x16_4.length co93 : Value).ownBlock ∧ some k_ ≠ (.slice Ao18 t310.length co18 : Value).ownBlock ∧ some k_ ≠ (.slice Ao24 t322.length co24 : Value).ownBlock ∧ some k_ ≠ (.slice Ao91 x331003_1.length co91 : Value).ownBlock) v354 t353) := ⟨h0_⟩
                have n1_ : Aside0 (Kd.R (Kd.int .i64) 3 w98 w.heap.size (fun k_ => some k_ ≠ (v354 : Value).ownBlock ∧ some k_ ≠ (.slice Ao93 x16_4.length co93 : Value).ownBlock ∧ some k_ ≠ (.slice Ao18 t310.length co18 : Value).ownBlock ∧ some k_ ≠ (.slice Ao24 t322.length co24 : Value).ownBlock ∧ some k_ ≠ (.slice Ao91 x331003_1.length co91 : Value).ownBlock) (.slice Ao92 x15_3.length co92) x15_3) := ⟨h1_⟩
                have n2_ : Aside0 (Kd.R (Kd.int .i64) 3 w98 w.heap.size (fun k_ => some k_ ≠ (v354 : Value).ownBlock ∧ some k_ ≠ (.slice Ao92 x15_3.length co92 : Value).ownBlock ∧ some k_ ≠ (.slice Ao18 t310.length co18 : Value).ownBlock ∧ some k_ ≠ (.slice Ao24 t322.length co24 : Value).ownBlock ∧ some k_ ≠ (.slice Ao91 x331003_1.length co91 : Value).ownBlock) (.slice Ao93 x16_4.length co93) x16_4) := ⟨h2_⟩
                have n3_ : Aside0 (Kd.R (Kd.int .i64) 3 w98 w.heap.size (fun k_ => some k_ ≠ (v354 : Value).ownBlock ∧ some k_ ≠ (.slice Ao92 x15_3.length co92 : Value).ownBlock ∧ some k_ ≠ (.slice Ao93 x16_4.length co93 : Value).ownBlock ∧ some k_ ≠ (.slice Ao24 t322.length co24 : Value).ownBlock ∧ some k_ ≠ (.slice Ao91 x331003_1.length co91 : Value).ownBlock) (.slice Ao18 t310.length co18) t310) := ⟨h3_⟩
                have n4_ : Aside0 (Kd.R (Kd.int .i64) 3 w98 w.heap.size (fun k_ => some k_ ≠ (v354 : Value).ownBlock ∧ some k_ ≠ (.slice Ao92 x15_3.length co92 : Value).ownBlock ∧ some k_ ≠ (.slice Ao93 x16_4.length co93 : Value).ownBlock ∧ some k_ ≠ (.slice Ao18 t310.length co18 : Value).ownBlock ∧ some k_ ≠ (.slice Ao91 x331003_1.length co91 : Value).ownBlock) (.slice Ao24 t322.length co24) t322) := ⟨h4_⟩
                have n5_ : Aside0 (Kd.R (Kd.int .i64) 3 w98 w.heap.size (fun k_ => some k_ ≠ (v354 : Value).ownBlock ∧ some k_ ≠ (.slice Ao92 x15_3.length co92 : Value).ownBlock ∧ some k_ ≠ (.slice Ao93 x16_4.length co93 : Value).ownBlock ∧ some k_ ≠ (.slice Ao18 t310.length co18 : Value).ownBlock ∧ some k_ ≠ (.slice Ao24 t322.length co24 : Value).ownBlock) (.slice Ao91 x331003_1.length co91) x331003_1) := ⟨h5_⟩
                have n6_ : Aside0 (w98.heap[gb318]? = some (.cells #[.int .i64 t307, .int .i64 t308, .int .i64 t309, .slice Ao18 t310.length co18] 26 (0, 0))) := ⟨h6_⟩
                have n7_ : Aside0 (w98.heap[gb326]? = some (.cells #[.int .i64 t319, .int .i64 t320, .int .i64 t321, .slice Ao24 t322.length co24] 26 (0, 0))) := ⟨h7_⟩
                have n8_ : Aside0 (w98.heap[gb330]? = some (.cells #[.int .i64 x331000_1, .int .i64 x331001_1, .int .i64 x331002_1, .slice Ao91 x331003_1.length co91] 26 (0, 0))) := ⟨h8_⟩
                have n9_ : Aside0 (w98.heap[gb340]? = some (.cells #[.int .i64 t335, .int .i64 t336, .int .i64 t337, .int .i64 t338] 32 (0, 0))) := ⟨h9_⟩
                have n10_ : Aside0 (w98.heap[gb357]? = some (.cells #[.int .i64 0, .int .i64 0, .int .i64 0, .slice none 0 0] 26 (0, 0))) := ⟨h10_⟩
                have n11_ : Aside0 (w.heap.size ≤ gb357) := ⟨h11_⟩
                have n12_ : Aside0 (w.heap.size ≤ gb357) := ⟨h12_⟩
                have n13_ : Aside0 (gb318 ≠ gb357) := ⟨h13_⟩
                have n14_ : Aside0 (gb357 ≠ gb318) := ⟨h14_⟩
                have n15_ : Aside0 (gb326 ≠ gb357) := ⟨h15_⟩
                have n16_ : Aside0 (gb357 ≠ gb326) := ⟨h16_⟩
                have n17_ : Aside0 (gb330 ≠ gb357) := ⟨h17_⟩
                have n18_ : Aside0 (gb357 ≠ gb330) := ⟨h18_⟩
                have n19_ : Aside0 (gb340 ≠ gb357) := ⟨h19_⟩
                have n20_ : Aside0 (gb357 ≠ gb340) := ⟨h20_⟩
                have n21_ : Aside0 (Below w.heap.size w w98) := ⟨h21_⟩
                clear HO_15
                clear HO_16
                clear HO_319003
                clear HO_327003
                clear HO_331003
                clear BK318
                clear BK326
                clear BK330
                clear BK340
                clear HB
                clear h0_ h1_ h2_ h3_ h4_ h5_ h6_ h7_ h8_ h9_ h10_ h11_ h12_ h13_ h14_ h15_ h16_ h17_ h18_ h19_ h20_ h21_
                have HO355 := n0_
                have HO_15 := n1_
                have HO_16 := n2_
                have HO_319003 := n3_
                have HO_327003 := n4_
                have HO_331003 := n5_
                have BK318 := n6_
                have BK326 := n7_
                have BK330 := n8_
                have BK340 := n9_
                have BK357 := n10_
                have GW357 := n11_
                have GE357 := n12_
                have NB318_357 := n13_
                have NB357_318 := n14_
                have NB326_357 := n15_
                have NB357_326 := n16_
                have NB330_357 := n17_
                have NB357_330 := n18_
                have NB340_357 := n19_
                have NB357_340 := n20_
                have HB := n21_
                clear n0_ n1_ n2_ n3_ n4_ n5_ n6_ n7_ n8_ n9_ n10_ n11_ n12_ n13_ n14_ n15_ n16_ n17_ n18_ n19_ n20_ n21_
                have hHeld : w98.cell? ⟨gb318, 0, none⟩ = some (.int .i64 t307) ∧ w98.cell? ⟨gb318, 1, none⟩ = some (.int .i64 t308) ∧ w98.cell? ⟨gb318, 2, none⟩ = some (.int .i64 t309) ∧ w98.cell? ⟨gb318, 3, none⟩ = some (.slice Ao18 t310.length co18) ∧ w98.cell? ⟨gb340, 0, none⟩ = some (.int .i64 t335) ∧ w98.cell? ⟨gb340, 1, none⟩ = some (.int .i64 t336) ∧ w98.cell? ⟨gb340, 2, none⟩ = some (.int .i64 t337) ∧ w98.cell? ⟨gb340, 3, none⟩ = some (.int .i64 t338) ∧ w98.cell? ⟨gb330, 0, none⟩ = some (.int .i64 x331000_1) ∧ w98.cell? ⟨gb330, 1, none⟩ = some (.int .i64 x331001_1) ∧ w98.cell? ⟨gb330, 2, none⟩ = some (.int .i64 x331002_1) ∧ w98.cell? ⟨gb330, 3, none⟩ = some (.slice Ao91 x331003_1.length co91) := hS_
                obtain ⟨Ao102, co102, eo102⟩ := Kd.R_slice HO355.out
                (first | subst eo102 | (injection eo102 with f1_ f2_ f3_; have f4_ := f1_.symm; have f5_ := f3_.symm; clear f1_ f2_ f3_; subst f4_; subst f5_))
                refine norm_ (a' := ?_) ?_ ?_
                rotate_left
                ·simp only [putAll, Act.put, List.setIfInBounds_toArray, List.set_cons_zero, List.set_cons_succ]
                 rfl
                refine one_ (i := 17) (N := none) #[true, true, true, true, true, true, true, true, true, true, true, true, true, true, true, true, true, true, false] rfl rfl (one_of HT_.out (by kernel_rfl)) (by decide) (fun K hK => ?_)
                have hs99 : w98.cell? ⟨gb357, 0, none⟩ = some (.int .i64 0) := (blk_cell BK357.out 0).trans rfl
                have hfs99 := blk_frozen BK357.out 0
                have hns99_0 := NB318_357.out
                have hns99_1 := NB326_357.out
                have hns99_2 := NB330_357.out
                have hns99_3 := NB340_357.out
                have hms99_0 := NB357_318.out
                have hms99_1 := NB357_326.out
                have hms99_2 := NB357_330.out
                have hms99_3 := NB357_340.out
                have hs100 : w98.cell? ⟨gb357, 1, none⟩ = some (.int .i64 0) := (blk_cell BK357.out 1).trans rfl
                have hfs100 := blk_frozen BK357.out 1
                have hns100_0 := NB318_357.out
                have hns100_1 := NB326_357.out
                have hns100_2 := NB330_357.out
                have hns100_3 := NB340_357.out
                have hms100_0 := NB357_318.out
                have hms100_1 := NB357_326.out
                have hms100_2 := NB357_330.out
                have hms100_3 := NB357_340.out
                have hs101 : w98.cell? ⟨gb357, 2, none⟩ = some (.int .i64 0) := (blk_cell BK357.out 2).trans rfl
                have hfs101 := blk_frozen BK357.out 2
                have hns101_0 := NB318_357.out
                have hns101_1 := NB326_357.out
                have hns101_2 := NB330_357.out
                have hns101_3 := NB340_357.out
                have hms101_0 := NB357_318.out
                have hms101_1 := NB357_326.out
                have hms101_2 := NB357_330.out
                have hms101_3 := NB357_340.out
                have hs103 : w98.cell? ⟨gb357, 3, none⟩ = some (.slice none 0 0) := (blk_cell BK357.out 3).trans rfl
                have hfs103 := blk_frozen BK357.out 3
                have hns103_0 := NB318_357.out
                have hns103_1 := NB326_357.out
                have hns103_2 := NB330_357.out
                have hns103_3 := NB340_357.out
                have hms103_0 := NB357_318.out
                have hms103_1 := NB357_326.out
                have hms103_2 := NB357_330.out
                have hms103_3 := NB357_340.out
                refine skip_ (w1 := ?_) (by rfl) rfl ?_ ?_
                rotate_left
                ·go_simp
                 rfl
                refine hK.out _ _ ⟨((cell_far (p := ⟨gb357, _, none⟩) NB318_357.out _).trans (((cell_far (p := ⟨gb357, _, none⟩) NB318_357.out _).trans (((cell_far (p := ⟨gb357, _, none⟩) NB318_357.out _).trans (((cell_far (p := ⟨gb357, _, none⟩) NB318_357.out _).trans (hHeld.1)))))))), ((cell_far (p := ⟨gb357, _, none⟩) NB318_357.out _).trans (((cell_far (p := ⟨gb357, _, none⟩) NB318_357.out _).trans (((cell_far (p := ⟨gb357, _, none⟩) NB318_357.out _).trans (((cell_far (p := ⟨gb357, _, none⟩) NB318_357.out _).trans (hHeld.2.1)))))))), ((cell_far (p := ⟨gb357, _, none⟩) NB318_357.out _).trans (((cell_far (p := ⟨gb357, _, none⟩) NB318_357.out _).trans (((cell_far (p := ⟨gb357, _, none⟩) NB318_357.out _).trans (((cell_far (p := ⟨gb357, _, none⟩) NB318_357.out _).trans (hHeld.2.2.1)))))))), ((cell_far (p := ⟨gb357, _, none⟩) NB318_357.out _).trans (((cell_far (p := ⟨gb357, _, none⟩) NB318_357.out _).trans (((cell_far (p := ⟨gb357, _, none⟩) NB318_357.out _).trans (((cell_far (p := ⟨gb357, _, none⟩) NB318_357.out _).trans (hHeld.2.2.2.1)))))))), ((cell_far (p := ⟨gb357, _, none⟩) NB340_357.out _).trans (((cell_far (p := ⟨gb357, _, none⟩) NB340_357.out _).trans (((cell_far (p := ⟨gb357, _, none⟩) NB340_357.out _).trans (((cell_far (p := ⟨gb357, _, none⟩) NB340_357.out _).trans (hHeld.2.2.2.2.1)))))))), ((cell_far (p := ⟨gb357, _, none⟩) NB340_357.out _).trans (((cell_far (p := ⟨gb357, _, none⟩) NB340_357.out _).trans (((cell_far (p := ⟨gb357, _, none⟩) NB340_357.out _).trans (((cell_far (p := ⟨gb357, _, none⟩) NB340_357.out _).trans (hHeld.2.2.2.2.2.1)))))))), ((cell_far (p := ⟨gb357, _, none⟩) NB340_357.out _).trans (((cell_far (p := ⟨gb357, _, none⟩) NB340_357.out _).trans (((cell_far (p := ⟨gb357, _, none⟩) NB340_357.out _).trans (((cell_far (p := ⟨gb357, _, none⟩) NB340_357.out _).trans (hHeld.2.2.2.2.2.2.1)))))))), ((cell_far (p := ⟨gb357, _, none⟩) NB340_357.out _).trans (((cell_far (p := ⟨gb357, _, none⟩) NB340_357.out _).trans (((cell_far (p := ⟨gb357, _, none⟩) NB340_357.out _).trans (((cell_far (p := ⟨gb357, _, none⟩) NB340_357.out _).trans (hHeld.2.2.2.2.2.2.2.1)))))))), ((cell_far (p := ⟨gb357, _, none⟩) NB330_357.out _).trans (((cell_far (p := ⟨gb357, _, none⟩) NB330_357.out _).trans (((cell_far (p := ⟨gb357, _, none⟩) NB330_357.out _).trans (((cell_far (p := ⟨gb357, _, none⟩) NB330_357.out _).trans (hHeld.2.2.2.2.2.2.2.2.1)))))))), ((cell_far (p := ⟨gb357, _, none⟩) NB330_357.out _).trans (((cell_far (p := ⟨gb357, _, none⟩) NB330_357.out _).trans (((cell_far (p := ⟨gb357, _, none⟩) NB330_357.out _).trans (((cell_far (p := ⟨gb357, _, none⟩) NB330_357.out _).trans (hHeld.2.2.2.2.2.2.2.2.2.1)))))))), ((cell_far (p := ⟨gb357, _, none⟩) NB330_357.out _).trans (((cell_far (p := ⟨gb357, _, none⟩) NB330_357.out _).trans (((cell_far (p := ⟨gb357, _, none⟩) NB330_357.out _).trans (((cell_far (p := ⟨gb357, _, none⟩) NB330_357.out _).trans (hHeld.2.2.2.2.2.2.2.2.2.2.1)))))))), ((cell_far (p := ⟨gb357, _, none⟩) NB330_357.out _).trans (((cell_far (p := ⟨gb357, _, none⟩) NB330_357.out _).trans (((cell_far (p := ⟨gb357, _, none⟩) NB330_357.out _).trans (((cell_far (p := ⟨gb357, _, none⟩) NB330_357.out _).trans (hHeld.2.2.2.2.2.2.2.2.2.2.2))))))))⟩ (fun hHeld => ?_)
                clear hK K
                refine pure_ (i := 18) (N := some 20) (v := ?_) (a' := ?_) #[true, true, true, true, true, true, true, true, true, true, true, true, true, true, true, true, true, true, true] rfl rfl (any_of HT_.out (by kernel_rfl)) (fun _ _ _ h => h) (Or.inl ⟨by rfl, ?_⟩) ?_ ?_
                rotate_left
                ·intro w'
                 go_simp
                 with_reducible rfl
                rotate_left
                ·simp only [Act.put, List.setIfInBounds_toArray, List.set_cons_zero, List.set_cons_succ, i64_w, i32_w]
                 rfl
                refine done_ (done_of HT_.out (by kernel_rfl)) ?_
                have hnb104 := NB330_318.out
                have hnc104 := NB318_330.out
                have hnb105 := NB330_326.out
                have hnc105 := NB326_330.out
                have hnb106 := NB330_357.out
                have hnc106 := NB357_330.out
                have hcz107_0 : w98.cell? ⟨gb330, 0, none⟩ = some (.int .i64 x331000_1) := (blk_cell BK330.out 0).trans rfl
                have hcz107_1 : w98.cell? ⟨gb330, 1, none⟩ = some (.int .i64 x331001_1) := (blk_cell BK330.out 1).trans rfl
                have hcz107_2 : w98.cell? ⟨gb330, 2, none⟩ = some (.int .i64 x331002_1) := (blk_cell BK330.out 2).trans rfl
                have hcz107_3 : w98.cell? ⟨gb330, 3, none⟩ = some (.slice Ao91 x331003_1.length co91) := (blk_cell BK330.out 3).trans rfl
                have hfz107_0 := blk_frozen BK330.out 0
                have hfz107_1 := blk_frozen BK330.out 1
                have hfz107_2 := blk_frozen BK330.out 2
                have hfz107_3 := blk_frozen BK330.out 3
                have hnb108 := NB357_318.out
                have hnc108 := NB318_357.out
                have hnb109 := NB357_326.out
                have hnc109 := NB326_357.out
                have hnb110 := NB357_340.out
                have hnc110 := NB340_357.out
                have hcz111_0 : w98.cell? ⟨gb357, 0, none⟩ = some (.int .i64 0) := (blk_cell BK357.out 0).trans rfl
                have hcz111_1 : w98.cell? ⟨gb357, 1, none⟩ = some (.int .i64 0) := (blk_cell BK357.out 1).trans rfl
                have hcz111_2 : w98.cell? ⟨gb357, 2, none⟩ = some (.int .i64 0) := (blk_cell BK357.out 2).trans rfl
                have hcz111_3 : w98.cell? ⟨gb357, 3, none⟩ = some (.slice none 0 0) := (blk_cell BK357.out 3).trans rfl
                have hfz111_0 := blk_frozen BK357.out 0
                have hfz111_1 := blk_frozen BK357.out 1
                have hfz111_2 := blk_frozen BK357.out 2
                have hfz111_3 := blk_frozen BK357.out 3
                have hcz112_0 : w98.cell? ⟨gb340, 0, none⟩ = some (.int .i64 t335) := (blk_cell BK340.out 0).trans rfl
                have hcz112_1 : w98.cell? ⟨gb340, 1, none⟩ = some (.int .i64 t336) := (blk_cell BK340.out 1).trans rfl
                have hcz112_2 : w98.cell? ⟨gb340, 2, none⟩ = some (.int .i64 t337) := (blk_cell BK340.out 2).trans rfl
                have hcz112_3 : w98.cell? ⟨gb340, 3, none⟩ = some (.int .i64 t338) := (blk_cell BK340.out 3).trans rfl
                have hfz112_0 := blk_frozen BK340.out 0
                have hfz112_1 := blk_frozen BK340.out 1
                have hfz112_2 := blk_frozen BK340.out 2
                have hfz112_3 := blk_frozen BK340.out 3
                try go_wp2_with (first | ((with_reducible refine gate_callee (f := 27) rfl ?_); refine goesL_ (some 140) rfl rfl Try.func27 (by kernel_rfl) rfl #[.agg #[.int .i64 x331000_1, .int .i64 x331001_1, .int .i64 x331002_1, .slice Ao91 x331003_1.length co91], .agg #[.int .i64 t350, .int .i64 t351, .int .i64 t352, .slice Ao102 t353.length co102], .int .i64 t335, .int .i64 t336] rfl q107_ ?_; (with_reducible refine (plane_Blit.calls k4 x331000_1 x331001_1 x331002_1 _ _ x331003_1 t350 t351 t352 _ _ t353 t335 t336 t358 t359 t360 t361 true _ ?side1 ?side2 ?side3 ?side4 A84.out).mono ?_); (case side1 => refine (Kd.R_reads' (e := 3) (base := w.heap.size) (ok := fun k_ => (some k_ ≠ (.slice Ao102 t353.length co102 : Value).ownBlock ∧ (some k_ ≠ (.slice Ao92 x15_3.length co92 : Value).ownBlock ∧ (some k_ ≠ (.slice Ao93 x16_4.length co93 : Value).ownBlock ∧ (some k_ ≠ (.slice Ao18 t310.length co18 : Value).ownBlock ∧ some k_ ≠ (.slice Ao24 t322.length co24 : Value).ownBlock))))) (n := x331003_1.length) (c := co91) ?_).2.2; exact q1_); (case side2 => exact (Kd.R_reads' HO_331003.out).2.1); (case side3 => refine (Kd.R_reads' (e := 3) (base := w.heap.size) (ok := fun k_ => (some k_ ≠ (.slice Ao92 x15_3.length co92 : Value).ownBlock ∧ (some k_ ≠ (.slice Ao93 x16_4.length co93 : Value).ownBlock ∧ (some k_ ≠ (.slice Ao18 t310.length co18 : Value).ownBlock ∧ (some k_ ≠ (.slice Ao24 t322.length co24 : Value).ownBlock ∧ some k_ ≠ (.slice Ao91 x331003_1.length co91 : Value).ownBlock))))) (n := t353.length) (c := co102) ?_).2.2; exact q2_); (case side4 => exact (Kd.R_reads' HO355.out).2.1); rintro e w113 ⟨v362, rfl, ho0, hb⟩; refine ⟨_, rfl, ?_⟩; have n0_ := am_ (Kd.R_elder' (by (with_reducible repeat (first | apply Kd.R_alloc | apply Kd.R_drewN | apply Kd.R_drew)); exact (Kd.R_mono (Kd.R_far (p := ⟨gb357, 3, none⟩) (Kd.R_far (p := ⟨gb357, 2, none⟩) (Kd.R_far (p := ⟨gb357, 1, none⟩) (Kd.R_far (p := ⟨gb357, 0, none⟩) (Kd.R_types HO_15.out BK357.out (by decide)) (fun _ hk => hk.2) (.int .i64 t350)) (fun _ hk => hk.2) (.int .i64 t351)) (fun _ hk => hk.2) (.int .i64 t352)) (fun _ hk => hk.2) (.slice Ao102 t353.length co102)) (fun _ h_ => h_.1))) (Kd.R_base ho0) hb); have n1_ := am_ (Kd.R_elder' (by (with_reducible repeat (first | apply Kd.R_alloc | apply Kd.R_drewN | apply Kd.R_drew)); exact (Kd.R_mono (Kd.R_far (p := ⟨gb357, 3, none⟩) (Kd.R_far (p := ⟨gb357, 2, none⟩) (Kd.R_far (p := ⟨gb357, 1, none⟩) (Kd.R_far (p := ⟨gb357, 0, none⟩) (Kd.R_types HO_16.out BK357.out (by decide)) (fun _ hk => hk.2) (.int .i64 t350)) (fun _ hk => hk.2) (.int .i64 t351)) (fun _ hk => hk.2) (.int .i64 t352)) (fun _ hk => hk.2) (.slice Ao102 t353.length co102)) (fun _ h_ => h_.1))) (Kd.R_base ho0) hb); have n2_ := am_ (Kd.R_elder' (by (with_reducible repeat (first | apply Kd.R_alloc | apply Kd.R_drewN | apply Kd.R_drew)); exact (Kd.R_mono (Kd.R_far (p := ⟨gb357, 3, none⟩) (Kd.R_far (p := ⟨gb357, 2, none⟩) (Kd.R_far (p := ⟨gb357, 1, none⟩) (Kd.R_far (p := ⟨gb357, 0, none⟩) (Kd.R_types HO_319003.out BK357.out (by decide)) (fun _ hk => hk.2) (.int .i64 t350)) (fun _ hk => hk.2) (.int .i64 t351)) (fun _ hk => hk.2) (.int .i64 t352)) (fun _ hk => hk.2) (.slice Ao102 t353.length co102)) (fun _ h_ => h_.1))) (Kd.R_base ho0) hb); have n3_ := am_ (Kd.R_elder' (by (with_reducible repeat (first | apply Kd.R_alloc | apply Kd.R_drewN | apply Kd.R_drew)); exact (Kd.R_mono (Kd.R_far (p := ⟨gb357, 3, none⟩) (Kd.R_far (p := ⟨gb357, 2, none⟩) (Kd.R_far (p := ⟨gb357, 1, none⟩) (Kd.R_far (p := ⟨gb357, 0, none⟩) (Kd.R_types HO_327003.out BK357.out (by decide)) (fun _ hk => hk.2) (.int .i64 t350)) (fun _ hk => hk.2) (.int .i64 t351)) (fun _ hk => hk.2) (.int .i64 t352)) (fun _ hk => hk.2) (.slice Ao102 t353.length co102)) (fun _ h_ => h_.1))) (Kd.R_base ho0) hb); have n4_ := am_ (Kd.R_elder' q1_ (Kd.R_base ho0) hb); have n5_ := am_ (Kd.R_elder' q2_ (Kd.R_base ho0) hb); have n6_ := am_ (Kd.R_lower (Kd.R_new' (Kd.R_new' (Kd.R_new' (Kd.R_new' (Kd.R_new' (Kd.R_new' ho0 (Kd.R_lt (by (with_reducible repeat (first | apply Kd.R_alloc | apply Kd.R_drewN | apply Kd.R_drew)); exact (Kd.R_mono (Kd.R_far (p := ⟨gb357, 3, none⟩) (Kd.R_far (p := ⟨gb357, 2, none⟩) (Kd.R_far (p := ⟨gb357, 1, none⟩) (Kd.R_far (p := ⟨gb357, 0, none⟩) (Kd.R_types HO_15.out BK357.out (by decide)) (fun _ hk => hk.2) (.int .i64 t350)) (fun _ hk => hk.2) (.int .i64 t351)) (fun _ hk => hk.2) (.int .i64 t352)) (fun _ hk => hk.2) (.slice Ao102 t353.length co102)) (fun _ h_ => h_.1))))) (Kd.R_lt (by (with_reducible repeat (first | apply Kd.R_alloc | apply Kd.R_drewN | apply Kd.R_drew)); exact (Kd.R_mono (Kd.R_far (p := ⟨gb357, 3, none⟩) (Kd.R_far (p := ⟨gb357, 2, none⟩) (Kd.R_far (p := ⟨gb357, 1, none⟩) (Kd.R_far (p := ⟨gb357, 0, none⟩) (Kd.R_types HO_16.out BK357.out (by decide)) (fun _ hk => hk.2) (.int .i64 t350)) (fun _ hk => hk.2) (.int .i64 t351)) (fun _ hk => hk.2) (.int .i64 t352)) (fun _ hk => hk.2) (.slice Ao102 t353.length co102)) (fun _ h_ => h_.1))))) (Kd.R_lt (by (with_reducible repeat (first | apply Kd.R_alloc | apply Kd.R_drewN | apply Kd.R_drew)); exact (Kd.R_mono (Kd.R_far (p := ⟨gb357, 3, none⟩) (Kd.R_far (p := ⟨gb357, 2, none⟩) (Kd.R_far (p := ⟨gb357, 1, none⟩) (Kd.R_far (p := ⟨gb357, 0, none⟩) (Kd.R_types HO_319003.out BK357.out (by decide)) (fun _ hk => hk.2) (.int .i64 t350)) (fun _ hk => hk.2) (.int .i64 t351)) (fun _ hk => hk.2) (.int .i64 t352)) (fun _ hk => hk.2) (.slice Ao102 t353.length co102)) (fun _ h_ => h_.1))))) (Kd.R_lt (by (with_reducible repeat (first | apply Kd.R_alloc | apply Kd.R_drewN | apply Kd.R_drew)); exact (Kd.R_mono (Kd.R_far (p := ⟨gb357, 3, none⟩) (Kd.R_far (p := ⟨gb357, 2, none⟩) (Kd.R_far (p := ⟨gb357, 1, none⟩) (Kd.R_far (p := ⟨gb357, 0, none⟩) (Kd.R_types HO_327003.out BK357.out (by decide)) (fun _ hk => hk.2) (.int .i64 t350)) (fun _ hk => hk.2) (.int .i64 t351)) (fun _ hk => hk.2) (.int .i64 t352)) (fun _ hk => hk.2) (.slice Ao102 t353.length co102)) (fun _ h_ => h_.1))))) (Kd.R_lt q1_)) (Kd.R_lt q2_)) (below_size q9_)); have n7_ := am_ (blk_below (g := gb318) (o := .cells #[.int .i64 t307, .int .i64 t308, .int .i64 t309, .slice Ao18 t310.length co18] 26 (0, 0)) (by (with_reducible repeat (first | refine blk_drewN ?_ _ | refine blk_drew ?_ | refine blk_alloc ?_ _)); refine blk_far ?_ NB318_357.out _; (with_reducible repeat (first | refine blk_drewN ?_ _ | refine blk_drew ?_ | refine blk_alloc ?_ _)); refine blk_far ?_ NB318_357.out _; (with_reducible repeat (first | refine blk_drewN ?_ _ | refine blk_drew ?_ | refine blk_alloc ?_ _)); refine blk_far ?_ NB318_357.out _; (with_reducible repeat (first | refine blk_drewN ?_ _ | refine blk_drew ?_ | refine blk_alloc ?_ _)); refine blk_far ?_ NB318_357.out _; (with_reducible repeat (first | refine blk_drewN ?_ _ | refine blk_drew ?_ | refine blk_alloc ?_ _)); exact BK318.out) hb); have n8_ := am_ (blk_below (g := gb326) (o := .cells #[.int .i64 t319, .int .i64 t320, .int .i64 t321, .slice Ao24 t322.length co24] 26 (0, 0)) (by (with_reducible repeat (first | refine blk_drewN ?_ _ | refine blk_drew ?_ | refine blk_alloc ?_ _)); refine blk_far ?_ NB326_357.out _; (with_reducible repeat (first | refine blk_drewN ?_ _ | refine blk_drew ?_ | refine blk_alloc ?_ _)); refine blk_far ?_ NB326_357.out _; (with_reducible repeat (first | refine blk_drewN ?_ _ | refine blk_drew ?_ | refine blk_alloc ?_ _)); refine blk_far ?_ NB326_357.out _; (with_reducible repeat (first | refine blk_drewN ?_ _ | refine blk_drew ?_ | refine blk_alloc ?_ _)); refine blk_far ?_ NB326_357.out _; (with_reducible repeat (first | refine blk_drewN ?_ _ | refine blk_drew ?_ | refine blk_alloc ?_ _)); exact BK326.out) hb); have n9_ := am_ (blk_below (g := gb330) (o := .cells #[.int .i64 x331000_1, .int .i64 x331001_1, .int .i64 x331002_1, .slice Ao91 x331003_1.length co91] 26 (0, 0)) (by (with_reducible repeat (first | refine blk_drewN ?_ _ | refine blk_drew ?_ | refine blk_alloc ?_ _)); refine blk_far ?_ NB330_357.out _; (with_reducible repeat (first | refine blk_drewN ?_ _ | refine blk_drew ?_ | refine blk_alloc ?_ _)); refine blk_far ?_ NB330_357.out _; (with_reducible repeat (first | refine blk_drewN ?_ _ | refine blk_drew ?_ | refine blk_alloc ?_ _)); refine blk_far ?_ NB330_357.out _; (with_reducible repeat (first | refine blk_drewN ?_ _ | refine blk_drew ?_ | refine blk_alloc ?_ _)); refine blk_far ?_ NB330_357.out _; (with_reducible repeat (first | refine blk_drewN ?_ _ | refine blk_drew ?_ | refine blk_alloc ?_ _)); exact BK330.out) hb); have n10_ := am_ (blk_below (g := gb340) (o := .cells #[.int .i64 t335, .int .i64 t336, .int .i64 t337, .int .i64 t338] 32 (0, 0)) (by (with_reducible repeat (first | refine blk_drewN ?_ _ | refine blk_drew ?_ | refine blk_alloc ?_ _)); refine blk_far ?_ NB340_357.out _; (with_reducible repeat (first | refine blk_drewN ?_ _ | refine blk_drew ?_ | refine blk_alloc ?_ _)); refine blk_far ?_ NB340_357.out _; (with_reducible repeat (first | refine blk_drewN ?_ _ | refine blk_drew ?_ | refine blk_alloc ?_ _)); refine blk_far ?_ NB340_357.out _; (with_reducible repeat (first | refine blk_drewN ?_ _ | refine blk_drew ?_ | refine blk_alloc ?_ _)); refine blk_far ?_ NB340_357.out _; (with_reducible repeat (first | refine blk_drewN ?_ _ | refine blk_drew ?_ | refine blk_alloc ?_ _)); exact BK340.out) hb); have n11_ := am_ (blk_below (g := gb357) (o := .cells #[.int .i64 t350, .int .i64 t351, .int .i64 t352, .slice Ao102 t353.length co102] 26 (0, 0)) (by (with_reducible repeat (first | refine blk_drewN ?_ _ | refine blk_drew ?_ | refine blk_alloc ?_ _)); refine blk_put (cs := #[.int .i64 t350, .int .i64 t351, .int .i64 t352, .slice none 0 0]) ?_ 3 _ rfl; (with_reducible repeat (first | refine blk_drewN ?_ _ | refine blk_drew ?_ | refine blk_alloc ?_ _)); refine blk_put (cs := #[.int .i64 t350, .int .i64 t351, .int .i64 0, .slice none 0 0]) ?_ 2 _ rfl; (with_reducible repeat (first | refine blk_drewN ?_ _ | refine blk_drew ?_ | refine blk_alloc ?_ _)); refine blk_put (cs := #[.int .i64 t350, .int .i64 0, .int .i64 0, .slice none 0 0]) ?_ 1 _ rfl; (with_reducible repeat (first | refine blk_drewN ?_ _ | refine blk_drew ?_ | refine blk_alloc ?_ _)); refine blk_put (cs := #[.int .i64 0, .int .i64 0, .int .i64 0, .slice none 0 0]) ?_ 0 _ rfl; (with_reducible repeat (first | refine blk_drewN ?_ _ | refine blk_drew ?_ | refine blk_alloc ?_ _)); exact BK357.out) hb); have n12_ := am_ (below_step q9_ hb); clear HO_15; clear HO_16; clear HO_319003; clear HO_327003; clear HO_331003; clear HO355; clear BK318; clear BK326; clear BK330; clear BK340; clear BK357; clear HB; have HO_15 := n0_; have HO_16 := n1_; have HO_319003 := n2_; have HO_327003 := n3_; have HO_331003 := n4_; have HO355 := n5_; have HO363 := n6_; have BK318 := n7_; have BK326 := n8_; have BK330 := n9_; have BK340 := n10_; have BK357 := n11_; have HB := n12_; clear n0_ n1_ n2_ n3_ n4_ n5_ n6_ n7_ n8_ n9_ n10_ n11_ n12_; (try clear ho0)) | ((with_reducible refine gate_dst (N := 21) rfl ?_); refine box_event ?hg (N := 21) ?hd (cs := #[.int .i64 0, .int .i64 0, .int .i64 0, .slice none 0 0]) (t := 26) ?hr ?_; (case hd => rfl); (case hg => rfl); (case hr => first | (go_simp; done) | (go_simp; rfl)); intro gb365 hg w114 hbox hb; have n0_ := am_ (Kd.R_below q161_ hb); have n1_ := am_ (Kd.R_below q162_ hb); have n2_ := am_ (Kd.R_below q146_ hb); have n3_ := am_ (Kd.R_below q147_ hb); have n4_ := am_ (Kd.R_below q148_ hb); have n5_ := am_ (Kd.R_below (by (with_reducible repeat (first | apply Kd.R_alloc | apply Kd.R_drewN | apply Kd.R_drew)); exact HO355.out) hb); have n6_ := am_ (Kd.R_below (by (with_reducible repeat (first | apply Kd.R_alloc | apply Kd.R_drewN | apply Kd.R_drew)); exact HO363.out) hb); have n7_ := am_ (blk_below (g := gb318) (o := .cells #[.int .i64 t307, .int .i64 t308, .int .i64 t309, .slice Ao18 t310.length co18] 26 (0, 0)) q139_ hb); have n8_ := am_ (blk_below (g := gb326) (o := .cells #[.int .i64 t319, .int .i64 t320, .int .i64 t321, .slice Ao24 t322.length co24] 26 (0, 0)) q140_ hb); have n9_ := am_ (blk_below (g := gb330) (o := .cells #[.int .i64 x331000_1, .int .i64 x331001_1, .int .i64 x331002_1, .slice Ao91 x331003_1.length co91] 26 (0, 0)) q141_ hb); have n10_ := am_ (blk_below (g := gb340) (o := .cells #[.int .i64 t335, .int .i64 t336, .int .i64 t337, .int .i64 t338] 32 (0, 0)) q142_ hb); have n11_ := am_ (blk_below (g := gb357) (o := .cells #[.int .i64 t350, .int .i64 t351, .int .i64 t352, .slice Ao102 t353.length co102] 26 (0, 0)) q143_ hb); have n12_ := am_ (below_step q9_ hb); have n13_ := am_ (hbox); have n14_ := am_ ((by rw [hg]; exact (below_size q9_) : w.heap.size ≤ gb365)); have n15_ := am_ ((by rw [hg]; exact (below_size q9_) : w.heap.size ≤ gb365)); have n16_ := am_ ((q14_ : gb318 ≠ gb365)); have n17_ := am_ ((q15_ : gb365 ≠ gb318)); have n18_ := am_ ((q16_ : gb326 ≠ gb365)); have n19_ := am_ ((q17_ : gb365 ≠ gb326)); have n20_ := am_ ((q5_ : gb330 ≠ gb365)); have n21_ := am_ ((q6_ : gb365 ≠ gb330)); have n22_ := am_ ((q32_ : gb340 ≠ gb365)); have n23_ := am_ ((q33_ : gb365 ≠ gb340)); have n24_ := am_ ((by rw [hg]; exact Nat.ne_of_lt (blk_lt (g := gb357) (o := .cells #[.int .i64 t350, .int .i64 t351, .int .i64 t352, .slice Ao102 t353.length co102] 26 (0, 0)) q143_) : gb357 ≠ gb365)); have n25_ := am_ ((by rw [hg]; exact Nat.ne_of_gt (blk_lt (g := gb357) (o := .cells #[.int .i64 t350, .int .i64 t351, .int .i64 t352, .slice Ao102 t353.length co102] 26 (0, 0)) q143_) : gb365 ≠ gb357)); clear HO_15; clear HO_16; clear HO_319003; clear HO_327003; clear HO_331003; clear HO355; clear HO363; clear BK318; clear BK326; clear BK330; clear BK340; clear BK357; clear HB; have HO_15 := n0_; have HO_16 := n1_; have HO_319003 := n2_; have HO_327003 := n3_; have HO_331003 := n4_; have HO355 := n5_; have HO363 := n6_; have BK318 := n7_; have BK326 := n8_; have BK330 := n9_; have BK340 := n10_; have BK357 := n11_; have HB := n12_; have BK365 := n13_; have GW365 := n14_; have GE365 := n15_; have NB318_365 := n16_; have NB365_318 := n17_; have NB326_365 := n18_; have NB365_326 := n19_; have NB330_365 := n20_; have NB365_330 := n21_; have NB340_365 := n22_; have NB365_340 := n23_; have NB357_365 := n24_; have NB365_357 := n25_; clear n0_ n1_ n2_ n3_ n4_ n5_ n6_ n7_ n8_ n9_ n10_ n11_ n12_ n13_ n14_ n15_ n16_ n17_ n18_ n19_ n20_ n21_ n22_ n23_ n24_ n25_; clear hb hbox hg; have hnb115 := NB365_318.out; have hnc115 := NB318_365.out; have hnb116 := NB365_326.out; have hnc116 := NB326_365.out; have hnb117 := NB365_330.out; have hnc117 := NB330_365.out; have hnb118 := NB365_340.out; have hnc118 := NB340_365.out; have hnb119 := NB365_357.out; have hnc119 := NB357_365.out; have hcz120_0 : w114.cell? ⟨gb365, 0, none⟩ = some (.int .i64 0) := (blk_cell BK365.out 0).trans rfl; have hcz120_1 : w114.cell? ⟨gb365, 1, none⟩ = some (.int .i64 0) := (blk_cell BK365.out 1).trans rfl; have hcz120_2 : w114.cell? ⟨gb365, 2, none⟩ = some (.int .i64 0) := (blk_cell BK365.out 2).trans rfl; have hcz120_3 : w114.cell? ⟨gb365, 3, none⟩ = some (.slice none 0 0) := (blk_cell BK365.out 3).trans rfl; have hfz120_0 := blk_frozen BK365.out 0; have hfz120_1 := blk_frozen BK365.out 1; have hfz120_2 := blk_frozen BK365.out 2; have hfz120_3 := blk_frozen BK365.out 3; obtain ⟨Ao121, co121, eo121⟩ := Kd.R_slice HO363.out; subst eo121; have hcz122_0 : w114.cell? ⟨gb330, 0, none⟩ = some (.int .i64 x331000_1) := (blk_cell BK330.out 0).trans rfl; have hcz122_1 : w114.cell? ⟨gb330, 1, none⟩ = some (.int .i64 x331001_1) := (blk_cell BK330.out 1).trans rfl; have hcz122_2 : w114.cell? ⟨gb330, 2, none⟩ = some (.int .i64 x331002_1) := (blk_cell BK330.out 2).trans rfl; have hcz122_3 : w114.cell? ⟨gb330, 3, none⟩ = some (.slice Ao91 x331003_1.length co91) := (blk_cell BK330.out 3).trans rfl; have hfz122_0 := blk_frozen BK330.out 0; have hfz122_1 := blk_frozen BK330.out 1; have hfz122_2 := blk_frozen BK330.out 2; have hfz122_3 := blk_frozen BK330.out 3))
                go_roundg k4
                case measure => have := HK1.out; have := HJ38.out; have := HK3.out; have := HK4.out; omega
                case rel => exact ⟨(wrap64 (x12_1 + 1)), (t358), (t359), (t360), (t361), (.slice Ao121 t361.length co121), q169_, q168_, ⟨by have := HK1.out; have := HJ38.out; have := HK3.out; have := HK4.out; omega⟩, ⟨by (with_reducible repeat (first | apply Kd.R_alloc | apply Kd.R_drewN | apply Kd.R_drew)); exact Kd.R_mono (Kd.R_far (p := ⟨gb330, 3, none⟩) (Kd.R_far (p := ⟨gb330, 2, none⟩) (Kd.R_far (p := ⟨gb330, 1, none⟩) (Kd.R_far (p := ⟨gb330, 0, none⟩) (Kd.R_far (p := ⟨gb365, 3, none⟩) (Kd.R_far (p := ⟨gb365, 2, none⟩) (Kd.R_far (p := ⟨gb365, 1, none⟩) (Kd.R_far (p := ⟨gb365, 0, none⟩) (Kd.R_types (Kd.R_types HO_319003.out BK365.out (by decide)) BK330.out (by decide)) (fun _ hk => hk.1.2) (.int .i64 t358)) (fun _ hk => hk.1.2) (.int .i64 t359)) (fun _ hk => hk.1.2) (.int .i64 t360)) (fun _ hk => hk.1.2) (.slice Ao121 t361.length co121)) (fun _ hk => hk.2) (.int .i64 t358)) (fun _ hk => hk.2) (.int .i64 t359)) (fun _ hk => hk.2) (.int .i64 t360)) (fun _ hk => hk.2) (.slice Ao121 t361.length co121)) (fun _ hk => ⟨hk.1.1.1.2.2.2.1, hk.1.1.2⟩)⟩, ⟨by (with_reducible repeat (first | apply Kd.R_alloc | apply Kd.R_drewN | apply Kd.R_drew)); exact Kd.R_mono (Kd.R_far (p := ⟨gb330, 3, none⟩) (Kd.R_far (p := ⟨gb330, 2, none⟩) (Kd.R_far (p := ⟨gb330, 1, none⟩) (Kd.R_far (p := ⟨gb330, 0, none⟩) (Kd.R_far (p := ⟨gb365, 3, none⟩) (Kd.R_far (p := ⟨gb365, 2, none⟩) (Kd.R_far (p := ⟨gb365, 1, none⟩) (Kd.R_far (p := ⟨gb365, 0, none⟩) (Kd.R_types (Kd.R_types HO_327003.out BK365.out (by decide)) BK330.out (by decide)) (fun _ hk => hk.1.2) (.int .i64 t358)) (fun _ hk => hk.1.2) (.int .i64 t359)) (fun _ hk => hk.1.2) (.int .i64 t360)) (fun _ hk => hk.1.2) (.slice Ao121 t361.length co121)) (fun _ hk => hk.2) (.int .i64 t358)) (fun _ hk => hk.2) (.int .i64 t359)) (fun _ hk => hk.2) (.int .i64 t360)) (fun _ hk => hk.2) (.slice Ao121 t361.length co121)) (fun _ hk => ⟨hk.1.1.1.2.2.2.1, hk.1.1.2⟩)⟩, ⟨by (with_reducible repeat (first | apply Kd.R_alloc | apply Kd.R_drewN | apply Kd.R_drew)); exact Kd.R_mono (Kd.R_far (p := ⟨gb330, 3, none⟩) (Kd.R_far (p := ⟨gb330, 2, none⟩) (Kd.R_far (p := ⟨gb330, 1, none⟩) (Kd.R_far (p := ⟨gb330, 0, none⟩) (Kd.R_far (p := ⟨gb365, 3, none⟩) (Kd.R_far (p := ⟨gb365, 2, none⟩) (Kd.R_far (p := ⟨gb365, 1, none⟩) (Kd.R_far (p := ⟨gb365, 0, none⟩) (Kd.R_types (Kd.R_types HO363.out BK365.out (by decide)) BK330.out (by decide)) (fun _ hk => hk.1.2) (.int .i64 t358)) (fun _ hk => hk.1.2) (.int .i64 t359)) (fun _ hk => hk.1.2) (.int .i64 t360)) (fun _ hk => hk.1.2) (.slice Ao121 t361.length co121)) (fun _ hk => hk.2) (.int .i64 t358)) (fun _ hk => hk.2) (.int .i64 t359)) (fun _ hk => hk.2) (.int .i64 t360)) (fun _ hk => hk.2) (.slice Ao121 t361.length co121)) (fun _ hk => ⟨hk.1.1.1.1.1.2, hk.1.1.1.1.2⟩)⟩, ⟨by (with_reducible repeat (first | refine blk_drewN ?_ _ | refine blk_drew ?_ | refine blk_alloc ?_ _)); refine blk_far ?_ NB318_330.out _; (with_reducible repeat (first | refine blk_drewN ?_ _ | refine blk_drew ?_ | refine blk_alloc ?_ _)); refine blk_far ?_ NB318_330.out _; (with_reducible repeat (first | refine blk_drewN ?_ _ | refine blk_drew ?_ | refine blk_alloc ?_ _)); refine blk_far ?_ NB318_330.out _; (with_reducible repeat (first | refine blk_drewN ?_ _ | refine blk_drew ?_ | refine blk_alloc ?_ _)); refine blk_far ?_ NB318_330.out _; (with_reducible repeat (first | refine blk_drewN ?_ _ | refine blk_drew ?_ | refine blk_alloc ?_ _)); refine blk_far ?_ NB318_365.out _; (with_reducible repeat (first | refine blk_drewN ?_ _ | refine blk_drew ?_ | refine blk_alloc ?_ _)); refine blk_far ?_ NB318_365.out _; (with_reducible repeat (first | refine blk_drewN ?_ _ | refine blk_drew ?_ | refine blk_alloc ?_ _)); refine blk_far ?_ NB318_365.out _; (with_reducible repeat (first | refine blk_drewN ?_ _ | refine blk_drew ?_ | refine blk_alloc ?_ _)); refine blk_far ?_ NB318_365.out _; (with_reducible repeat (first | refine blk_drewN ?_ _ | refine blk_drew ?_ | refine blk_alloc ?_ _)); exact BK318.out⟩, ⟨by (with_reducible repeat (first | refine blk_drewN ?_ _ | refine blk_drew ?_ | refine blk_alloc ?_ _)); refine blk_far ?_ NB326_330.out _; (with_reducible repeat (first | refine blk_drewN ?_ _ | refine blk_drew ?_ | refine blk_alloc ?_ _)); refine blk_far ?_ NB326_330.out _; (with_reducible repeat (first | refine blk_drewN ?_ _ | refine blk_drew ?_ | refine blk_alloc ?_ _)); refine blk_far ?_ NB326_330.out _; (with_reducible repeat (first | refine blk_drewN ?_ _ | refine blk_drew ?_ | refine blk_alloc ?_ _)); refine blk_far ?_ NB326_330.out _; (with_reducible repeat (first | refine blk_drewN ?_ _ | refine blk_drew ?_ | refine blk_alloc ?_ _)); refine blk_far ?_ NB326_365.out _; (with_reducible repeat (first | refine blk_drewN ?_ _ | refine blk_drew ?_ | refine blk_alloc ?_ _)); refine blk_far ?_ NB326_365.out _; (with_reducible repeat (first | refine blk_drewN ?_ _ | refine blk_drew ?_ | refine blk_alloc ?_ _)); refine blk_far ?_ NB326_365.out _; (with_reducible repeat (first | refine blk_drewN ?_ _ | refine blk_drew ?_ | refine blk_alloc ?_ _)); refine blk_far ?_ NB326_365.out _; (with_reducible repeat (first | refine blk_drewN ?_ _ | refine blk_drew ?_ | refine blk_alloc ?_ _)); exact BK326.out⟩, ⟨by (with_reducible repeat (first | refine blk_drewN ?_ _ | refine blk_drew ?_ | refine blk_alloc ?_ _)); refine blk_put (cs := #[.int .i64 t358, .int .i64 t359, .int .i64 t360, .slice Ao91 x331003_1.length co91]) ?_ 3 _ rfl; (with_reducible repeat (first | refine blk_drewN ?_ _ | refine blk_drew ?_ | refine blk_alloc ?_ _)); refine blk_put (cs := #[.int .i64 t358, .int .i64 t359, .int .i64 x331002_1, .slice Ao91 x331003_1.length co91]) ?_ 2 _ rfl; (with_reducible repeat (first | refine blk_drewN ?_ _ | refine blk_drew ?_ | refine blk_alloc ?_ _)); refine blk_put (cs := #[.int .i64 t358, .int .i64 x331001_1, .int .i64 x331002_1, .slice Ao91 x331003_1.length co91]) ?_ 1 _ rfl; (with_reducible repeat (first | refine blk_drewN ?_ _ | refine blk_drew ?_ | refine blk_alloc ?_ _)); refine blk_put (cs := #[.int .i64 x331000_1, .int .i64 x331001_1, .int .i64 x331002_1, .slice Ao91 x331003_1.length co91]) ?_ 0 _ rfl; (with_reducible repeat (first | refine blk_drewN ?_ _ | refine blk_drew ?_ | refine blk_alloc ?_ _)); refine blk_far ?_ NB330_365.out _; (with_reducible repeat (first | refine blk_drewN ?_ _ | refine blk_drew ?_ | refine blk_alloc ?_ _)); refine blk_far ?_ NB330_365.out _; (with_reducible repeat (first | refine blk_drewN ?_ _ | refine blk_drew ?_ | refine blk_alloc ?_ _)); refine blk_far ?_ NB330_365.out _; (with_reducible repeat (first | refine blk_drewN ?_ _ | refine blk_drew ?_ | refine blk_alloc ?_ _)); refine blk_far ?_ NB330_365.out _; (with_reducible repeat (first | refine blk_drewN ?_ _ | refine blk_drew ?_ | refine blk_alloc ?_ _)); exact BK330.out⟩, ⟨by repeat (first | (with_reducible first | exact HB.out | apply below_alloc | apply pw_below_drewN | apply below_drew1 | refine below_set ?_ GE318.out | refine below_set ?_ GE326.out | refine below_set ?_ GE330.out | refine below_set ?_ GE340.out | refine below_set ?_ GE357.out | refine below_set ?_ GE365.out) | exact HB.out)⟩⟩
               ·replace c86 := Bool.eq_false_iff.mpr c86
                subst c86
                have H1 : (some false) = some r := by rw [if_neg (show ¬ (false = true) by decide)] at H; exact H
                clear H
                have H := H1
                clear H1
                exact absurd ((Option.some.inj H).trans HT.out) (by decide)
              ·rw [if_neg c85] at H
               have c85b0 : (t356 == 0) = false := beq_eq_false_iff_ne.mpr c85
               have c85b1 : (t356 != 0) = true := bne_iff_ne.mpr c85
               exact absurd ((Option.some.inj H).trans HT.out) (by decide)
       ·replace c41 := Bool.eq_false_iff.mpr c41
        subst c41
        have H1 : (if t325 = 0 then ((tilefarmref4_Equal.f kj38 x331000_1 x331001_1 x331002_1 x331003_1 t319 t320 t321 t322).bind fun t333 => (if t333 = true then ((tilefarmlaw13_sane.f kj38).bind fun t334 => (some t334)) else (some false))) else (some false)) = some r := by rw [if_neg (show ¬ (false = true) by decide)] at H; exact H
        clear H
        have H := H1
        clear H1
        by_cases c123 : t325 = 0
        ·rw [if_pos c123] at H
         have c123b0 : (t325 == 0) = true := beq_iff_eq.mpr c123
         have c123b1 : (t325 != 0) = false := bne_eq_false_iff_eq.mpr c123
         clear c123
         replace H := Option.bind_eq_some_iff.mp H
         obtain ⟨t333, A1240, H⟩ := H
         replace H : (if t333 = true then ((tilefarmlaw13_sane.f kj38).bind fun t334 => (some t334)) else (some false)) = some r := H
         have A124 := am_ A1240
         clear A1240
         by_cases c125 : t333 = true
         ·subst c125
          have H1 : ((tilefarmlaw13_sane.f kj38).bind fun t334 => (some t334)) = some r := by rw [if_pos rfl] at H; exact H
          clear H
          have H := H1
          clear H1
          replace H := Option.bind_eq_some_iff.mp H
          obtain ⟨t334, A1260, H⟩ := H
          replace H : (some t334) = some r := H
          have A126 := am_ A1260
          clear A1260
          obtain rfl := Option.some.inj H
          have hnb127 := NB330_318.out
          have hnc127 := NB318_330.out
          have hnb128 := NB330_326.out
          have hnc128 := NB326_330.out
          have hcz129_0 : wc.cell? ⟨gb330, 0, none⟩ = some (.int .i64 x331000_1) := (blk_cell BK330.out 0).trans rfl
          have hcz129_1 : wc.cell? ⟨gb330, 1, none⟩ = some (.int .i64 x331001_1) := (blk_cell BK330.out 1).trans rfl
          have hcz129_2 : wc.cell? ⟨gb330, 2, none⟩ = some (.int .i64 x331002_1) := (blk_cell BK330.out 2).trans rfl
          have hcz129_3 : wc.cell? ⟨gb330, 3, none⟩ = some (u331003) := (blk_cell BK330.out 3).trans rfl
          have hfz129_0 := blk_frozen BK330.out 0
          have hfz129_1 := blk_frozen BK330.out 1
          have hfz129_2 := blk_frozen BK330.out 2
          have hfz129_3 := blk_frozen BK330.out 3
          have hnb130 := NB326_318.out
          have hnc130 := NB318_326.out
          have hcz131_0 : wc.cell? ⟨gb326, 0, none⟩ = some (.int .i64 t319) := (blk_cell BK326.out 0).trans rfl
          have hcz131_1 : wc.cell? ⟨gb326, 1, none⟩ = some (.int .i64 t320) := (blk_cell BK326.out 1).trans rfl
          have hcz131_2 : wc.cell? ⟨gb326, 2, none⟩ = some (.int .i64 t321) := (blk_cell BK326.out 2).trans rfl
          have hcz131_3 : wc.cell? ⟨gb326, 3, none⟩ = some (.slice Ao24 t322.length co24) := (blk_cell BK326.out 3).trans rfl
          have hfz131_0 := blk_frozen BK326.out 0
          have hfz131_1 := blk_frozen BK326.out 1
          have hfz131_2 := blk_frozen BK326.out 2
          have hfz131_3 := blk_frozen BK326.out 3
          obtain ⟨Ao132, co132, eo132⟩ := Kd.R_slice HO_331003.out
          subst eo132
          go_wp2_with (first | (go_at_call 21; (with_reducible refine (tilefarmref4_Equal.calls kj38 x331000_1 x331001_1 x331002_1 _ _ x331003_1 t319 t320 t321 _ _ t322 true _ ?side1 ?side2 ?side3 ?side4 A124.out).mono ?_); (case side1 => repeat (first | exact (Kd.R_reads' HO_331003.out).2.2 | (with_reducible refine Kd.C_alloc ?_ _) | (with_reducible refine Kd.C_drewN ?_ _) | (with_reducible refine Kd.C_drew ?_))); (case side2 => exact (Kd.R_reads' HO_331003.out).2.1); (case side3 => repeat (first | exact (Kd.R_reads' HO_327003.out).2.2 | (with_reducible refine Kd.C_alloc ?_ _) | (with_reducible refine Kd.C_drewN ?_ _) | (with_reducible refine Kd.C_drew ?_))); (case side4 => exact (Kd.R_reads' HO_327003.out).2.1); rintro e w133 ⟨rfl, hb⟩; have n0_ := am_ (Kd.R_below q146_ hb); have n1_ := am_ (Kd.R_below q147_ hb); have n2_ := am_ (Kd.R_below q148_ hb); have n3_ := am_ (blk_below (g := gb318) (o := .cells #[.int .i64 t307, .int .i64 t308, .int .i64 t309, .slice Ao18 t310.length co18] 26 (0, 0)) q139_ hb); have n4_ := am_ (blk_below (g := gb326) (o := .cells #[.int .i64 t319, .int .i64 t320, .int .i64 t321, .slice Ao24 t322.length co24] 26 (0, 0)) q140_ hb); have n5_ := am_ (blk_below (g := gb330) (o := .cells #[.int .i64 x331000_1, .int .i64 x331001_1, .int .i64 x331002_1, .slice Ao132 x331003_1.length co132] 26 (0, 0)) q141_ hb); have n6_ := am_ (below_step q53_ hb); clear HO_319003; clear HO_327003; clear HO_331003; clear BK318; clear BK326; clear BK330; clear HB; have HO_319003 := n0_; have HO_327003 := n1_; have HO_331003 := n2_; have BK318 := n3_; have BK326 := n4_; have BK330 := n5_; have HB := n6_; clear n0_ n1_ n2_ n3_ n4_ n5_ n6_) | (go_at_call 14; (with_reducible refine (tilefarmlaw13_sane.calls kj38  t334 _ A126.out).mono ?_); rintro e w134 ⟨rfl, hb⟩; have n0_ := am_ (Kd.R_below q146_ hb); have n1_ := am_ (Kd.R_below q147_ hb); have n2_ := am_ (Kd.R_below q148_ hb); have n3_ := am_ (blk_below (g := gb318) (o := .cells #[.int .i64 t307, .int .i64 t308, .int .i64 t309, .slice Ao18 t310.length co18] 26 (0, 0)) q139_ hb); have n4_ := am_ (blk_below (g := gb326) (o := .cells #[.int .i64 t319, .int .i64 t320, .int .i64 t321, .slice Ao24 t322.length co24] 26 (0, 0)) q140_ hb); have n5_ := am_ (blk_below (g := gb330) (o := .cells #[.int .i64 x331000_1, .int .i64 x331001_1, .int .i64 x331002_1, .slice Ao132 x331003_1.length co132] 26 (0, 0)) q141_ hb); have n6_ := am_ (below_step q53_ hb); clear HO_319003; clear HO_327003; clear HO_331003; clear BK318; clear BK326; clear BK330; clear HB; have HO_319003 := n0_; have HO_327003 := n1_; have HO_331003 := n2_; have BK318 := n3_; have BK326 := n4_; have BK330 := n5_; have HB := n6_; clear n0_ n1_ n2_ n3_ n4_ n5_ n6_))
          go_ret
          exact ⟨by first | rfl | (simp [errW_none, errW_some] <;> rfl) | (simp only [← hji7]; first | rfl | (simp [errW_none, errW_some] <;> rfl)) | (simp [*, errW_none, errW_some] <;> rfl), q53_⟩
         ·replace c125 := Bool.eq_false_iff.mpr c125
          subst c125
          have H1 : (some false) = some r := by rw [if_neg (show ¬ (false = true) by decide)] at H; exact H
          clear H
          have H := H1
          clear H1
          exact absurd ((Option.some.inj H).trans HT.out) (by decide)
        ·rw [if_neg c123] at H
         have c123b0 : (t325 == 0) = false := beq_eq_false_iff_ne.mpr c123
         have c123b1 : (t325 != 0) = true := bne_iff_ne.mpr c123
         exact absurd ((Option.some.inj H).trans HT.out) (by decide)
  ·rw [if_neg c9] at H
   exact absurd H (by simp)
 ·rw [if_neg c8] at H
  exact absurd H (by simp)


def tilefarmlaw13_IntegralGrows.Pure : Prop := ∀ (l0 : List Int), l0.length ≤ maxLen → l0.length * 8 ≤ 140737488351232 → (∀ x ∈ l0, (Lit.int .i64 x).wf = true) → ∃ k, tilefarmlaw13_IntegralGrows.f k l0 = some true
theorem tilefarmlaw13_IntegralGrows.walk (P : tilefarmlaw13_IntegralGrows.Pure) (a0 : Option Addr) (len0 cap0 : Nat) (z0 : List Int) (w : World) (w0 : (a0 = none ∧ len0 = 0 ∧ cap0 = 0 ∧ z0 = []) ∨ ∃ x, a0 = some x ∧ len0 ≤ cap0 ∧ cap0 ≤ maxLen ∧ z0.length = cap0 ∧ (∀ i, i < z0.length → w.cell? (x.add i) = some (.int .i64 (z0.getD i 0))) ∧ ∀ n ∈ z0, (Lit.int .i64 n).wf = true) (y0 : len0 * 8 ≤ 140737488351232) :
  Calls Try.prog 7 #[.slice a0 len0 cap0] w fun e w' => e = .returned (.bool true) ∧ Below w.heap.size w w' := by
 obtain ⟨l0, rfl, hr0, hm0, hw0, hc0⟩ := ReadsInt.ofRowC w0
 obtain ⟨k, h⟩ := P l0 hm0 y0 hw0
 refine (tilefarmlaw13_IntegralGrows.calls k _ _ l0 true w (Kd.C_of_reads (d := (0 : Int)) (h1 := fun _ => rfl) hr0) hc0 h).mono ?_
 rintro e w' ⟨rfl, hd⟩
 exact ⟨rfl, hd⟩

end Go.Proofs.Ytkipnpgcpohlcaa.PIntegralGrows
