-- Written by a program of the session (wip/tools/pack.py): the printed texts, pruned; checked by Lean.
import Derived.Test.YticicecobchdiaaKHistogramCountsa
import Derived.Test.YticicecobchdiaaKHistogramCountsx0
import Derived.Test.YticicecobchdiaaKHistogramCountsx2
import Derived.Test.YticicecobchdiaaKHistogramCountsx4
import Derived.Test.YticicecobchdiaaKHistogramCountsx6
import Derived.Test.YticicecobchdiaaKHistogramCountsx7
import Derived.Test.YticicecobchdiaaKHistogramCountsx8
import Derived.Test.YticicecobchdiaaKHistogramCountsx9
import Derived.Test.YticicecobchdiaaKHistogramCountsx11
import Derived.Test.YticicecobchdiaaKHistogramCountsx12
namespace Go.Proofs.Yticicecobchdiaa.PHistogramCounts
open Go.RowKit Go.Proofs.YticicecobchdiaaW.PrintWords Go.Proofs.YticicecobchdiaaW.PrintLast Go.Proofs.YticicecobchdiaaW.PrintMore
attribute [local go_sem] max2_int min2_int max_two min_two max_three min_three max_four min_four   -- for this text's walks alone
set_option linter.unusedVariables false
set_option linter.unusedSimpArgs false
mutual
def tilefarmlaw12_HistogramCounts.l0 : Nat → Int → Int → List Int → Int → Int → Int → Int → Int → Int → List Int → Int → Option (Bool)
  | 0, _, _, _, _, _, _, _, _, _, _, _ => none
  | k + 1, x1, x2, x34, x35, x36, x334000, x334001, x334002, x334003, x337000, x337001 => if x36 < x35 then (if 0 ≤ x36 then (if x36 < (x34.length : Int) then ((tilefarmgen_Mod.f x2 70000).bind fun t342 => ((some (([x2, wrap64 (1 + t342)] : List Int) : List Int)).bind fun y343 => (tilefarmlaw12_HistogramCounts.l1 k x1 x2 (rd x34 x36) x34 x35 x36 y343 (y343.length : Int) 0 x334000 x334001 x334002 x334003 x337000 x337001))) else (none)) else (none)) else (tilefarmlaw12_HistogramCounts.l2 k 0 x334000 x334001 x334002 x334003 x337000 x337001)
def tilefarmlaw12_HistogramCounts.l1 : Nat → Int → Int → Int → List Int → Int → Int → List Int → Int → Int → Int → Int → Int → Int → List Int → Int → Option (Bool)
  | 0, _, _, _, _, _, _, _, _, _, _, _, _, _, _, _ => none
  | k + 1, x1, x2, x13, x34, x35, x36, x44, x45, x46, x334000, x334001, x334002, x334003, x337000, x337001 => if x46 < x45 then (if 0 ≤ x46 then (if x46 < (x44.length : Int) then ((histogram_Bin.f x1 (rd x44 x46) x13).bind fun t347 => ((tilefarmref12_Bin.f x1 (rd x44 x46) x13).bind fun t348 => (if t347 = t348 then ((tilefarmgen_Mod.f x1 70000).bind fun t349 => ((histogram_Bin.f t349 (rd x44 x46) x13).bind fun t350 => ((tilefarmgen_Mod.f x1 70000).bind fun t351 => ((tilefarmref12_Bin.f t351 (rd x44 x46) x13).bind fun t352 => (if t350 = t352 then (tilefarmlaw12_HistogramCounts.l1 k x1 x2 x13 x34 x35 x36 x44 x45 (wrap64 (x46 + 1)) x334000 x334001 x334002 x334003 x337000 x337001) else (some false)))))) else (some false)))) else (none)) else (none)) else (tilefarmlaw12_HistogramCounts.l0 k x1 x2 x34 x35 (wrap64 (x36 + 1)) x334000 x334001 x334002 x334003 x337000 x337001)
def tilefarmlaw12_HistogramCounts.l2 : Nat → Int → Int → Int → Int → Int → List Int → Int → Option (Bool)
  | 0, _, _, _, _, _, _, _ => none
  | k + 1, x16, x334000, x334001, x334002, x334003, x337000, x337001 => if x16 < 3 then ((tilefarmgen_Tape_Plane.f k x337000 x337001).bind fun bt354 => ((tilefarmgen_Tape_Pick.f x337000 bt354.2.2.2.2 (([4, 1, 0, 7, 128, 129] : List Int))).bind fun bt364 => ((tilefarmgen_Tape_Within.f x337000 bt364.2 bt354.1 bt354.2.1).bind fun bt367 => (if x16 = 2 then (tilefarmlaw12_HistogramCounts.j3 k x16 bt364.1 x334000 x334001 x334002 x334003 x337000 bt367.2.2.2.2 bt354.1 bt354.2.1 bt354.2.2.1 bt354.2.2.2.1 x334000 x334001 x334002 x334003) else (tilefarmlaw12_HistogramCounts.j3 k x16 bt364.1 x334000 x334001 x334002 x334003 x337000 bt367.2.2.2.2 bt354.1 bt354.2.1 bt354.2.2.1 bt354.2.2.2.1 bt367.1 bt367.2.1 bt367.2.2.1 bt367.2.2.2.1))))) else ((tilefarmlaw12_sane.f k).bind fun t353 => (some t353))
def tilefarmlaw12_HistogramCounts.j3 : Nat → Int → Int → Int → Int → Int → Int → List Int → Int → Int → Int → Int → List Int → Int → Int → Int → Int → Option (Bool)
  | 0, _, _, _, _, _, _, _, _, _, _, _, _, _, _, _, _ => none
  | k + 1, x16, x18, x334000, x334001, x334002, x334003, x337000, x337001, x367000, x367001, x367002, x367003, x373000, x373001, x373002, x373003 => (tilefarmgen_Tape_Next.f x337000 x337001 8).bind fun bt373 => (if bt373.1 = 7 then ((tilefarmgen_Tape_SpoilPlane.f x337000 bt373.2 x367000 x367001 x367002 x367003).bind fun bt375 => (tilefarmlaw12_HistogramCounts.j4 k x16 x18 x334000 x334001 x334002 x334003 x337000 bt375.2.2.2.2 bt375.1 bt375.2.1 bt375.2.2.1 bt375.2.2.2.1 x373000 x373001 x373002 x373003)) else (tilefarmlaw12_HistogramCounts.j4 k x16 x18 x334000 x334001 x334002 x334003 x337000 bt373.2 x367000 x367001 x367002 x367003 x373000 x373001 x373002 x373003))
def tilefarmlaw12_HistogramCounts.j4 : Nat → Int → Int → Int → Int → Int → Int → List Int → Int → Int → Int → Int → List Int → Int → Int → Int → Int → Option (Bool)
  | 0, _, _, _, _, _, _, _, _, _, _, _, _, _, _, _, _ => none
  | k + 1, x16, x18, x334000, x334001, x334002, x334003, x337000, x337001, x367000, x367001, x367002, x367003, x373000, x373001, x373002, x373003 => (histogram_Partial.f k x367000 x367001 x367002 x367003 x18 x373000 x373001 x373002 x373003).bind fun bt382 => ((tilefarmref12_Partial.f k x367000 x367001 x367002 x367003 x18 x373000 x373001 x373002 x373003).bind fun bt386 => ((histogram_Whole.f k x367000 x367001 x367002 x367003 x18).bind fun bt390 => ((tilefarmref12_Whole.f k x367000 x367001 x367002 x367003 x18).bind fun bt398 => ((tilefarmref4_Same.f k bt382.1 bt386.1).bind fun t406 => (if t406 = true then (if bt382.2 = bt386.2 then ((tilefarmref4_Equal.f k bt390.1 bt390.2.1 bt390.2.2.1 bt390.2.2.2.1 bt398.1 bt398.2.1 bt398.2.2.1 bt398.2.2.2.1).bind fun t407 => (if t407 = true then (if bt390.2.2.2.2 = bt398.2.2.2.2 then (tilefarmlaw12_HistogramCounts.l2 k (wrap64 (x16 + 1)) x334000 x334001 x334002 x334003 x337000 x337001) else (some false)) else (some false))) else (some false)) else (some false))))))
end
def tilefarmlaw12_HistogramCounts.f (k : Nat) (l0 : List Int) (a1 : Int) (a2 : Int) (a3 : Int) (a4_0 : Int) (a4_1 : Int) (a4_2 : Int) (a4_3 : Int) : Option (Bool) := (tilefarmgen_New.f l0).bind fun bt334 => ((tilefarmgen_Mod.f a3 128).bind fun t337 => ((some (([a3, wrap64 (1 + t337)] : List Int) : List Int)).bind fun y338 => (tilefarmlaw12_HistogramCounts.l0 k a1 a2 y338 (y338.length : Int) 0 a4_0 a4_1 a4_2 a4_3 bt334.1 bt334.2)))
theorem tilefarmlaw12_HistogramCounts.mono_l : ∀ k, (∀ y0 y1 y2 y3 y4 y5 y6 y7 y8 y9 y10, LeO (tilefarmlaw12_HistogramCounts.l0 k y0 y1 y2 y3 y4 y5 y6 y7 y8 y9 y10) (tilefarmlaw12_HistogramCounts.l0 (k + 1) y0 y1 y2 y3 y4 y5 y6 y7 y8 y9 y10)) ∧ (∀ y0 y1 y2 y3 y4 y5 y6 y7 y8 y9 y10 y11 y12 y13 y14, LeO (tilefarmlaw12_HistogramCounts.l1 k y0 y1 y2 y3 y4 y5 y6 y7 y8 y9 y10 y11 y12 y13 y14) (tilefarmlaw12_HistogramCounts.l1 (k + 1) y0 y1 y2 y3 y4 y5 y6 y7 y8 y9 y10 y11 y12 y13 y14)) ∧ (∀ y0 y1 y2 y3 y4 y5 y6, LeO (tilefarmlaw12_HistogramCounts.l2 k y0 y1 y2 y3 y4 y5 y6) (tilefarmlaw12_HistogramCounts.l2 (k + 1) y0 y1 y2 y3 y4 y5 y6)) ∧ (∀ y0 y1 y2 y3 y4 y5 y6 y7 y8 y9 y10 y11 y12 y13 y14 y15, LeO (tilefarmlaw12_HistogramCounts.j3 k y0 y1 y2 y3 y4 y5 y6 y7 y8 y9 y10 y11 y12 y13 y14 y15) (tilefarmlaw12_HistogramCounts.j3 (k + 1) y0 y1 y2 y3 y4 y5 y6 y7 y8 y9 y10 y11 y12 y13 y14 y15)) ∧ (∀ y0 y1 y2 y3 y4 y5 y6 y7 y8 y9 y10 y11 y12 y13 y14 y15, LeO (tilefarmlaw12_HistogramCounts.j4 k y0 y1 y2 y3 y4 y5 y6 y7 y8 y9 y10 y11 y12 y13 y14 y15) (tilefarmlaw12_HistogramCounts.j4 (k + 1) y0 y1 y2 y3 y4 y5 y6 y7 y8 y9 y10 y11 y12 y13 y14 y15))
  | 0 => ⟨fun _ _ _ _ _ _ _ _ _ _ _ r h => by simp [tilefarmlaw12_HistogramCounts.l0] at h, fun _ _ _ _ _ _ _ _ _ _ _ _ _ _ _ r h => by simp [tilefarmlaw12_HistogramCounts.l1] at h, fun _ _ _ _ _ _ _ r h => by simp [tilefarmlaw12_HistogramCounts.l2] at h, fun _ _ _ _ _ _ _ _ _ _ _ _ _ _ _ _ r h => by simp [tilefarmlaw12_HistogramCounts.j3] at h, fun _ _ _ _ _ _ _ _ _ _ _ _ _ _ _ _ r h => by simp [tilefarmlaw12_HistogramCounts.j4] at h⟩
  | k + 1 => by
    obtain ⟨ih0, ih1, ih2, ih3, ih4⟩ := tilefarmlaw12_HistogramCounts.mono_l k
    refine ⟨?_, ?_, ?_, ?_, ?_⟩
    · intro y0 y1 y2 y3 y4 y5 y6 y7 y8 y9 y10
      unfold tilefarmlaw12_HistogramCounts.l0
      repeat' first
      | (with_reducible exact ih0 _ _ _ _ _ _ _ _ _ _ _)
      | (with_reducible exact ih1 _ _ _ _ _ _ _ _ _ _ _ _ _ _ _)
      | (with_reducible exact ih2 _ _ _ _ _ _ _)
      | (with_reducible exact ih3 _ _ _ _ _ _ _ _ _ _ _ _ _ _ _ _)
      | (with_reducible exact ih4 _ _ _ _ _ _ _ _ _ _ _ _ _ _ _ _)
      | (with_reducible exact histogram_Partial.mono _ _ _ _ _ _ _ _ _ _)
      | (with_reducible exact histogram_Whole.mono _ _ _ _ _ _)
      | (with_reducible exact tilefarmgen_Tape_Plane.mono _ _ _)
      | (with_reducible exact tilefarmlaw12_sane.mono _)
      | (with_reducible exact tilefarmref12_Partial.mono _ _ _ _ _ _ _ _ _ _)
      | (with_reducible exact tilefarmref12_Whole.mono _ _ _ _ _ _)
      | (with_reducible exact tilefarmref4_Equal.mono _ _ _ _ _ _ _ _ _)
      | (with_reducible exact tilefarmref4_Same.mono _ _ _)
      | (with_reducible exact LeO.refl _)
      | (with_reducible exact LeO.none _)
      | (with_reducible refine LeO.ite ?_ ?_)
      | (with_reducible refine LeO.bind ?_ (fun _ => ?_))
      | exact ih0 _ _ _ _ _ _ _ _ _ _ _
      | exact ih1 _ _ _ _ _ _ _ _ _ _ _ _ _ _ _
      | exact ih2 _ _ _ _ _ _ _
      | exact ih3 _ _ _ _ _ _ _ _ _ _ _ _ _ _ _ _
      | exact ih4 _ _ _ _ _ _ _ _ _ _ _ _ _ _ _ _
      | exact histogram_Partial.mono _ _ _ _ _ _ _ _ _ _
      | exact histogram_Whole.mono _ _ _ _ _ _
      | exact tilefarmgen_Tape_Plane.mono _ _ _
      | exact tilefarmlaw12_sane.mono _
      | exact tilefarmref12_Partial.mono _ _ _ _ _ _ _ _ _ _
      | exact tilefarmref12_Whole.mono _ _ _ _ _ _
      | exact tilefarmref4_Equal.mono _ _ _ _ _ _ _ _ _
      | exact tilefarmref4_Same.mono _ _ _
      | exact LeO.none _
      | refine LeO.ite ?_ ?_
      | refine LeO.bind ?_ (fun _ => ?_)
    · intro y0 y1 y2 y3 y4 y5 y6 y7 y8 y9 y10 y11 y12 y13 y14
      unfold tilefarmlaw12_HistogramCounts.l1
      repeat' first
      | (with_reducible exact ih0 _ _ _ _ _ _ _ _ _ _ _)
      | (with_reducible exact ih1 _ _ _ _ _ _ _ _ _ _ _ _ _ _ _)
      | (with_reducible exact ih2 _ _ _ _ _ _ _)
      | (with_reducible exact ih3 _ _ _ _ _ _ _ _ _ _ _ _ _ _ _ _)
      | (with_reducible exact ih4 _ _ _ _ _ _ _ _ _ _ _ _ _ _ _ _)
      | (with_reducible exact histogram_Partial.mono _ _ _ _ _ _ _ _ _ _)
      | (with_reducible exact histogram_Whole.mono _ _ _ _ _ _)
      | (with_reducible exact tilefarmgen_Tape_Plane.mono _ _ _)
      | (with_reducible exact tilefarmlaw12_sane.mono _)
      | (with_reducible exact tilefarmref12_Partial.mono _ _ _ _ _ _ _ _ _ _)
      | (with_reducible exact tilefarmref12_Whole.mono _ _ _ _ _ _)
      | (with_reducible exact tilefarmref4_Equal.mono _ _ _ _ _ _ _ _ _)
      | (with_reducible exact tilefarmref4_Same.mono _ _ _)
      | (with_reducible exact LeO.refl _)
      | (with_reducible exact LeO.none _)
      | (with_reducible refine LeO.ite ?_ ?_)
      | (with_reducible refine LeO.bind ?_ (fun _ => ?_))
      | exact ih0 _ _ _ _ _ _ _ _ _ _ _
      | exact ih1 _ _ _ _ _ _ _ _ _ _ _ _ _ _ _
      | exact ih2 _ _ _ _ _ _ _
      | exact ih3 _ _ _ _ _ _ _ _ _ _ _ _ _ _ _ _
      | exact ih4 _ _ _ _ _ _ _ _ _ _ _ _ _ _ _ _
      | exact histogram_Partial.mono _ _ _ _ _ _ _ _ _ _
      | exact histogram_Whole.mono _ _ _ _ _ _
      | exact tilefarmgen_Tape_Plane.mono _ _ _
      | exact tilefarmlaw12_sane.mono _
      | exact tilefarmref12_Partial.mono _ _ _ _ _ _ _ _ _ _
      | exact tilefarmref12_Whole.mono _ _ _ _ _ _
      | exact tilefarmref4_Equal.mono _ _ _ _ _ _ _ _ _
      | exact tilefarmref4_Same.mono _ _ _
      | exact LeO.none _
      | refine LeO.ite ?_ ?_
      | refine LeO.bind ?_ (fun _ => ?_)
    · intro y0 y1 y2 y3 y4 y5 y6
      unfold tilefarmlaw12_HistogramCounts.l2
      repeat' first
      | (with_reducible exact ih0 _ _ _ _ _ _ _ _ _ _ _)
      | (with_reducible exact ih1 _ _ _ _ _ _ _ _ _ _ _ _ _ _ _)
      | (with_reducible exact ih2 _ _ _ _ _ _ _)
      | (with_reducible exact ih3 _ _ _ _ _ _ _ _ _ _ _ _ _ _ _ _)
      | (with_reducible exact ih4 _ _ _ _ _ _ _ _ _ _ _ _ _ _ _ _)
      | (with_reducible exact histogram_Partial.mono _ _ _ _ _ _ _ _ _ _)
      | (with_reducible exact histogram_Whole.mono _ _ _ _ _ _)
      | (with_reducible exact tilefarmgen_Tape_Plane.mono _ _ _)
      | (with_reducible exact tilefarmlaw12_sane.mono _)
      | (with_reducible exact tilefarmref12_Partial.mono _ _ _ _ _ _ _ _ _ _)
      | (with_reducible exact tilefarmref12_Whole.mono _ _ _ _ _ _)
      | (with_reducible exact tilefarmref4_Equal.mono _ _ _ _ _ _ _ _ _)
      | (with_reducible exact tilefarmref4_Same.mono _ _ _)
      | (with_reducible exact LeO.refl _)
      | (with_reducible exact LeO.none _)
      | (with_reducible refine LeO.ite ?_ ?_)
      | (with_reducible refine LeO.bind ?_ (fun _ => ?_))
      | exact ih0 _ _ _ _ _ _ _ _ _ _ _
      | exact ih1 _ _ _ _ _ _ _ _ _ _ _ _ _ _ _
      | exact ih2 _ _ _ _ _ _ _
      | exact ih3 _ _ _ _ _ _ _ _ _ _ _ _ _ _ _ _
      | exact ih4 _ _ _ _ _ _ _ _ _ _ _ _ _ _ _ _
      | exact histogram_Partial.mono _ _ _ _ _ _ _ _ _ _
      | exact histogram_Whole.mono _ _ _ _ _ _
      | exact tilefarmgen_Tape_Plane.mono _ _ _
      | exact tilefarmlaw12_sane.mono _
      | exact tilefarmref12_Partial.mono _ _ _ _ _ _ _ _ _ _
      | exact tilefarmref12_Whole.mono _ _ _ _ _ _
      | exact tilefarmref4_Equal.mono _ _ _ _ _ _ _ _ _
      | exact tilefarmref4_Same.mono _ _ _
      | exact LeO.none _
      | refine LeO.ite ?_ ?_
      | refine LeO.bind ?_ (fun _ => ?_)
    · intro y0 y1 y2 y3 y4 y5 y6 y7 y8 y9 y10 y11 y12 y13 y14 y15
      unfold tilefarmlaw12_HistogramCounts.j3
      repeat' first
      | (with_reducible exact ih0 _ _ _ _ _ _ _ _ _ _ _)
      | (with_reducible exact ih1 _ _ _ _ _ _ _ _ _ _ _ _ _ _ _)
      | (with_reducible exact ih2 _ _ _ _ _ _ _)
      | (with_reducible exact ih3 _ _ _ _ _ _ _ _ _ _ _ _ _ _ _ _)
      | (with_reducible exact ih4 _ _ _ _ _ _ _ _ _ _ _ _ _ _ _ _)
      | (with_reducible exact histogram_Partial.mono _ _ _ _ _ _ _ _ _ _)
      | (with_reducible exact histogram_Whole.mono _ _ _ _ _ _)
      | (with_reducible exact tilefarmgen_Tape_Plane.mono _ _ _)
      | (with_reducible exact tilefarmlaw12_sane.mono _)
      | (with_reducible exact tilefarmref12_Partial.mono _ _ _ _ _ _ _ _ _ _)
      | (with_reducible exact tilefarmref12_Whole.mono _ _ _ _ _ _)
      | (with_reducible exact tilefarmref4_Equal.mono _ _ _ _ _ _ _ _ _)
      | (with_reducible exact tilefarmref4_Same.mono _ _ _)
      | (with_reducible exact LeO.refl _)
      | (with_reducible exact LeO.none _)
      | (with_reducible refine LeO.ite ?_ ?_)
      | (with_reducible refine LeO.bind ?_ (fun _ => ?_))
      | exact ih0 _ _ _ _ _ _ _ _ _ _ _
      | exact ih1 _ _ _ _ _ _ _ _ _ _ _ _ _ _ _
      | exact ih2 _ _ _ _ _ _ _
      | exact ih3 _ _ _ _ _ _ _ _ _ _ _ _ _ _ _ _
      | exact ih4 _ _ _ _ _ _ _ _ _ _ _ _ _ _ _ _
      | exact histogram_Partial.mono _ _ _ _ _ _ _ _ _ _
      | exact histogram_Whole.mono _ _ _ _ _ _
      | exact tilefarmgen_Tape_Plane.mono _ _ _
      | exact tilefarmlaw12_sane.mono _
      | exact tilefarmref12_Partial.mono _ _ _ _ _ _ _ _ _ _
      | exact tilefarmref12_Whole.mono _ _ _ _ _ _
      | exact tilefarmref4_Equal.mono _ _ _ _ _ _ _ _ _
      | exact tilefarmref4_Same.mono _ _ _
      | exact LeO.none _
      | refine LeO.ite ?_ ?_
      | refine LeO.bind ?_ (fun _ => ?_)
    · intro y0 y1 y2 y3 y4 y5 y6 y7 y8 y9 y10 y11 y12 y13 y14 y15
      unfold tilefarmlaw12_HistogramCounts.j4
      repeat' first
      | (with_reducible exact ih0 _ _ _ _ _ _ _ _ _ _ _)
      | (with_reducible exact ih1 _ _ _ _ _ _ _ _ _ _ _ _ _ _ _)
      | (with_reducible exact ih2 _ _ _ _ _ _ _)
      | (with_reducible exact ih3 _ _ _ _ _ _ _ _ _ _ _ _ _ _ _ _)
      | (with_reducible exact ih4 _ _ _ _ _ _ _ _ _ _ _ _ _ _ _ _)
      | (with_reducible exact histogram_Partial.mono _ _ _ _ _ _ _ _ _ _)
      | (with_reducible exact histogram_Whole.mono _ _ _ _ _ _)
      | (with_reducible exact tilefarmgen_Tape_Plane.mono _ _ _)
      | (with_reducible exact tilefarmlaw12_sane.mono _)
      | (with_reducible exact tilefarmref12_Partial.mono _ _ _ _ _ _ _ _ _ _)
      | (with_reducible exact tilefarmref12_Whole.mono _ _ _ _ _ _)
      | (with_reducible exact tilefarmref4_Equal.mono _ _ _ _ _ _ _ _ _)
      | (with_reducible exact tilefarmref4_Same.mono _ _ _)
      | (with_reducible exact LeO.refl _)
      | (with_reducible exact LeO.none _)
      | (with_reducible refine LeO.ite ?_ ?_)
      | (with_reducible refine LeO.bind ?_ (fun _ => ?_))
      | exact ih0 _ _ _ _ _ _ _ _ _ _ _
      | exact ih1 _ _ _ _ _ _ _ _ _ _ _ _ _ _ _
      | exact ih2 _ _ _ _ _ _ _
      | exact ih3 _ _ _ _ _ _ _ _ _ _ _ _ _ _ _ _
      | exact ih4 _ _ _ _ _ _ _ _ _ _ _ _ _ _ _ _
      | exact histogram_Partial.mono _ _ _ _ _ _ _ _ _ _
      | exact histogram_Whole.mono _ _ _ _ _ _
      | exact tilefarmgen_Tape_Plane.mono _ _ _
      | exact tilefarmlaw12_sane.mono _
      | exact tilefarmref12_Partial.mono _ _ _ _ _ _ _ _ _ _
      | exact tilefarmref12_Whole.mono _ _ _ _ _ _
      | exact tilefarmref4_Equal.mono _ _ _ _ _ _ _ _ _
      | exact tilefarmref4_Same.mono _ _ _
      | exact LeO.none _
      | refine LeO.ite ?_ ?_
      | refine LeO.bind ?_ (fun _ => ?_)
theorem tilefarmlaw12_HistogramCounts.mono : ∀ a0 a1 a2 a3 a4 a5 a6 a7 k, LeO (tilefarmlaw12_HistogramCounts.f k a0 a1 a2 a3 a4 a5 a6 a7) (tilefarmlaw12_HistogramCounts.f (k + 1) a0 a1 a2 a3 a4 a5 a6 a7) := by
  intro a0 a1 a2 a3 a4 a5 a6 a7 k
  obtain ⟨ih0, ih1, ih2, ih3, ih4⟩ := tilefarmlaw12_HistogramCounts.mono_l k
  unfold tilefarmlaw12_HistogramCounts.f
  repeat' first
      | (with_reducible exact ih0 _ _ _ _ _ _ _ _ _ _ _)
      | (with_reducible exact ih1 _ _ _ _ _ _ _ _ _ _ _ _ _ _ _)
      | (with_reducible exact ih2 _ _ _ _ _ _ _)
      | (with_reducible exact ih3 _ _ _ _ _ _ _ _ _ _ _ _ _ _ _ _)
      | (with_reducible exact ih4 _ _ _ _ _ _ _ _ _ _ _ _ _ _ _ _)
      | (with_reducible exact histogram_Partial.mono _ _ _ _ _ _ _ _ _ _)
      | (with_reducible exact histogram_Whole.mono _ _ _ _ _ _)
      | (with_reducible exact tilefarmgen_Tape_Plane.mono _ _ _)
      | (with_reducible exact tilefarmlaw12_sane.mono _)
      | (with_reducible exact tilefarmref12_Partial.mono _ _ _ _ _ _ _ _ _ _)
      | (with_reducible exact tilefarmref12_Whole.mono _ _ _ _ _ _)
      | (with_reducible exact tilefarmref4_Equal.mono _ _ _ _ _ _ _ _ _)
      | (with_reducible exact tilefarmref4_Same.mono _ _ _)
      | (with_reducible exact LeO.refl _)
      | (with_reducible exact LeO.none _)
      | (with_reducible refine LeO.ite ?_ ?_)
      | (with_reducible refine LeO.bind ?_ (fun _ => ?_))
      | exact ih0 _ _ _ _ _ _ _ _ _ _ _
      | exact ih1 _ _ _ _ _ _ _ _ _ _ _ _ _ _ _
      | exact ih2 _ _ _ _ _ _ _
      | exact ih3 _ _ _ _ _ _ _ _ _ _ _ _ _ _ _ _
      | exact ih4 _ _ _ _ _ _ _ _ _ _ _ _ _ _ _ _
      | exact histogram_Partial.mono _ _ _ _ _ _ _ _ _ _
      | exact histogram_Whole.mono _ _ _ _ _ _
      | exact tilefarmgen_Tape_Plane.mono _ _ _
      | exact tilefarmlaw12_sane.mono _
      | exact tilefarmref12_Partial.mono _ _ _ _ _ _ _ _ _ _
      | exact tilefarmref12_Whole.mono _ _ _ _ _ _
      | exact tilefarmref4_Equal.mono _ _ _ _ _ _ _ _ _
      | exact tilefarmref4_Same.mono _ _ _
      | exact LeO.none _
      | refine LeO.ite ?_ ?_
      | refine LeO.bind ?_ (fun _ => ?_)
set_option maxHeartbeats 8000000 in
set_option maxRecDepth 100000 in
theorem tilefarmlaw12_HistogramCounts.calls (k : Nat) (A0 : Option Addr) (c0 : Nat) (l0 : List Int) (a1 : Int) (a2 : Int) (a3 : Int) (a4_0 : Int) (a4_1 : Int) (a4_2 : Int) (a4_3 : Int) (r : Bool) (w : World) (hr0 : Kd.C (Kd.int .i64) w A0 l0.length l0) (hc0 : l0.length ≤ c0) (h : tilefarmlaw12_HistogramCounts.f k l0 a1 a2 a3 a4_0 a4_1 a4_2 a4_3 = some r) (hT : r = true := by first | rfl | assumption | exact HT.out) :
    Calls Try.prog 4 #[.slice A0 l0.length c0, .int .i64 a1, .int .i64 a2, .int .i64 a3, .agg #[.int .i64 a4_0, .int .i64 a4_1, .int .i64 a4_2, .int .i64 a4_3]] w fun e w' => e = .returned (.bool r) ∧ Below w.heap.size w w' := by
  have HT := Aside0.mk hT
  clear hT
  have hu39 := Try.underlying39
  have hu26 := Try.underlying26
  have HR0 := Aside0.mk hr0
  have HC0 := Aside0.mk hc0
  clear hr0 hc0
  have HB := Aside0.mk (Below.refl w.heap.size w)
  have H : ((tilefarmgen_New.f l0).bind fun bt334 => ((tilefarmgen_Mod.f a3 128).bind fun t337 => ((some (([a3, wrap64 (1 + t337)] : List Int) : List Int)).bind fun y338 => (tilefarmlaw12_HistogramCounts.l0 k a1 a2 y338 (y338.length : Int) 0 a4_0 a4_1 a4_2 a4_3 bt334.1 bt334.2)))) = some r := h
  clear h
  replace H := Option.bind_eq_some_iff.mp H
  obtain ⟨⟨t334, t335⟩, A60, H⟩ := H
  replace H : ((tilefarmgen_Mod.f a3 128).bind fun t337 => ((some (([a3, wrap64 (1 + t337)] : List Int) : List Int)).bind fun y338 => (tilefarmlaw12_HistogramCounts.l0 k a1 a2 y338 (y338.length : Int) 0 a4_0 a4_1 a4_2 a4_3 t334 t335))) = some r := H
  have A6 := Aside0.mk A60
  clear A60
  replace H := Option.bind_eq_some_iff.mp H
  obtain ⟨t337, A70, H⟩ := H
  replace H : ((some (([a3, wrap64 (1 + t337)] : List Int) : List Int)).bind fun y338 => (tilefarmlaw12_HistogramCounts.l0 k a1 a2 y338 (y338.length : Int) 0 a4_0 a4_1 a4_2 a4_3 t334 t335)) = some r := H
  have A7 := Aside0.mk A70
  clear A70
  obtain ⟨y338, hy338⟩ : ∃ y_ : List Int, y_ = (([a3, wrap64 (1 + t337)] : List Int)) := ⟨_, rfl⟩
  replace H : (tilefarmlaw12_HistogramCounts.l0 k a1 a2 y338 (y338.length : Int) 0 a4_0 a4_1 a4_2 a4_3 t334 t335) = some r := by first | (rw [hy338]; with_reducible exact H) | (have H2_ := (Option.bind_some _ _).symm.trans H; rw [hy338]; with_reducible exact H2_) | (have H2_ := (Option.bind_some _ _).symm.trans H; with_reducible exact H2_) | with_reducible exact H | (rw [hy338]; exact H) | exact H
  have Ny338 := Aside0.mk hy338
  clear hy338
  have H' := Aside0.mk H
  clear H
  go_enter Try.func4, Try.ntmps4
  go_wp2_with (first | ((with_reducible refine gate_dst (N := 9) rfl ?_); refine box_event ?hg (N := 9) ?hd (cs := #[.int .i64 a4_0, .int .i64 a4_1, .int .i64 a4_2, .int .i64 a4_3]) (t := 39) ?hr ?_; (case hd => rfl); (case hg => rfl); (case hr => first | (go_simp; done) | (go_simp; rfl)); intro gb333 hg w8 hbox hb; have n0_ := Aside0.mk (below_step q103_ hb); have n1_ := Aside0.mk (hbox); have n2_ := Aside0.mk ((q79_ : w.heap.size ≤ gb333)); have n3_ := Aside0.mk ((q79_ : w.heap.size ≤ gb333)); clear HB; have HB := n0_; have BK333 := n1_; have GW333 := n2_; have GE333 := n3_; clear n0_ n1_ n2_ n3_; clear hb hbox hg) | ((with_reducible refine gate_callee (f := 8) rfl ?_); refine goesL_ (some 29) rfl rfl Try.func8 (by kernel_rfl) rfl #[.slice A0 l0.length c0] rfl q100_ ?_; (with_reducible refine (tilefarmgen_New.calls _ _ l0 t334 t335 w _ ?side1 ?side2 ?side3 A6.out).mono ?_); (case side1 => repeat (first | (with_reducible first | exact HB.out | apply below_alloc | apply pw_below_drewN | apply below_drew1 | refine below_set ?_ GE333.out) | exact HB.out)); (case side2 => exact HR0.out); (case side3 => exact HC0.out); rintro e w9 ⟨g336, rfl, hi, hb, hb2⟩; refine ⟨_, rfl, ?_⟩; have n0_ := Aside0.mk (blk_below (g := gb333) (o := .cells #[.int .i64 a4_0, .int .i64 a4_1, .int .i64 a4_2, .int .i64 a4_3] 39 (0, 0)) q132_ hb2); have n1_ := Aside0.mk (hb); have n2_ := Aside0.mk (hi); have n3_ := Aside0.mk (IsS55.ne_blk hi (blk_below (g := gb333) (o := .cells #[.int .i64 a4_0, .int .i64 a4_1, .int .i64 a4_2, .int .i64 a4_3] 39 (0, 0)) q132_ hb2) (by decide)); have n4_ := Aside0.mk (Ne.symm (IsS55.ne_blk hi (blk_below (g := gb333) (o := .cells #[.int .i64 a4_0, .int .i64 a4_1, .int .i64 a4_2, .int .i64 a4_3] 39 (0, 0)) q132_ hb2) (by decide))); clear BK333; clear HB; have BK333 := n0_; have HB := n1_; have HI336 := n2_; have NB336_333 := n3_; have NB333_336 := n4_; clear n0_ n1_ n2_ n3_ n4_; (try clear hb); (try clear hb2); (try clear hk); (try clear hi)) | ((with_reducible refine gate_callee (f := 13) rfl ?_); refine goesL_ (some 32) rfl rfl Try.func13 (by kernel_rfl) rfl #[.int .i64 a3, .int .i64 128] rfl q100_ ?_; (with_reducible refine (tilefarmgen_Mod.calls a3 128 t337 _ A7.out).mono ?_); rintro e w' ⟨rfl, ⟨nd, rfl⟩⟩; refine ⟨_, rfl, ?_⟩) | ((with_reducible refine gate_dst (N := 34) rfl ?_); refine Kd.R_lit (Kd.int .i64) _ 3 ?hg (N := 34) ?hd (xs := ([a3, wrap64 (1 + t337)] : List Int)) (inner := [.int .i64 a3, .int .i64 (wrap64 (1 + t337))]) (ok := fun _ => True) (okp := fun _ => True) ?hr ?hp (fun _ hk => hk) trivial (Below.refl _ _) (Nat.le_refl _) (by simp) ?_; (case hd => rfl); (case hg => rfl); (case hr => first | (go_simp; done) | (go_simp; rfl)); (case hp => exact (Reps.one (show Kd.M (Kd.int .i64) _ _ _ a3 [.int .i64 a3] from rfl) (Reps.one (show Kd.M (Kd.int .i64) _ _ _ (wrap64 (1 + t337)) [.int .i64 (wrap64 (1 + t337))] from rfl) (Reps.none _ _)))); intro v339 w10 ho11 hb hg_ hnew_; clear hg_ hnew_; (first | rw [← Ny338.out] at ho11 | (simp only [Int.reduceToNat] at ho11; rw [← Ny338.out] at ho11)); have n0_ := Aside0.mk (Kd.R_lower ho11 (below_size q51_)); have n1_ := Aside0.mk (blk_below (g := gb333) (o := .cells #[.int .i64 a4_0, .int .i64 a4_1, .int .i64 a4_2, .int .i64 a4_3] 39 (0, 0)) q132_ hb); have n2_ := Aside0.mk (IsS55.below q71_ hb); have n3_ := Aside0.mk (below_step q51_ hb); clear BK333; clear HI336; clear HB; have HO340 := n0_; have BK333 := n1_; have HI336 := n2_; have HB := n3_; clear n0_ n1_ n2_ n3_; clear hb ho11; obtain ⟨Ao12, co12, eo12⟩ := Kd.R_slice HO340.out; subst eo12))
  go_loopg [36] k (fun kq v36 w' => ∃ (x36_1 : Int), v36 = .int .i64 x36_1 ∧ Aside0 (tilefarmlaw12_HistogramCounts.l0 kq a1 a2 y338 (y338.length : Int) x36_1 a4_0 a4_1 a4_2 a4_3 t334 t335 = some r) ∧ Aside0 (kq ≤ k) ∧ Aside0 (Kd.R (Kd.int .i64) 3 w' w.heap.size (fun _ => True) (.slice Ao12 y338.length co12) y338) ∧ Aside0 (w'.heap[gb333]? = some (.cells #[.int .i64 a4_0, .int .i64 a4_1, .int .i64 a4_2, .int .i64 a4_3] 39 (0, 0))) ∧ Aside0 (IsS55 w w' g336 t334 t335) ∧ Aside0 (Below w.heap.size w w'))
  case atStart => exact ⟨(0), q156_, H', ⟨Nat.le_refl _⟩, ⟨by (with_reducible repeat (first | apply Kd.R_alloc | apply Kd.R_drewN | apply Kd.R_drew)); exact HO340.out⟩, ⟨q132_⟩, ⟨q71_⟩, ⟨q51_⟩⟩
  case round =>
    clear H'
    try clear c1
    try clear p2
    try clear c4
    try clear p6
    try clear c8
    obtain ⟨x36_1, rfl, HA, HK1, HO_34, BK333, HI336, HB⟩ := hrel
    cases gk with
    | zero => exact absurd HA.out (by simp [tilefarmlaw12_HistogramCounts.l0])
    | succ k1 =>
      have H := HA.out
      clear HA
      simp only [tilefarmlaw12_HistogramCounts.l0] at H
      by_cases c13 : x36_1 < (y338.length : Int)
      · rw [if_pos c13] at H
        have c13b0 : decide (x36_1 < (y338.length : Int)) = true := decide_eq_true c13
        clear c13
        by_cases c14 : 0 ≤ x36_1
        · rw [if_pos c14] at H
          have c14b0 : decide (0 ≤ x36_1) = true := decide_eq_true c14
          clear c14
          by_cases c15 : x36_1 < (y338.length : Int)
          · rw [if_pos c15] at H
            have c15b0 : decide (x36_1 < (y338.length : Int)) = true := decide_eq_true c15
            clear c15
            replace H := Option.bind_eq_some_iff.mp H
            obtain ⟨t342, A160, H⟩ := H
            replace H : ((some (([a2, wrap64 (1 + t342)] : List Int) : List Int)).bind fun y343 => (tilefarmlaw12_HistogramCounts.l1 k1 a1 a2 (rd y338 x36_1) y338 (y338.length : Int) x36_1 y343 (y343.length : Int) 0 a4_0 a4_1 a4_2 a4_3 t334 t335)) = some r := H
            have A16 := Aside0.mk A160
            clear A160
            obtain ⟨y343, hy343⟩ : ∃ y_ : List Int, y_ = (([a2, wrap64 (1 + t342)] : List Int)) := ⟨_, rfl⟩
            replace H : (tilefarmlaw12_HistogramCounts.l1 k1 a1 a2 (rd y338 x36_1) y338 (y338.length : Int) x36_1 y343 (y343.length : Int) 0 a4_0 a4_1 a4_2 a4_3 t334 t335) = some r := by first | (rw [hy343]; with_reducible exact H) | (have H2_ := (Option.bind_some _ _).symm.trans H; rw [hy343]; with_reducible exact H2_) | (have H2_ := (Option.bind_some _ _).symm.trans H; with_reducible exact H2_) | with_reducible exact H | (rw [hy343]; exact H) | exact H
            have Ny343 := Aside0.mk hy343
            clear hy343
            have H' := Aside0.mk H
            clear H
            have p341 : 0 ≤ (x36_1 : Int) := of_decide_eq_true q155_
            have q341 : x36_1 < (y338.length : Int) := of_decide_eq_true q155_
            obtain ⟨ad341, e341, hx341_0⟩ := Kd.at_int (Kd.R_reads' HO_34.out).2.2 x36_1 p341 q341
            cases e341
            replace p341 := eq_true p341
            replace q341 := eq_true q341
            go_wp2_with (first | ((with_reducible refine gate_callee (f := 13) rfl ?_); refine goesL_ (some 42) rfl rfl Try.func13 (by kernel_rfl) rfl #[.int .i64 a2, .int .i64 70000] rfl q100_ ?_; (with_reducible refine (tilefarmgen_Mod.calls a2 70000 t342 _ A16.out).mono ?_); rintro e w' ⟨rfl, ⟨nd, rfl⟩⟩; refine ⟨_, rfl, ?_⟩) | ((with_reducible refine gate_dst (N := 44) rfl ?_); refine Kd.R_lit (Kd.int .i64) _ 3 ?hg (N := 44) ?hd (xs := ([a2, wrap64 (1 + t342)] : List Int)) (inner := [.int .i64 a2, .int .i64 (wrap64 (1 + t342))]) (ok := fun _ => True) (okp := fun _ => True) ?hr ?hp (fun _ hk => hk) trivial (Below.refl _ _) (Nat.le_refl _) (by simp) ?_; (case hd => rfl); (case hg => rfl); (case hr => first | (go_simp; done) | (go_simp; rfl)); (case hp => exact (Reps.one (show Kd.M (Kd.int .i64) _ _ _ a2 [.int .i64 a2] from rfl) (Reps.one (show Kd.M (Kd.int .i64) _ _ _ (wrap64 (1 + t342)) [.int .i64 (wrap64 (1 + t342))] from rfl) (Reps.none _ _)))); intro v344 w17 ho18 hb hg_ hnew_; clear hg_ hnew_; (first | rw [← Ny343.out] at ho18 | (simp only [Int.reduceToNat] at ho18; rw [← Ny343.out] at ho18)); have n0_ := Aside0.mk (Kd.R_elder' q145_ (Kd.R_base ho18) hb); have n1_ := Aside0.mk (Kd.R_lower (Kd.R_new' ho18 (Kd.R_lt q145_)) (below_size q51_)); have n2_ := Aside0.mk (blk_below (g := gb333) (o := .cells #[.int .i64 a4_0, .int .i64 a4_1, .int .i64 a4_2, .int .i64 a4_3] 39 (0, 0)) q132_ hb); have n3_ := Aside0.mk (IsS55.below q71_ hb); have n4_ := Aside0.mk (below_step q51_ hb); clear HO_34; clear BK333; clear HI336; clear HB; have HO_34 := n0_; have HO345 := n1_; have BK333 := n2_; have HI336 := n3_; have HB := n4_; clear n0_ n1_ n2_ n3_ n4_; clear hb ho18; obtain ⟨Ao19, co19, eo19⟩ := Kd.R_slice HO345.out; subst eo19))
            go_loopg [46] k1 (fun kq v46 w' => ∃ (x46_2 : Int), v46 = .int .i64 x46_2 ∧ Aside0 (tilefarmlaw12_HistogramCounts.l1 kq a1 a2 (rd y338 x36_1) y338 (y338.length : Int) x36_1 y343 (y343.length : Int) x46_2 a4_0 a4_1 a4_2 a4_3 t334 t335 = some r) ∧ Aside0 (kq ≤ k1) ∧ Aside0 (Kd.R (Kd.int .i64) 3 w' w.heap.size (fun k_ => some k_ ≠ ((.slice Ao19 y343.length co19) : Value).ownBlock) (.slice (some ad341) y338.length co12) y338) ∧ Aside0 (Kd.R (Kd.int .i64) 3 w' w.heap.size (fun k_ => some k_ ≠ ((.slice (some ad341) y338.length co12) : Value).ownBlock) (.slice Ao19 y343.length co19) y343) ∧ Aside0 (w'.heap[gb333]? = some (.cells #[.int .i64 a4_0, .int .i64 a4_1, .int .i64 a4_2, .int .i64 a4_3] 39 (0, 0))) ∧ Aside0 (IsS55 w w' g336 t334 t335) ∧ Aside0 (Below w.heap.size w w'))
            case atStart => exact ⟨(0), q156_, H', ⟨Nat.le_refl _⟩, ⟨by (with_reducible repeat (first | apply Kd.R_alloc | apply Kd.R_drewN | apply Kd.R_drew)); exact Kd.R_mono HO_34.out (fun _ hk => hk.2)⟩, ⟨by (with_reducible repeat (first | apply Kd.R_alloc | apply Kd.R_drewN | apply Kd.R_drew)); exact Kd.R_mono HO345.out (fun _ hk => hk.2)⟩, ⟨q132_⟩, ⟨q71_⟩, ⟨q51_⟩⟩
            case round =>
              clear H'
              try clear c1
              try clear p2
              try clear p3
              try clear q3
              try clear hx3
              try clear c4
              try clear p6
              try clear c8
              try clear c13
              try clear c13b0
              try clear c14
              try clear c14b0
              try clear c15
              try clear c15b0
              try clear hx341_0
              try clear p2
              try clear p341
              try clear p6
              try clear q341
              obtain ⟨x46_2, rfl, HA, HK2, HO_34, HO_44, BK333, HI336, HB⟩ := hrel
              cases gk with
              | zero => exact absurd HA.out (by simp [tilefarmlaw12_HistogramCounts.l1])
              | succ k2 =>
                have H := HA.out
                clear HA
                simp only [tilefarmlaw12_HistogramCounts.l1] at H
                by_cases c20 : x46_2 < (y343.length : Int)
                · rw [if_pos c20] at H
                  have c20b0 : decide (x46_2 < (y343.length : Int)) = true := decide_eq_true c20
                  clear c20
                  by_cases c21 : 0 ≤ x46_2
                  · rw [if_pos c21] at H
                    have c21b0 : decide (0 ≤ x46_2) = true := decide_eq_true c21
                    clear c21
                    by_cases c22 : x46_2 < (y343.length : Int)
                    · rw [if_pos c22] at H
                      have c22b0 : decide (x46_2 < (y343.length : Int)) = true := decide_eq_true c22
                      clear c22
                      replace H := Option.bind_eq_some_iff.mp H
                      obtain ⟨t347, A230, H⟩ := H
                      replace H : ((tilefarmref12_Bin.f a1 (rd y343 x46_2) (rd y338 x36_1)).bind fun t348 => (if t347 = t348 then ((tilefarmgen_Mod.f a1 70000).bind fun t349 => ((histogram_Bin.f t349 (rd y343 x46_2) (rd y338 x36_1)).bind fun t350 => ((tilefarmgen_Mod.f a1 70000).bind fun t351 => ((tilefarmref12_Bin.f t351 (rd y343 x46_2) (rd y338 x36_1)).bind fun t352 => (if t350 = t352 then (tilefarmlaw12_HistogramCounts.l1 k2 a1 a2 (rd y338 x36_1) y338 (y338.length : Int) x36_1 y343 (y343.length : Int) (wrap64 (x46_2 + 1)) a4_0 a4_1 a4_2 a4_3 t334 t335) else (some false)))))) else (some false))) = some r := H
                      have A23 := Aside0.mk A230
                      clear A230
                      replace H := Option.bind_eq_some_iff.mp H
                      obtain ⟨t348, A240, H⟩ := H
                      replace H : (if t347 = t348 then ((tilefarmgen_Mod.f a1 70000).bind fun t349 => ((histogram_Bin.f t349 (rd y343 x46_2) (rd y338 x36_1)).bind fun t350 => ((tilefarmgen_Mod.f a1 70000).bind fun t351 => ((tilefarmref12_Bin.f t351 (rd y343 x46_2) (rd y338 x36_1)).bind fun t352 => (if t350 = t352 then (tilefarmlaw12_HistogramCounts.l1 k2 a1 a2 (rd y338 x36_1) y338 (y338.length : Int) x36_1 y343 (y343.length : Int) (wrap64 (x46_2 + 1)) a4_0 a4_1 a4_2 a4_3 t334 t335) else (some false)))))) else (some false)) = some r := H
                      have A24 := Aside0.mk A240
                      clear A240
                      by_cases c25 : t347 = t348
                      · rw [if_pos c25] at H
                        have c25b0 : (t347 == t348) = true := beq_iff_eq.mpr c25
                        have c25b1 : (t347 != t348) = false := bne_eq_false_iff_eq.mpr c25
                        clear c25
                        replace H := Option.bind_eq_some_iff.mp H
                        obtain ⟨t349, A260, H⟩ := H
                        replace H : ((histogram_Bin.f t349 (rd y343 x46_2) (rd y338 x36_1)).bind fun t350 => ((tilefarmgen_Mod.f a1 70000).bind fun t351 => ((tilefarmref12_Bin.f t351 (rd y343 x46_2) (rd y338 x36_1)).bind fun t352 => (if t350 = t352 then (tilefarmlaw12_HistogramCounts.l1 k2 a1 a2 (rd y338 x36_1) y338 (y338.length : Int) x36_1 y343 (y343.length : Int) (wrap64 (x46_2 + 1)) a4_0 a4_1 a4_2 a4_3 t334 t335) else (some false))))) = some r := H
                        have A26 := Aside0.mk A260
                        clear A260
                        replace H := Option.bind_eq_some_iff.mp H
                        obtain ⟨t350, A270, H⟩ := H
                        replace H : ((tilefarmgen_Mod.f a1 70000).bind fun t351 => ((tilefarmref12_Bin.f t351 (rd y343 x46_2) (rd y338 x36_1)).bind fun t352 => (if t350 = t352 then (tilefarmlaw12_HistogramCounts.l1 k2 a1 a2 (rd y338 x36_1) y338 (y338.length : Int) x36_1 y343 (y343.length : Int) (wrap64 (x46_2 + 1)) a4_0 a4_1 a4_2 a4_3 t334 t335) else (some false)))) = some r := H
                        have A27 := Aside0.mk A270
                        clear A270
                        replace H := Option.bind_eq_some_iff.mp H
                        obtain ⟨t351, A280, H⟩ := H
                        replace H : ((tilefarmref12_Bin.f t351 (rd y343 x46_2) (rd y338 x36_1)).bind fun t352 => (if t350 = t352 then (tilefarmlaw12_HistogramCounts.l1 k2 a1 a2 (rd y338 x36_1) y338 (y338.length : Int) x36_1 y343 (y343.length : Int) (wrap64 (x46_2 + 1)) a4_0 a4_1 a4_2 a4_3 t334 t335) else (some false))) = some r := H
                        have A28 := Aside0.mk A280
                        clear A280
                        replace H := Option.bind_eq_some_iff.mp H
                        obtain ⟨t352, A290, H⟩ := H
                        replace H : (if t350 = t352 then (tilefarmlaw12_HistogramCounts.l1 k2 a1 a2 (rd y338 x36_1) y338 (y338.length : Int) x36_1 y343 (y343.length : Int) (wrap64 (x46_2 + 1)) a4_0 a4_1 a4_2 a4_3 t334 t335) else (some false)) = some r := H
                        have A29 := Aside0.mk A290
                        clear A290
                        by_cases c30 : t350 = t352
                        · rw [if_pos c30] at H
                          have c30b0 : (t350 == t352) = true := beq_iff_eq.mpr c30
                          have c30b1 : (t350 != t352) = false := bne_eq_false_iff_eq.mpr c30
                          clear c30
                          have H' := Aside0.mk H
                          clear H
                          have p346 : 0 ≤ (x46_2 : Int) := of_decide_eq_true q155_
                          have q346 : x46_2 < (y343.length : Int) := of_decide_eq_true q155_
                          obtain ⟨ad346, e346, hx346_0⟩ := Kd.at_int (Kd.R_reads' HO_44.out).2.2 x46_2 p346 q346
                          cases e346
                          replace p346 := eq_true p346
                          replace q346 := eq_true q346
                          have e_same : t349 = t351 := Option.some.inj (A26.out.symm.trans A28.out)
                          subst e_same
                          go_wp2_with (first | ((with_reducible refine gate_callee (f := 15) rfl ?_); refine goesL_ (some 53) rfl rfl Try.func15 (by kernel_rfl) rfl #[.int .i64 a1, .int .i64 (rd y343 x46_2), .int .i64 (rd y338 x36_1)] rfl q100_ ?_; (with_reducible refine (histogram_Bin.calls a1 (rd y343 x46_2) (rd y338 x36_1) t347 _ A23.out).mono ?_); rintro e w' ⟨rfl, ⟨nd, rfl⟩⟩; refine ⟨_, rfl, ?_⟩) | ((with_reducible refine gate_callee (f := 17) rfl ?_); refine goesL_ (some 57) rfl rfl Try.func17 (by kernel_rfl) rfl #[.int .i64 a1, .int .i64 (rd y343 x46_2), .int .i64 (rd y338 x36_1)] rfl q100_ ?_; (with_reducible refine (tilefarmref12_Bin.calls a1 (rd y343 x46_2) (rd y338 x36_1) t348 _ A24.out).mono ?_); rintro e w' ⟨rfl, ⟨nd, rfl⟩⟩; refine ⟨_, rfl, ?_⟩) | (go_at_call 13; (with_reducible refine (tilefarmgen_Mod.calls a1 70000 t349 _ A26.out).mono ?_); rintro e w' ⟨rfl, ⟨nd, rfl⟩⟩) | (go_at_call 15; (with_reducible refine (histogram_Bin.calls t349 (rd y343 x46_2) (rd y338 x36_1) t350 _ A27.out).mono ?_); rintro e w' ⟨rfl, ⟨nd, rfl⟩⟩) | (go_at_call 13; (with_reducible refine (tilefarmgen_Mod.calls a1 70000 t349 _ A28.out).mono ?_); rintro e w' ⟨rfl, ⟨nd, rfl⟩⟩) | (go_at_call 17; (with_reducible refine (tilefarmref12_Bin.calls t349 (rd y343 x46_2) (rd y338 x36_1) t352 _ A29.out).mono ?_); rintro e w' ⟨rfl, ⟨nd, rfl⟩⟩))
                          go_roundg k2
                          case measure => have := HK1.out; have := HK2.out; omega
                          case rel => exact ⟨(wrap64 (x46_2 + 1)), q156_, H', ⟨q157_⟩, ⟨q145_⟩, ⟨by (with_reducible repeat (first | apply Kd.R_alloc | apply Kd.R_drewN | apply Kd.R_drew)); exact HO_44.out⟩, ⟨q132_⟩, ⟨q71_⟩, ⟨q51_⟩⟩
                        · rw [if_neg c30] at H
                          have c30b0 : (t350 == t352) = false := beq_eq_false_iff_ne.mpr c30
                          have c30b1 : (t350 != t352) = true := bne_iff_ne.mpr c30
                          exact absurd ((Option.some.inj H).trans HT.out) (by decide)
                      · rw [if_neg c25] at H
                        have c25b0 : (t347 == t348) = false := beq_eq_false_iff_ne.mpr c25
                        have c25b1 : (t347 != t348) = true := bne_iff_ne.mpr c25
                        exact absurd ((Option.some.inj H).trans HT.out) (by decide)
                    · rw [if_neg c22] at H
                      exact absurd H (by simp)
                  · rw [if_neg c21] at H
                    exact absurd H (by simp)
                · rw [if_neg c20] at H
                  have c20b0 : decide (x46_2 < (y343.length : Int)) = false := decide_eq_false c20
                  clear c20
                  have H' := Aside0.mk H
                  clear H
                  go_wp2
                  go_roundg k2
                  case measure => have := HK1.out; have := HK2.out; omega
                  case rel => exact ⟨(wrap64 (x36_1 + 1)), q156_, H', ⟨q157_⟩, ⟨by (with_reducible repeat (first | apply Kd.R_alloc | apply Kd.R_drewN | apply Kd.R_drew)); exact Kd.R_mono HO_34.out (fun _ hk => trivial)⟩, ⟨q132_⟩, ⟨q71_⟩, ⟨q51_⟩⟩
          · rw [if_neg c15] at H
            exact absurd H (by simp)
        · rw [if_neg c14] at H
          exact absurd H (by simp)
      · rw [if_neg c13] at H
        have c13b0 : decide (x36_1 < (y338.length : Int)) = false := decide_eq_false c13
        clear c13
        have H' := Aside0.mk H
        clear H
        go_wp2
        go_loopg [16] k1 (fun kq v16 w' => ∃ (x16_2 : Int) (x337001_2 : Int), v16 = .int .i64 x16_2 ∧ Aside0 (tilefarmlaw12_HistogramCounts.l2 kq x16_2 a4_0 a4_1 a4_2 a4_3 t334 x337001_2 = some r) ∧ Aside0 (kq ≤ k1) ∧ Aside0 (w'.heap[gb333]? = some (.cells #[.int .i64 a4_0, .int .i64 a4_1, .int .i64 a4_2, .int .i64 a4_3] 39 (0, 0))) ∧ Aside0 (IsS55 w w' g336 t334 x337001_2) ∧ Aside0 (Below w.heap.size w w'))
        case atStart => exact ⟨(0), (t335), q156_, H', ⟨Nat.le_refl _⟩, ⟨q132_⟩, ⟨q71_⟩, ⟨q51_⟩⟩
        case round =>
          clear H'
          try clear c1
          try clear c2
          try clear p2
          try clear c3
          try clear p3
          try clear q3
          try clear hx3
          try clear c4
          try clear p6
          try clear c8
          try clear c13
          try clear c13b0
          try clear c14
          try clear c14b0
          try clear c15
          try clear c15b0
          try clear c17
          try clear c20
          try clear c20b0
          try clear c21
          try clear c21b0
          try clear c22
          try clear c22b0
          try clear c25
          try clear c25b0
          try clear c25b1
          try clear c30
          try clear c30b0
          try clear c30b1
          try clear hx341_0
          try clear hx346_0
          try clear p2
          try clear p3
          try clear p341
          try clear p346
          try clear p6
          try clear q3
          try clear q341
          try clear q346
          obtain ⟨x16_2, x337001_2, rfl, HA, HK2, BK333, HI336, HB⟩ := hrel
          cases gk with
          | zero => exact absurd HA.out (by simp [tilefarmlaw12_HistogramCounts.l2])
          | succ k2 =>
            have H := HA.out
            clear HA
            simp only [tilefarmlaw12_HistogramCounts.l2] at H
            by_cases c31 : x16_2 < 3
            · rw [if_pos c31] at H
              have c31b0 : decide (x16_2 < 3) = true := decide_eq_true c31
              clear c31
              replace H := Option.bind_eq_some_iff.mp H
              obtain ⟨⟨t354, t355, t356, t357, t360⟩, A320, H⟩ := H
              replace H : ((tilefarmgen_Tape_Pick.f t334 t360 (([4, 1, 0, 7, 128, 129] : List Int))).bind fun bt364 => ((tilefarmgen_Tape_Within.f t334 bt364.2 t354 t355).bind fun bt367 => (if x16_2 = 2 then (tilefarmlaw12_HistogramCounts.j3 k2 x16_2 bt364.1 a4_0 a4_1 a4_2 a4_3 t334 bt367.2.2.2.2 t354 t355 t356 t357 a4_0 a4_1 a4_2 a4_3) else (tilefarmlaw12_HistogramCounts.j3 k2 x16_2 bt364.1 a4_0 a4_1 a4_2 a4_3 t334 bt367.2.2.2.2 t354 t355 t356 t357 bt367.1 bt367.2.1 bt367.2.2.1 bt367.2.2.2.1)))) = some r := H
              have A32 := Aside0.mk A320
              clear A320
              obtain ⟨y361, hy361⟩ : ∃ y_ : List Int, y_ = (([4, 1, 0, 7, 128, 129] : List Int)) := ⟨_, rfl⟩
              replace H : ((tilefarmgen_Tape_Pick.f t334 t360 y361).bind fun bt364 => ((tilefarmgen_Tape_Within.f t334 bt364.2 t354 t355).bind fun bt367 => (if x16_2 = 2 then (tilefarmlaw12_HistogramCounts.j3 k2 x16_2 bt364.1 a4_0 a4_1 a4_2 a4_3 t334 bt367.2.2.2.2 t354 t355 t356 t357 a4_0 a4_1 a4_2 a4_3) else (tilefarmlaw12_HistogramCounts.j3 k2 x16_2 bt364.1 a4_0 a4_1 a4_2 a4_3 t334 bt367.2.2.2.2 t354 t355 t356 t357 bt367.1 bt367.2.1 bt367.2.2.1 bt367.2.2.2.1)))) = some r := by first | (rw [hy361]; with_reducible exact H) | (have H2_ := (Option.bind_some _ _).symm.trans H; rw [hy361]; with_reducible exact H2_) | (have H2_ := (Option.bind_some _ _).symm.trans H; with_reducible exact H2_) | with_reducible exact H | (rw [hy361]; exact H) | exact H
              have Ny361 := Aside0.mk hy361
              clear hy361
              replace H := Option.bind_eq_some_iff.mp H
              obtain ⟨⟨t364, t365⟩, A330, H⟩ := H
              replace H : ((tilefarmgen_Tape_Within.f t334 t365 t354 t355).bind fun bt367 => (if x16_2 = 2 then (tilefarmlaw12_HistogramCounts.j3 k2 x16_2 t364 a4_0 a4_1 a4_2 a4_3 t334 bt367.2.2.2.2 t354 t355 t356 t357 a4_0 a4_1 a4_2 a4_3) else (tilefarmlaw12_HistogramCounts.j3 k2 x16_2 t364 a4_0 a4_1 a4_2 a4_3 t334 bt367.2.2.2.2 t354 t355 t356 t357 bt367.1 bt367.2.1 bt367.2.2.1 bt367.2.2.2.1))) = some r := H
              have A33 := Aside0.mk A330
              clear A330
              replace H := Option.bind_eq_some_iff.mp H
              obtain ⟨⟨t367, t368, t369, t370, t371⟩, A340, H⟩ := H
              replace H : (if x16_2 = 2 then (tilefarmlaw12_HistogramCounts.j3 k2 x16_2 t364 a4_0 a4_1 a4_2 a4_3 t334 t371 t354 t355 t356 t357 a4_0 a4_1 a4_2 a4_3) else (tilefarmlaw12_HistogramCounts.j3 k2 x16_2 t364 a4_0 a4_1 a4_2 a4_3 t334 t371 t354 t355 t356 t357 t367 t368 t369 t370)) = some r := H
              have A34 := Aside0.mk A340
              clear A340
              have HC35 := Aside0.mk H
              clear H
              go_upto_if 90 with (first | ((with_reducible refine gate_callee (f := 9) rfl ?_); refine goesL_ (some 79) rfl rfl Try.func9 (by kernel_rfl) rfl #[.pointer (some ⟨g336, 0, none⟩)] rfl q100_ ?_; (with_reducible refine (tilefarmgen_Tape_Plane.calls k2 g336 t334 x337001_2 t354 t355 t356 t357 t360 w _ ?side1 ?side2 A32.out).mono ?_); (case side1 => repeat (first | (with_reducible first | exact HI336.out | apply IsS55.alloc | apply IsS55.drewN | apply IsS55.drew | apply IsS55.set_1 | refine IsS55.far ?_ NB336_333.out _) | exact HI336.out)); (case side2 => repeat (first | (with_reducible first | exact HB.out | apply below_alloc | apply pw_below_drewN | apply below_drew1 | refine below_set ?_ (IsS55.ge HI336.out) | refine below_set ?_ GE333.out) | exact HB.out)); rintro e w36 ⟨v358, rfl, ho0, hi, hb, hk⟩; refine ⟨_, rfl, ?_⟩; have n0_ := Aside0.mk (KeepBut.blk hk (g' := gb333) (o := .cells #[.int .i64 a4_0, .int .i64 a4_1, .int .i64 a4_2, .int .i64 a4_3] 39 (0, 0)) q132_ NB333_336.out (by simp)); have n1_ := Aside0.mk (Kd.R_lower ho0 (below_size q51_)); have n2_ := Aside0.mk (hb); have n3_ := Aside0.mk (hi); clear BK333; clear HB; clear HI336; have BK333 := n0_; have HO359 := n1_; have HB := n2_; have HI336 := n3_; clear n0_ n1_ n2_ n3_; (try clear hb); (try clear hb2); (try clear hk); (try clear hi); (try clear ho0)) | ((with_reducible refine gate_dst (N := 81) rfl ?_); refine Kd.R_lit (Kd.int .i64) _ 3 ?hg (N := 81) ?hd (xs := ([4, 1, 0, 7, 128, 129] : List Int)) (inner := [.int .i64 4, .int .i64 1, .int .i64 0, .int .i64 7, .int .i64 128, .int .i64 129]) (ok := fun _ => True) (okp := fun _ => True) ?hr ?hp (fun _ hk => hk) trivial (Below.refl _ _) (Nat.le_refl _) (by simp) ?_; (case hd => rfl); (case hg => rfl); (case hr => first | (go_simp; done) | (go_simp; rfl)); (case hp => exact (Reps.one (show Kd.M (Kd.int .i64) _ _ _ 4 [.int .i64 4] from rfl) (Reps.one (show Kd.M (Kd.int .i64) _ _ _ 1 [.int .i64 1] from rfl) (Reps.one (show Kd.M (Kd.int .i64) _ _ _ 0 [.int .i64 0] from rfl) (Reps.one (show Kd.M (Kd.int .i64) _ _ _ 7 [.int .i64 7] from rfl) (Reps.one (show Kd.M (Kd.int .i64) _ _ _ 128 [.int .i64 128] from rfl) (Reps.one (show Kd.M (Kd.int .i64) _ _ _ 129 [.int .i64 129] from rfl) (Reps.none _ _)))))))); intro v362 w37 ho38 hb hg_ hnew_; clear hg_ hnew_; (first | rw [← Ny361.out] at ho38 | (simp only [Int.reduceToNat] at ho38; rw [← Ny361.out] at ho38)); have n0_ := Aside0.mk (Kd.R_elder' q146_ (Kd.R_base ho38) hb); have n1_ := Aside0.mk (Kd.R_lower (Kd.R_new' ho38 (Kd.R_lt q146_)) (below_size q51_)); have n2_ := Aside0.mk (blk_below (g := gb333) (o := .cells #[.int .i64 a4_0, .int .i64 a4_1, .int .i64 a4_2, .int .i64 a4_3] 39 (0, 0)) q132_ hb); have n3_ := Aside0.mk (IsS55.below q71_ hb); have n4_ := Aside0.mk (below_step q51_ hb); clear HO359; clear BK333; clear HI336; clear HB; have HO359 := n0_; have HO363 := n1_; have BK333 := n2_; have HI336 := n3_; have HB := n4_; clear n0_ n1_ n2_ n3_ n4_; clear hb ho38; obtain ⟨Ao39, co39, eo39⟩ := Kd.R_slice HO363.out; subst eo39) | ((with_reducible refine gate_callee (f := 18) rfl ?_); refine goesL_ (some 82) rfl rfl Try.func18 (by kernel_rfl) rfl #[.pointer (some ⟨g336, 0, none⟩), .slice Ao39 y361.length co39] rfl q100_ ?_; (with_reducible refine (tilefarmgen_Tape_Pick.calls g336 t334 t360 _ _ y361 t364 t365 w _ ?side1 ?side2 ?side3 ?side4 ?side5 A33.out).mono ?_); (case side1 => repeat (first | (with_reducible first | exact HI336.out | apply IsS55.alloc | apply IsS55.drewN | apply IsS55.drew | apply IsS55.set_1 | refine IsS55.far ?_ NB336_333.out _) | exact HI336.out)); (case side2 => repeat (first | (with_reducible first | exact HB.out | apply below_alloc | apply pw_below_drewN | apply below_drew1 | refine below_set ?_ (IsS55.ge HI336.out) | refine below_set ?_ GE333.out) | exact HB.out)); (case side3 => repeat (first | exact (Kd.R_reads' HO363.out).2.2 | (with_reducible refine Kd.C_alloc ?_ _) | (with_reducible refine Kd.C_drewN ?_ _) | (with_reducible refine Kd.C_drew ?_))); (case side4 => exact (Kd.R_reads' HO363.out).2.1); (case side5 => exact far_slice (IsS55.own_ne HI336.out HO363.out (by decide))); rintro e w40 ⟨rfl, hi, hb, hk⟩; refine ⟨_, rfl, ?_⟩; have n0_ := Aside0.mk (KeepBut.blk hk (g' := gb333) (o := .cells #[.int .i64 a4_0, .int .i64 a4_1, .int .i64 a4_2, .int .i64 a4_3] 39 (0, 0)) q132_ NB333_336.out (by simp)); have n1_ := Aside0.mk (Kd.R_mono (Kd.R_keep (IsS55.apart (show IsS55 w _ g336 t334 t360 from by repeat (first | (with_reducible first | exact HI336.out | apply IsS55.alloc | apply IsS55.drewN | apply IsS55.drew | apply IsS55.set_1 | refine IsS55.far ?_ NB336_333.out _) | exact HI336.out)) q146_ (by decide)) hk (fun _ h => h.2)) (fun _ h => h.1)); have n2_ := Aside0.mk (Kd.R_mono (Kd.R_keep (IsS55.apart (show IsS55 w _ g336 t334 t360 from by repeat (first | (with_reducible first | exact HI336.out | apply IsS55.alloc | apply IsS55.drewN | apply IsS55.drew | apply IsS55.set_1 | refine IsS55.far ?_ NB336_333.out _) | exact HI336.out)) q147_ (by decide)) hk (fun _ h => h.2)) (fun _ h => h.1)); have n3_ := Aside0.mk (hb); have n4_ := Aside0.mk (hi); clear BK333; clear HO359; clear HO363; clear HB; clear HI336; have BK333 := n0_; have HO359 := n1_; have HO363 := n2_; have HB := n3_; have HI336 := n4_; clear n0_ n1_ n2_ n3_ n4_; (try clear hb); (try clear hb2); (try clear hk); (try clear hi)) | ((with_reducible refine gate_dst (N := 17) rfl ?_); refine box_event ?hg (N := 17) ?hd (cs := #[.int .i64 0, .int .i64 0, .int .i64 0, .slice none 0 0]) (t := 26) ?hr ?_; (case hd => rfl); (case hg => rfl); (case hr => first | (go_simp; done) | (go_simp; rfl)); intro gb366 hg w41 hbox hb; have n0_ := Aside0.mk (Kd.R_below q146_ hb); have n1_ := Aside0.mk (Kd.R_below q147_ hb); have n2_ := Aside0.mk (blk_below (g := gb333) (o := .cells #[.int .i64 a4_0, .int .i64 a4_1, .int .i64 a4_2, .int .i64 a4_3] 39 (0, 0)) q132_ hb); have n3_ := Aside0.mk (IsS55.below q71_ hb); have n4_ := Aside0.mk (below_step q51_ hb); have n5_ := Aside0.mk (hbox); have n6_ := Aside0.mk ((by rw [hg]; exact (below_size q51_) : w.heap.size ≤ gb366)); have n7_ := Aside0.mk ((by rw [hg]; exact (below_size q51_) : w.heap.size ≤ gb366)); have n8_ := Aside0.mk ((q26_ : gb333 ≠ gb366)); have n9_ := Aside0.mk ((q27_ : gb366 ≠ gb333)); have n10_ := Aside0.mk ((by rw [hg]; exact Nat.ne_of_lt (IsS55.lt (show IsS55 w _ g336 t334 t365 from by repeat (first | (with_reducible first | exact HI336.out | apply IsS55.alloc | apply IsS55.drewN | apply IsS55.drew | apply IsS55.set_1 | refine IsS55.far ?_ NB336_333.out _) | exact HI336.out))) : g336 ≠ gb366)); have n11_ := Aside0.mk ((by rw [hg]; exact Nat.ne_of_gt (IsS55.lt (show IsS55 w _ g336 t334 t365 from by repeat (first | (with_reducible first | exact HI336.out | apply IsS55.alloc | apply IsS55.drewN | apply IsS55.drew | apply IsS55.set_1 | refine IsS55.far ?_ NB336_333.out _) | exact HI336.out))) : gb366 ≠ g336)); clear HO359; clear HO363; clear BK333; clear HI336; clear HB; have HO359 := n0_; have HO363 := n1_; have BK333 := n2_; have HI336 := n3_; have HB := n4_; have BK366 := n5_; have GW366 := n6_; have GE366 := n7_; have NB333_366 := n8_; have NB366_333 := n9_; have NB336_366 := n10_; have NB366_336 := n11_; clear n0_ n1_ n2_ n3_ n4_ n5_ n6_ n7_ n8_ n9_ n10_ n11_; clear hb hbox hg; have hnb42 := NB366_333.out; have hnc42 := NB333_366.out; have hnb43 := NB366_336.out; have hnc43 := NB336_366.out; have hcz44_0 : w41.cell? ⟨gb366, 0, none⟩ = some (.int .i64 0) := (blk_cell BK366.out 0).trans rfl; have hcz44_1 : w41.cell? ⟨gb366, 1, none⟩ = some (.int .i64 0) := (blk_cell BK366.out 1).trans rfl; have hcz44_2 : w41.cell? ⟨gb366, 2, none⟩ = some (.int .i64 0) := (blk_cell BK366.out 2).trans rfl; have hcz44_3 : w41.cell? ⟨gb366, 3, none⟩ = some (.slice none 0 0) := (blk_cell BK366.out 3).trans rfl; have hfz44_0 := blk_frozen BK366.out 0; have hfz44_1 := blk_frozen BK366.out 1; have hfz44_2 := blk_frozen BK366.out 2; have hfz44_3 := blk_frozen BK366.out 3; obtain ⟨Ao45, co45, eo45⟩ := Kd.R_slice HO359.out; subst eo45) | ((with_reducible refine gate_callee (f := 19) rfl ?_); refine goesL_ (some 88) rfl rfl Try.func19 (by kernel_rfl) rfl #[.pointer (some ⟨g336, 0, none⟩), .int .i64 t354, .int .i64 t355] rfl q100_ ?_; (with_reducible refine (tilefarmgen_Tape_Within.calls g336 t334 t365 t354 t355 t367 t368 t369 t370 t371 w _ ?side1 ?side2 A34.out).mono ?_); (case side1 => repeat (first | (with_reducible first | exact HI336.out | apply IsS55.alloc | apply IsS55.drewN | apply IsS55.drew | apply IsS55.set_1 | refine IsS55.far ?_ NB336_333.out _ | refine IsS55.far ?_ NB336_366.out _) | exact HI336.out)); (case side2 => repeat (first | (with_reducible first | exact HB.out | apply below_alloc | apply pw_below_drewN | apply below_drew1 | refine below_set ?_ (IsS55.ge HI336.out) | refine below_set ?_ GE333.out | refine below_set ?_ GE366.out) | exact HB.out)); rintro e w46 ⟨rfl, hi, hb, hk⟩; refine ⟨_, rfl, ?_⟩; have n0_ := Aside0.mk (KeepBut.blk hk (g' := gb333) (o := .cells #[.int .i64 a4_0, .int .i64 a4_1, .int .i64 a4_2, .int .i64 a4_3] 39 (0, 0)) (by (with_reducible repeat (first | refine blk_drewN ?_ _ | refine blk_drew ?_ | refine blk_alloc ?_ _)); refine blk_far ?_ NB333_366.out _; (with_reducible repeat (first | refine blk_drewN ?_ _ | refine blk_drew ?_ | refine blk_alloc ?_ _)); refine blk_far ?_ NB333_366.out _; (with_reducible repeat (first | refine blk_drewN ?_ _ | refine blk_drew ?_ | refine blk_alloc ?_ _)); refine blk_far ?_ NB333_366.out _; (with_reducible repeat (first | refine blk_drewN ?_ _ | refine blk_drew ?_ | refine blk_alloc ?_ _)); refine blk_far ?_ NB333_366.out _; (with_reducible repeat (first | refine blk_drewN ?_ _ | refine blk_drew ?_ | refine blk_alloc ?_ _)); exact BK333.out) NB333_336.out (by simp)); have n1_ := Aside0.mk (Kd.R_mono (Kd.R_keep (IsS55.apart (show IsS55 w _ g336 t334 t365 from by repeat (first | (with_reducible first | exact HI336.out | apply IsS55.alloc | apply IsS55.drewN | apply IsS55.drew | apply IsS55.set_1 | refine IsS55.far ?_ NB336_333.out _ | refine IsS55.far ?_ NB336_366.out _) | exact HI336.out)) (by (with_reducible repeat (first | apply Kd.R_alloc | apply Kd.R_drewN | apply Kd.R_drew)); exact (Kd.R_mono (Kd.R_far (p := ⟨gb366, 3, none⟩) (Kd.R_far (p := ⟨gb366, 2, none⟩) (Kd.R_far (p := ⟨gb366, 1, none⟩) (Kd.R_far (p := ⟨gb366, 0, none⟩) (Kd.R_types HO359.out BK366.out (by decide)) (fun _ hk => hk.2) (.int .i64 t354)) (fun _ hk => hk.2) (.int .i64 t355)) (fun _ hk => hk.2) (.int .i64 t356)) (fun _ hk => hk.2) (.slice Ao45 t357.length co45)) (fun _ h_ => h_.1))) (by decide)) hk (fun _ h => h.2)) (fun _ h => h.1)); have n2_ := Aside0.mk (Kd.R_mono (Kd.R_keep (IsS55.apart (show IsS55 w _ g336 t334 t365 from by repeat (first | (with_reducible first | exact HI336.out | apply IsS55.alloc | apply IsS55.drewN | apply IsS55.drew | apply IsS55.set_1 | refine IsS55.far ?_ NB336_333.out _ | refine IsS55.far ?_ NB336_366.out _) | exact HI336.out)) (by (with_reducible repeat (first | apply Kd.R_alloc | apply Kd.R_drewN | apply Kd.R_drew)); exact (Kd.R_mono (Kd.R_far (p := ⟨gb366, 3, none⟩) (Kd.R_far (p := ⟨gb366, 2, none⟩) (Kd.R_far (p := ⟨gb366, 1, none⟩) (Kd.R_far (p := ⟨gb366, 0, none⟩) (Kd.R_types HO363.out BK366.out (by decide)) (fun _ hk => hk.2) (.int .i64 t354)) (fun _ hk => hk.2) (.int .i64 t355)) (fun _ hk => hk.2) (.int .i64 t356)) (fun _ hk => hk.2) (.slice Ao45 t357.length co45)) (fun _ h_ => h_.1))) (by decide)) hk (fun _ h => h.2)) (fun _ h => h.1)); have n3_ := Aside0.mk (KeepBut.blk hk (g' := gb366) (o := .cells #[.int .i64 t354, .int .i64 t355, .int .i64 t356, .slice Ao45 t357.length co45] 26 (0, 0)) (by (with_reducible repeat (first | refine blk_drewN ?_ _ | refine blk_drew ?_ | refine blk_alloc ?_ _)); refine blk_put (cs := #[.int .i64 t354, .int .i64 t355, .int .i64 t356, .slice none 0 0]) ?_ 3 _ rfl; (with_reducible repeat (first | refine blk_drewN ?_ _ | refine blk_drew ?_ | refine blk_alloc ?_ _)); refine blk_put (cs := #[.int .i64 t354, .int .i64 t355, .int .i64 0, .slice none 0 0]) ?_ 2 _ rfl; (with_reducible repeat (first | refine blk_drewN ?_ _ | refine blk_drew ?_ | refine blk_alloc ?_ _)); refine blk_put (cs := #[.int .i64 t354, .int .i64 0, .int .i64 0, .slice none 0 0]) ?_ 1 _ rfl; (with_reducible repeat (first | refine blk_drewN ?_ _ | refine blk_drew ?_ | refine blk_alloc ?_ _)); refine blk_put (cs := #[.int .i64 0, .int .i64 0, .int .i64 0, .slice none 0 0]) ?_ 0 _ rfl; (with_reducible repeat (first | refine blk_drewN ?_ _ | refine blk_drew ?_ | refine blk_alloc ?_ _)); exact BK366.out) NB366_336.out (by simp)); have n4_ := Aside0.mk (hb); have n5_ := Aside0.mk (hi); clear BK333; clear HO359; clear HO363; clear BK366; clear HB; clear HI336; have BK333 := n0_; have HO359 := n1_; have HO363 := n2_; have BK366 := n3_; have HB := n4_; have HI336 := n5_; clear n0_ n1_ n2_ n3_ n4_ n5_; (try clear hb); (try clear hb2); (try clear hk); (try clear hi)) | ((with_reducible refine gate_dst (N := 19) rfl ?_); refine box_event ?hg (N := 19) ?hd (cs := #[.int .i64 0, .int .i64 0, .int .i64 0, .int .i64 0]) (t := 39) ?hr ?_; (case hd => rfl); (case hg => rfl); (case hr => first | (go_simp; done) | (go_simp; rfl)); intro gb372 hg w47 hbox hb; have n0_ := Aside0.mk (Kd.R_below q146_ hb); have n1_ := Aside0.mk (Kd.R_below q147_ hb); have n2_ := Aside0.mk (blk_below (g := gb333) (o := .cells #[.int .i64 a4_0, .int .i64 a4_1, .int .i64 a4_2, .int .i64 a4_3] 39 (0, 0)) q132_ hb); have n3_ := Aside0.mk (IsS55.below (by repeat (first | (with_reducible first | exact HI336.out | apply IsS55.alloc | apply IsS55.drewN | apply IsS55.drew | apply IsS55.set_1 | refine IsS55.far ?_ NB336_333.out _ | refine IsS55.far ?_ NB336_366.out _) | exact HI336.out)) hb); have n4_ := Aside0.mk (blk_below (g := gb366) (o := .cells #[.int .i64 t354, .int .i64 t355, .int .i64 t356, .slice Ao45 t357.length co45] 26 (0, 0)) q133_ hb); have n5_ := Aside0.mk (below_step q37_ hb); have n6_ := Aside0.mk (hbox); have n7_ := Aside0.mk ((by rw [hg]; exact (below_size q37_) : w.heap.size ≤ gb372)); have n8_ := Aside0.mk ((by rw [hg]; exact (below_size q37_) : w.heap.size ≤ gb372)); have n9_ := Aside0.mk ((q26_ : gb333 ≠ gb372)); have n10_ := Aside0.mk ((q27_ : gb372 ≠ gb333)); have n11_ := Aside0.mk ((by rw [hg]; exact Nat.ne_of_lt (blk_lt (g := gb366) (o := .cells #[.int .i64 t354, .int .i64 t355, .int .i64 t356, .slice Ao45 t357.length co45] 26 (0, 0)) q133_) : gb366 ≠ gb372)); have n12_ := Aside0.mk ((by rw [hg]; exact Nat.ne_of_gt (blk_lt (g := gb366) (o := .cells #[.int .i64 t354, .int .i64 t355, .int .i64 t356, .slice Ao45 t357.length co45] 26 (0, 0)) q133_) : gb372 ≠ gb366)); have n13_ := Aside0.mk ((by rw [hg]; exact Nat.ne_of_lt (IsS55.lt (show IsS55 w _ g336 t334 t371 from by repeat (first | (with_reducible first | exact HI336.out | apply IsS55.alloc | apply IsS55.drewN | apply IsS55.drew | apply IsS55.set_1 | refine IsS55.far ?_ NB336_333.out _ | refine IsS55.far ?_ NB336_366.out _) | exact HI336.out))) : g336 ≠ gb372)); have n14_ := Aside0.mk ((by rw [hg]; exact Nat.ne_of_gt (IsS55.lt (show IsS55 w _ g336 t334 t371 from by repeat (first | (with_reducible first | exact HI336.out | apply IsS55.alloc | apply IsS55.drewN | apply IsS55.drew | apply IsS55.set_1 | refine IsS55.far ?_ NB336_333.out _ | refine IsS55.far ?_ NB336_366.out _) | exact HI336.out))) : gb372 ≠ g336)); clear HO359; clear HO363; clear BK333; clear HI336; clear BK366; clear HB; have HO359 := n0_; have HO363 := n1_; have BK333 := n2_; have HI336 := n3_; have BK366 := n4_; have HB := n5_; have BK372 := n6_; have GW372 := n7_; have GE372 := n8_; have NB333_372 := n9_; have NB372_333 := n10_; have NB366_372 := n11_; have NB372_366 := n12_; have NB336_372 := n13_; have NB372_336 := n14_; clear n0_ n1_ n2_ n3_ n4_ n5_ n6_ n7_ n8_ n9_ n10_ n11_ n12_ n13_ n14_; clear hb hbox hg; have hnb48 := NB372_333.out; have hnc48 := NB333_372.out; have hnb49 := NB372_366.out; have hnc49 := NB366_372.out; have hnb50 := NB372_336.out; have hnc50 := NB336_372.out; have hcz51_0 : w47.cell? ⟨gb372, 0, none⟩ = some (.int .i64 0) := (blk_cell BK372.out 0).trans rfl; have hcz51_1 : w47.cell? ⟨gb372, 1, none⟩ = some (.int .i64 0) := (blk_cell BK372.out 1).trans rfl; have hcz51_2 : w47.cell? ⟨gb372, 2, none⟩ = some (.int .i64 0) := (blk_cell BK372.out 2).trans rfl; have hcz51_3 : w47.cell? ⟨gb372, 3, none⟩ = some (.int .i64 0) := (blk_cell BK372.out 3).trans rfl; have hfz51_0 := blk_frozen BK372.out 0; have hfz51_1 := blk_frozen BK372.out 1; have hfz51_2 := blk_frozen BK372.out 2; have hfz51_3 := blk_frozen BK372.out 3))
              (try simp only [Act.put, List.setIfInBounds_toArray, List.set_cons_zero, List.set_cons_succ])
              go_cut [] (fun wc => ∃ (kq : Nat) (x373000_34 : Int) (x373001_34 : Int) (x373002_34 : Int) (x373003_34 : Int), Aside0 (tilefarmlaw12_HistogramCounts.j3 kq x16_2 t364 a4_0 a4_1 a4_2 a4_3 t334 t371 t354 t355 t356 t357 x373000_34 x373001_34 x373002_34 x373003_34 = some r) ∧ Aside0 (kq ≤ k2) ∧ Aside0 (Kd.R (Kd.int .i64) 3 wc w.heap.size (fun _ => True) (.slice Ao45 t357.length co45) t357) ∧ Aside0 (wc.heap[gb333]? = some (.cells #[.int .i64 a4_0, .int .i64 a4_1, .int .i64 a4_2, .int .i64 a4_3] 39 (0, 0))) ∧ Aside0 (wc.heap[gb366]? = some (.cells #[.int .i64 t354, .int .i64 t355, .int .i64 t356, (.slice Ao45 t357.length co45)] 26 (0, 0))) ∧ Aside0 (wc.heap[gb372]? = some (.cells #[.int .i64 x373000_34, .int .i64 x373001_34, .int .i64 x373002_34, .int .i64 x373003_34] 39 (0, 0))) ∧ Aside0 (IsS55 w wc g336 t334 t371) ∧ Aside0 (Below w.heap.size w wc))
              case first =>
                have H := HC35.out
                clear HC35
                by_cases c52 : x16_2 = 2
                · rw [if_pos c52] at H
                  have c52b0 : (x16_2 == 2) = true := beq_iff_eq.mpr c52
                  have c52b1 : (x16_2 != 2) = false := bne_eq_false_iff_eq.mpr c52
                  clear c52
                  (first | rw [c52b0] | (simp only [i64_w, i32_w]; rw [c52b0]) | skip)
                  have H' := Aside0.mk H
                  clear H
                  have hnb53 := NB333_366.out
                  have hnc53 := NB366_333.out
                  have hnb54 := NB333_372.out
                  have hnc54 := NB372_333.out
                  have hnb55 := NB333_336.out
                  have hnc55 := NB336_333.out
                  have hcz56_0 : w47.cell? ⟨gb333, 0, none⟩ = some (.int .i64 a4_0) := (blk_cell BK333.out 0).trans rfl
                  have hcz56_1 : w47.cell? ⟨gb333, 1, none⟩ = some (.int .i64 a4_1) := (blk_cell BK333.out 1).trans rfl
                  have hcz56_2 : w47.cell? ⟨gb333, 2, none⟩ = some (.int .i64 a4_2) := (blk_cell BK333.out 2).trans rfl
                  have hcz56_3 : w47.cell? ⟨gb333, 3, none⟩ = some (.int .i64 a4_3) := (blk_cell BK333.out 3).trans rfl
                  have hfz56_0 := blk_frozen BK333.out 0
                  have hfz56_1 := blk_frozen BK333.out 1
                  have hfz56_2 := blk_frozen BK333.out 2
                  have hfz56_3 := blk_frozen BK333.out 3
                  have hnb57 := NB372_366.out
                  have hnc57 := NB366_372.out
                  have hnb58 := NB372_336.out
                  have hnc58 := NB336_372.out
                  have hcz59_0 : w47.cell? ⟨gb372, 0, none⟩ = some (.int .i64 0) := (blk_cell BK372.out 0).trans rfl
                  have hcz59_1 : w47.cell? ⟨gb372, 1, none⟩ = some (.int .i64 0) := (blk_cell BK372.out 1).trans rfl
                  have hcz59_2 : w47.cell? ⟨gb372, 2, none⟩ = some (.int .i64 0) := (blk_cell BK372.out 2).trans rfl
                  have hcz59_3 : w47.cell? ⟨gb372, 3, none⟩ = some (.int .i64 0) := (blk_cell BK372.out 3).trans rfl
                  have hfz59_0 := blk_frozen BK372.out 0
                  have hfz59_1 := blk_frozen BK372.out 1
                  have hfz59_2 := blk_frozen BK372.out 2
                  have hfz59_3 := blk_frozen BK372.out 3
                  go_wp2
                  go_meet
                  case rel => exact ⟨_, (a4_0), (a4_1), (a4_2), (a4_3), H', ⟨by have := HK1.out; have := HK2.out; first | omega | exact Nat.le_refl _⟩, ⟨by (with_reducible repeat (first | apply Kd.R_alloc | apply Kd.R_drewN | apply Kd.R_drew)); exact Kd.R_mono (Kd.R_far (p := ⟨gb372, 3, none⟩) (Kd.R_far (p := ⟨gb372, 2, none⟩) (Kd.R_far (p := ⟨gb372, 1, none⟩) (Kd.R_far (p := ⟨gb372, 0, none⟩) (Kd.R_far (p := ⟨gb372, 3, none⟩) (Kd.R_far (p := ⟨gb372, 2, none⟩) (Kd.R_far (p := ⟨gb372, 1, none⟩) (Kd.R_far (p := ⟨gb372, 0, none⟩) (Kd.R_types HO359.out BK372.out (by decide)) (fun _ hk => hk.2) (.int .i64 t367)) (fun _ hk => hk.2) (.int .i64 t368)) (fun _ hk => hk.2) (.int .i64 t369)) (fun _ hk => hk.2) (.int .i64 t370)) (fun _ hk => hk.2) (.int .i64 a4_0)) (fun _ hk => hk.2) (.int .i64 a4_1)) (fun _ hk => hk.2) (.int .i64 a4_2)) (fun _ hk => hk.2) (.int .i64 a4_3)) (fun _ hk => trivial)⟩, ⟨by (with_reducible repeat (first | refine blk_drewN ?_ _ | refine blk_drew ?_ | refine blk_alloc ?_ _)); refine blk_far ?_ NB333_372.out _; (with_reducible repeat (first | refine blk_drewN ?_ _ | refine blk_drew ?_ | refine blk_alloc ?_ _)); refine blk_far ?_ NB333_372.out _; (with_reducible repeat (first | refine blk_drewN ?_ _ | refine blk_drew ?_ | refine blk_alloc ?_ _)); refine blk_far ?_ NB333_372.out _; (with_reducible repeat (first | refine blk_drewN ?_ _ | refine blk_drew ?_ | refine blk_alloc ?_ _)); refine blk_far ?_ NB333_372.out _; (with_reducible repeat (first | refine blk_drewN ?_ _ | refine blk_drew ?_ | refine blk_alloc ?_ _)); refine blk_far ?_ NB333_372.out _; (with_reducible repeat (first | refine blk_drewN ?_ _ | refine blk_drew ?_ | refine blk_alloc ?_ _)); refine blk_far ?_ NB333_372.out _; (with_reducible repeat (first | refine blk_drewN ?_ _ | refine blk_drew ?_ | refine blk_alloc ?_ _)); refine blk_far ?_ NB333_372.out _; (with_reducible repeat (first | refine blk_drewN ?_ _ | refine blk_drew ?_ | refine blk_alloc ?_ _)); refine blk_far ?_ NB333_372.out _; (with_reducible repeat (first | refine blk_drewN ?_ _ | refine blk_drew ?_ | refine blk_alloc ?_ _)); exact BK333.out⟩, ⟨by (with_reducible repeat (first | refine blk_drewN ?_ _ | refine blk_drew ?_ | refine blk_alloc ?_ _)); refine blk_far ?_ NB366_372.out _; (with_reducible repeat (first | refine blk_drewN ?_ _ | refine blk_drew ?_ | refine blk_alloc ?_ _)); refine blk_far ?_ NB366_372.out _; (with_reducible repeat (first | refine blk_drewN ?_ _ | refine blk_drew ?_ | refine blk_alloc ?_ _)); refine blk_far ?_ NB366_372.out _; (with_reducible repeat (first | refine blk_drewN ?_ _ | refine blk_drew ?_ | refine blk_alloc ?_ _)); refine blk_far ?_ NB366_372.out _; (with_reducible repeat (first | refine blk_drewN ?_ _ | refine blk_drew ?_ | refine blk_alloc ?_ _)); refine blk_far ?_ NB366_372.out _; (with_reducible repeat (first | refine blk_drewN ?_ _ | refine blk_drew ?_ | refine blk_alloc ?_ _)); refine blk_far ?_ NB366_372.out _; (with_reducible repeat (first | refine blk_drewN ?_ _ | refine blk_drew ?_ | refine blk_alloc ?_ _)); refine blk_far ?_ NB366_372.out _; (with_reducible repeat (first | refine blk_drewN ?_ _ | refine blk_drew ?_ | refine blk_alloc ?_ _)); refine blk_far ?_ NB366_372.out _; (with_reducible repeat (first | refine blk_drewN ?_ _ | refine blk_drew ?_ | refine blk_alloc ?_ _)); exact BK366.out⟩, ⟨by (with_reducible repeat (first | refine blk_drewN ?_ _ | refine blk_drew ?_ | refine blk_alloc ?_ _)); refine blk_put (cs := #[.int .i64 a4_0, .int .i64 a4_1, .int .i64 a4_2, .int .i64 t370]) ?_ 3 _ rfl; (with_reducible repeat (first | refine blk_drewN ?_ _ | refine blk_drew ?_ | refine blk_alloc ?_ _)); refine blk_put (cs := #[.int .i64 a4_0, .int .i64 a4_1, .int .i64 t369, .int .i64 t370]) ?_ 2 _ rfl; (with_reducible repeat (first | refine blk_drewN ?_ _ | refine blk_drew ?_ | refine blk_alloc ?_ _)); refine blk_put (cs := #[.int .i64 a4_0, .int .i64 t368, .int .i64 t369, .int .i64 t370]) ?_ 1 _ rfl; (with_reducible repeat (first | refine blk_drewN ?_ _ | refine blk_drew ?_ | refine blk_alloc ?_ _)); refine blk_put (cs := #[.int .i64 t367, .int .i64 t368, .int .i64 t369, .int .i64 t370]) ?_ 0 _ rfl; (with_reducible repeat (first | refine blk_drewN ?_ _ | refine blk_drew ?_ | refine blk_alloc ?_ _)); refine blk_put (cs := #[.int .i64 t367, .int .i64 t368, .int .i64 t369, .int .i64 0]) ?_ 3 _ rfl; (with_reducible repeat (first | refine blk_drewN ?_ _ | refine blk_drew ?_ | refine blk_alloc ?_ _)); refine blk_put (cs := #[.int .i64 t367, .int .i64 t368, .int .i64 0, .int .i64 0]) ?_ 2 _ rfl; (with_reducible repeat (first | refine blk_drewN ?_ _ | refine blk_drew ?_ | refine blk_alloc ?_ _)); refine blk_put (cs := #[.int .i64 t367, .int .i64 0, .int .i64 0, .int .i64 0]) ?_ 1 _ rfl; (with_reducible repeat (first | refine blk_drewN ?_ _ | refine blk_drew ?_ | refine blk_alloc ?_ _)); refine blk_put (cs := #[.int .i64 0, .int .i64 0, .int .i64 0, .int .i64 0]) ?_ 0 _ rfl; (with_reducible repeat (first | refine blk_drewN ?_ _ | refine blk_drew ?_ | refine blk_alloc ?_ _)); exact BK372.out⟩, ⟨q13_⟩, ⟨q12_⟩⟩
                · rw [if_neg c52] at H
                  have c52b0 : (x16_2 == 2) = false := beq_eq_false_iff_ne.mpr c52
                  have c52b1 : (x16_2 != 2) = true := bne_iff_ne.mpr c52
                  (first | rw [c52b0] | (simp only [i64_w, i32_w]; rw [c52b0]) | skip)
                  have H' := Aside0.mk H
                  clear H
                  go_wp2
                  go_meet
                  case rel => exact ⟨_, (t367), (t368), (t369), (t370), H', ⟨by have := HK1.out; have := HK2.out; first | omega | exact Nat.le_refl _⟩, ⟨by (with_reducible repeat (first | apply Kd.R_alloc | apply Kd.R_drewN | apply Kd.R_drew)); exact Kd.R_mono (Kd.R_far (p := ⟨gb372, 3, none⟩) (Kd.R_far (p := ⟨gb372, 2, none⟩) (Kd.R_far (p := ⟨gb372, 1, none⟩) (Kd.R_far (p := ⟨gb372, 0, none⟩) (Kd.R_types HO359.out BK372.out (by decide)) (fun _ hk => hk.2) (.int .i64 t367)) (fun _ hk => hk.2) (.int .i64 t368)) (fun _ hk => hk.2) (.int .i64 t369)) (fun _ hk => hk.2) (.int .i64 t370)) (fun _ hk => trivial)⟩, ⟨by (with_reducible repeat (first | refine blk_drewN ?_ _ | refine blk_drew ?_ | refine blk_alloc ?_ _)); refine blk_far ?_ NB333_372.out _; (with_reducible repeat (first | refine blk_drewN ?_ _ | refine blk_drew ?_ | refine blk_alloc ?_ _)); refine blk_far ?_ NB333_372.out _; (with_reducible repeat (first | refine blk_drewN ?_ _ | refine blk_drew ?_ | refine blk_alloc ?_ _)); refine blk_far ?_ NB333_372.out _; (with_reducible repeat (first | refine blk_drewN ?_ _ | refine blk_drew ?_ | refine blk_alloc ?_ _)); refine blk_far ?_ NB333_372.out _; (with_reducible repeat (first | refine blk_drewN ?_ _ | refine blk_drew ?_ | refine blk_alloc ?_ _)); exact BK333.out⟩, ⟨by (with_reducible repeat (first | refine blk_drewN ?_ _ | refine blk_drew ?_ | refine blk_alloc ?_ _)); refine blk_far ?_ NB366_372.out _; (with_reducible repeat (first | refine blk_drewN ?_ _ | refine blk_drew ?_ | refine blk_alloc ?_ _)); refine blk_far ?_ NB366_372.out _; (with_reducible repeat (first | refine blk_drewN ?_ _ | refine blk_drew ?_ | refine blk_alloc ?_ _)); refine blk_far ?_ NB366_372.out _; (with_reducible repeat (first | refine blk_drewN ?_ _ | refine blk_drew ?_ | refine blk_alloc ?_ _)); refine blk_far ?_ NB366_372.out _; (with_reducible repeat (first | refine blk_drewN ?_ _ | refine blk_drew ?_ | refine blk_alloc ?_ _)); exact BK366.out⟩, ⟨by (with_reducible repeat (first | refine blk_drewN ?_ _ | refine blk_drew ?_ | refine blk_alloc ?_ _)); refine blk_put (cs := #[.int .i64 t367, .int .i64 t368, .int .i64 t369, .int .i64 0]) ?_ 3 _ rfl; (with_reducible repeat (first | refine blk_drewN ?_ _ | refine blk_drew ?_ | refine blk_alloc ?_ _)); refine blk_put (cs := #[.int .i64 t367, .int .i64 t368, .int .i64 0, .int .i64 0]) ?_ 2 _ rfl; (with_reducible repeat (first | refine blk_drewN ?_ _ | refine blk_drew ?_ | refine blk_alloc ?_ _)); refine blk_put (cs := #[.int .i64 t367, .int .i64 0, .int .i64 0, .int .i64 0]) ?_ 1 _ rfl; (with_reducible repeat (first | refine blk_drewN ?_ _ | refine blk_drew ?_ | refine blk_alloc ?_ _)); refine blk_put (cs := #[.int .i64 0, .int .i64 0, .int .i64 0, .int .i64 0]) ?_ 0 _ rfl; (with_reducible repeat (first | refine blk_drewN ?_ _ | refine blk_drew ?_ | refine blk_alloc ?_ _)); exact BK372.out⟩, ⟨q13_⟩, ⟨q12_⟩⟩
              case rest =>
                clear HC35
                try clear c1
                try clear c2
                try clear p2
                try clear c3
                try clear p3
                try clear q3
                try clear hx3
                try clear c4
                try clear c5
                try clear p6
                try clear c8
                try clear c9
                try clear c13
                try clear c13b0
                try clear c14
                try clear c14b0
                try clear c15
                try clear c15b0
                try clear c17
                try clear c18
                try clear c19
                try clear c20
                try clear c20b0
                try clear c21
                try clear c21b0
                try clear c22
                try clear c22b0
                try clear c25
                try clear c25b0
                try clear c25b1
                try clear c30
                try clear c30b0
                try clear c30b1
                try clear c31
                try clear c31b0
                try clear p34
                try clear q34
                try clear hx34
                try clear c42
                try clear c43
                try clear c48
                try clear c49
                try clear c50
                try clear c52
                try clear c52b0
                try clear c52b1
                try clear c53
                try clear c54
                try clear c55
                try clear c57
                try clear c58
                try clear hcz44_0
                try clear hcz44_1
                try clear hcz44_2
                try clear hcz44_3
                try clear hcz51_0
                try clear hcz51_1
                try clear hcz51_2
                try clear hcz51_3
                try clear hcz56_0
                try clear hcz56_1
                try clear hcz56_2
                try clear hcz56_3
                try clear hcz59_0
                try clear hcz59_1
                try clear hcz59_2
                try clear hcz59_3
                try clear hfz44_0
                try clear hfz44_1
                try clear hfz44_2
                try clear hfz44_3
                try clear hfz51_0
                try clear hfz51_1
                try clear hfz51_2
                try clear hfz51_3
                try clear hfz56_0
                try clear hfz56_1
                try clear hfz56_2
                try clear hfz56_3
                try clear hfz59_0
                try clear hfz59_1
                try clear hfz59_2
                try clear hfz59_3
                try clear hx341_0
                try clear hx346_0
                try clear p2
                try clear p3
                try clear p341
                try clear p346
                try clear p6
                try clear q3
                try clear q341
                try clear q346
                obtain ⟨kq, x373000_34, x373001_34, x373002_34, x373003_34, HA, HJ34, HO_367003, BK333, BK366, BK372, HI336, HB⟩ := hcut
                cases kq with
                | zero => exact absurd HA.out (by simp [tilefarmlaw12_HistogramCounts.j3])
                | succ kj34 =>
                  have H := HA.out
                  clear HA
                  simp only [tilefarmlaw12_HistogramCounts.j3] at H
                  replace H := Option.bind_eq_some_iff.mp H
                  obtain ⟨⟨t373, t374⟩, A600, H⟩ := H
                  replace H : (if t373 = 7 then ((tilefarmgen_Tape_SpoilPlane.f t334 t374 t354 t355 t356 t357).bind fun bt375 => (tilefarmlaw12_HistogramCounts.j4 kj34 x16_2 t364 a4_0 a4_1 a4_2 a4_3 t334 bt375.2.2.2.2 bt375.1 bt375.2.1 bt375.2.2.1 bt375.2.2.2.1 x373000_34 x373001_34 x373002_34 x373003_34)) else (tilefarmlaw12_HistogramCounts.j4 kj34 x16_2 t364 a4_0 a4_1 a4_2 a4_3 t334 t374 t354 t355 t356 t357 x373000_34 x373001_34 x373002_34 x373003_34)) = some r := H
                  have A60 := Aside0.mk A600
                  clear A600
                  have HC61 := Aside0.mk H
                  clear H
                  go_upto_if 94 with (first | ((with_reducible refine gate_callee (f := 10) rfl ?_); refine goesL_ (some 93) rfl rfl Try.func10 (by kernel_rfl) rfl #[.pointer (some ⟨g336, 0, none⟩), .int .i64 8] rfl q100_ ?_; (with_reducible refine (tilefarmgen_Tape_Next.calls g336 t334 t371 8 t373 t374 w _ ?side1 ?side2 A60.out).mono ?_); (case side1 => repeat (first | (with_reducible first | exact HI336.out | apply IsS55.alloc | apply IsS55.drewN | apply IsS55.drew | apply IsS55.set_1 | refine IsS55.far ?_ NB336_333.out _ | refine IsS55.far ?_ NB336_366.out _ | refine IsS55.far ?_ NB336_372.out _) | exact HI336.out)); (case side2 => repeat (first | (with_reducible first | exact HB.out | apply below_alloc | apply pw_below_drewN | apply below_drew1 | refine below_set ?_ (IsS55.ge HI336.out) | refine below_set ?_ GE333.out | refine below_set ?_ GE366.out | refine below_set ?_ GE372.out) | exact HB.out)); rintro e w62 ⟨rfl, hi, hb, hk⟩; refine ⟨_, rfl, ?_⟩; have n0_ := Aside0.mk (Kd.R_mono (Kd.R_keep (IsS55.apart (show IsS55 w _ g336 t334 t371 from by repeat (first | (with_reducible first | exact HI336.out | apply IsS55.alloc | apply IsS55.drewN | apply IsS55.drew | apply IsS55.set_1 | refine IsS55.far ?_ NB336_333.out _ | refine IsS55.far ?_ NB336_366.out _ | refine IsS55.far ?_ NB336_372.out _) | exact HI336.out)) q137_ (by decide)) hk (fun _ h => h.2)) (fun _ h => h.1)); have n1_ := Aside0.mk (KeepBut.blk hk (g' := gb333) (o := .cells #[.int .i64 a4_0, .int .i64 a4_1, .int .i64 a4_2, .int .i64 a4_3] 39 (0, 0)) q132_ NB333_336.out (by simp)); have n2_ := Aside0.mk (KeepBut.blk hk (g' := gb366) (o := .cells #[.int .i64 t354, .int .i64 t355, .int .i64 t356, .slice Ao45 t357.length co45] 26 (0, 0)) q133_ NB366_336.out (by simp)); have n3_ := Aside0.mk (KeepBut.blk hk (g' := gb372) (o := .cells #[.int .i64 x373000_34, .int .i64 x373001_34, .int .i64 x373002_34, .int .i64 x373003_34] 39 (0, 0)) q134_ NB372_336.out (by simp)); have n4_ := Aside0.mk (hb); have n5_ := Aside0.mk (hi); clear HO_367003; clear BK333; clear BK366; clear BK372; clear HB; clear HI336; have HO_367003 := n0_; have BK333 := n1_; have BK366 := n2_; have BK372 := n3_; have HB := n4_; have HI336 := n5_; clear n0_ n1_ n2_ n3_ n4_ n5_; (try clear hb); (try clear hb2); (try clear hk); (try clear hi)))
                  (try simp only [Act.put, List.setIfInBounds_toArray, List.set_cons_zero, List.set_cons_succ])
                  go_cut [] (fun wc => ∃ (kq : Nat) (x337001_60 : Int) (x367000_60 : Int) (x367001_60 : Int) (x367002_60 : Int) (x367003_60 : List Int) (u367003 : Value), Aside0 (tilefarmlaw12_HistogramCounts.j4 kq x16_2 t364 a4_0 a4_1 a4_2 a4_3 t334 x337001_60 x367000_60 x367001_60 x367002_60 x367003_60 x373000_34 x373001_34 x373002_34 x373003_34 = some r) ∧ Aside0 (kq ≤ kj34) ∧ Aside0 (Kd.R (Kd.int .i64) 3 wc w.heap.size (fun _ => True) u367003 x367003_60) ∧ Aside0 (wc.heap[gb333]? = some (.cells #[.int .i64 a4_0, .int .i64 a4_1, .int .i64 a4_2, .int .i64 a4_3] 39 (0, 0))) ∧ Aside0 (wc.heap[gb366]? = some (.cells #[.int .i64 x367000_60, .int .i64 x367001_60, .int .i64 x367002_60, u367003] 26 (0, 0))) ∧ Aside0 (wc.heap[gb372]? = some (.cells #[.int .i64 x373000_34, .int .i64 x373001_34, .int .i64 x373002_34, .int .i64 x373003_34] 39 (0, 0))) ∧ Aside0 (IsS55 w wc g336 t334 x337001_60) ∧ Aside0 (Below w.heap.size w wc))
                  case first =>
                    have H := HC61.out
                    clear HC61
                    by_cases c63 : t373 = 7
                    · rw [if_pos c63] at H
                      have c63b0 : (t373 == 7) = true := beq_iff_eq.mpr c63
                      have c63b1 : (t373 != 7) = false := bne_eq_false_iff_eq.mpr c63
                      clear c63
                      (first | rw [c63b0] | (simp only [i64_w, i32_w]; rw [c63b0]) | skip)
                      replace H := Option.bind_eq_some_iff.mp H
                      obtain ⟨⟨t375, t376, t377, t378, t381⟩, A640, H⟩ := H
                      replace H : (tilefarmlaw12_HistogramCounts.j4 kj34 x16_2 t364 a4_0 a4_1 a4_2 a4_3 t334 t381 t375 t376 t377 t378 x373000_34 x373001_34 x373002_34 x373003_34) = some r := H
                      have A64 := Aside0.mk A640
                      clear A640
                      have H' := Aside0.mk H
                      clear H
                      have hnb65 := NB366_333.out
                      have hnc65 := NB333_366.out
                      have hnb66 := NB366_372.out
                      have hnc66 := NB372_366.out
                      have hnb67 := NB366_336.out
                      have hnc67 := NB336_366.out
                      have hcz68_0 : w62.cell? ⟨gb366, 0, none⟩ = some (.int .i64 t354) := (blk_cell BK366.out 0).trans rfl
                      have hcz68_1 : w62.cell? ⟨gb366, 1, none⟩ = some (.int .i64 t355) := (blk_cell BK366.out 1).trans rfl
                      have hcz68_2 : w62.cell? ⟨gb366, 2, none⟩ = some (.int .i64 t356) := (blk_cell BK366.out 2).trans rfl
                      have hcz68_3 : w62.cell? ⟨gb366, 3, none⟩ = some (.slice Ao45 t357.length co45) := (blk_cell BK366.out 3).trans rfl
                      have hfz68_0 := blk_frozen BK366.out 0
                      have hfz68_1 := blk_frozen BK366.out 1
                      have hfz68_2 := blk_frozen BK366.out 2
                      have hfz68_3 := blk_frozen BK366.out 3
                      go_wp2_with (first | ((with_reducible refine gate_callee (f := 20) rfl ?_); refine goesL_ (some 97) rfl rfl Try.func20 (by kernel_rfl) rfl #[.pointer (some ⟨g336, 0, none⟩), .agg #[.int .i64 t354, .int .i64 t355, .int .i64 t356, .slice Ao45 t357.length co45]] rfl q100_ ?_; (with_reducible refine (tilefarmgen_Tape_SpoilPlane.calls g336 t334 t374 t354 t355 t356 _ _ t357 t375 t376 t377 t378 t381 w _ ?side1 ?side2 ?side3 ?side4 ?side5 A64.out).mono ?_); (case side1 => repeat (first | (with_reducible first | exact HI336.out | apply IsS55.alloc | apply IsS55.drewN | apply IsS55.drew | apply IsS55.set_1 | refine IsS55.far ?_ NB336_333.out _ | refine IsS55.far ?_ NB336_366.out _ | refine IsS55.far ?_ NB336_372.out _) | exact HI336.out)); (case side2 => repeat (first | (with_reducible first | exact HB.out | apply below_alloc | apply pw_below_drewN | apply below_drew1 | refine below_set ?_ (IsS55.ge HI336.out) | refine below_set ?_ GE333.out | refine below_set ?_ GE366.out | refine below_set ?_ GE372.out) | exact HB.out)); (case side3 => repeat (first | exact (Kd.R_reads' HO_367003.out).2.2 | (with_reducible refine Kd.C_alloc ?_ _) | (with_reducible refine Kd.C_drewN ?_ _) | (with_reducible refine Kd.C_drew ?_))); (case side4 => exact (Kd.R_reads' HO_367003.out).2.1); (case side5 => exact far_slice (IsS55.own_ne HI336.out HO_367003.out (by decide))); rintro e w69 ⟨v379, rfl, ho0, hi, hb, hk⟩; refine ⟨_, rfl, ?_⟩; have n0_ := Aside0.mk (Kd.R_mono (Kd.R_told (Kd.R_oldK (IsS55.apart (show IsS55 w _ g336 t334 t374 from by repeat (first | (with_reducible first | exact HI336.out | apply IsS55.alloc | apply IsS55.drewN | apply IsS55.drew | apply IsS55.set_1 | refine IsS55.far ?_ NB336_333.out _ | refine IsS55.far ?_ NB336_366.out _ | refine IsS55.far ?_ NB336_372.out _) | exact HI336.out)) q137_ (by decide)) hk) (Kd.R_base ho0)) (fun _ h_ => h_.1)); have n1_ := Aside0.mk (KeepBut.blk hk (g' := gb333) (o := .cells #[.int .i64 a4_0, .int .i64 a4_1, .int .i64 a4_2, .int .i64 a4_3] 39 (0, 0)) q132_ NB333_336.out (by simp)); have n2_ := Aside0.mk (KeepBut.blk hk (g' := gb366) (o := .cells #[.int .i64 t354, .int .i64 t355, .int .i64 t356, .slice Ao45 t357.length co45] 26 (0, 0)) q133_ NB366_336.out (by simp)); have n3_ := Aside0.mk (KeepBut.blk hk (g' := gb372) (o := .cells #[.int .i64 x373000_34, .int .i64 x373001_34, .int .i64 x373002_34, .int .i64 x373003_34] 39 (0, 0)) q134_ NB372_336.out (by simp)); have n4_ := Aside0.mk (Kd.R_lower (Kd.R_new' ho0 (Kd.R_lt q137_)) (below_size q12_)); have n5_ := Aside0.mk (hb); have n6_ := Aside0.mk (hi); clear HO_367003; clear BK333; clear BK366; clear BK372; clear HB; clear HI336; have HO_367003 := n0_; have BK333 := n1_; have BK366 := n2_; have BK372 := n3_; have HO380 := n4_; have HB := n5_; have HI336 := n6_; clear n0_ n1_ n2_ n3_ n4_ n5_ n6_; (try clear hb); (try clear hb2); (try clear hk); (try clear hi); (try clear ho0); have hcz70_0 : w69.cell? ⟨gb366, 0, none⟩ = some (.int .i64 t354) := (blk_cell BK366.out 0).trans rfl; have hcz70_1 : w69.cell? ⟨gb366, 1, none⟩ = some (.int .i64 t355) := (blk_cell BK366.out 1).trans rfl; have hcz70_2 : w69.cell? ⟨gb366, 2, none⟩ = some (.int .i64 t356) := (blk_cell BK366.out 2).trans rfl; have hcz70_3 : w69.cell? ⟨gb366, 3, none⟩ = some (.slice Ao45 t357.length co45) := (blk_cell BK366.out 3).trans rfl; have hfz70_0 := blk_frozen BK366.out 0; have hfz70_1 := blk_frozen BK366.out 1; have hfz70_2 := blk_frozen BK366.out 2; have hfz70_3 := blk_frozen BK366.out 3; obtain ⟨Ao71, co71, eo71⟩ := Kd.R_slice HO380.out; subst eo71))
                      go_meet
                      case rel => exact ⟨_, (t381), (t375), (t376), (t377), (t378), (.slice Ao71 t378.length co71), H', ⟨by have := HK1.out; have := HK2.out; have := HJ34.out; first | omega | exact Nat.le_refl _⟩, ⟨by (with_reducible repeat (first | apply Kd.R_alloc | apply Kd.R_drewN | apply Kd.R_drew)); exact Kd.R_mono (Kd.R_far (p := ⟨gb366, 3, none⟩) (Kd.R_far (p := ⟨gb366, 2, none⟩) (Kd.R_far (p := ⟨gb366, 1, none⟩) (Kd.R_far (p := ⟨gb366, 0, none⟩) (Kd.R_types HO380.out BK366.out (by decide)) (fun _ hk => hk.2) (.int .i64 t375)) (fun _ hk => hk.2) (.int .i64 t376)) (fun _ hk => hk.2) (.int .i64 t377)) (fun _ hk => hk.2) (.slice Ao71 t378.length co71)) (fun _ hk => trivial)⟩, ⟨by (with_reducible repeat (first | refine blk_drewN ?_ _ | refine blk_drew ?_ | refine blk_alloc ?_ _)); refine blk_far ?_ NB333_366.out _; (with_reducible repeat (first | refine blk_drewN ?_ _ | refine blk_drew ?_ | refine blk_alloc ?_ _)); refine blk_far ?_ NB333_366.out _; (with_reducible repeat (first | refine blk_drewN ?_ _ | refine blk_drew ?_ | refine blk_alloc ?_ _)); refine blk_far ?_ NB333_366.out _; (with_reducible repeat (first | refine blk_drewN ?_ _ | refine blk_drew ?_ | refine blk_alloc ?_ _)); refine blk_far ?_ NB333_366.out _; (with_reducible repeat (first | refine blk_drewN ?_ _ | refine blk_drew ?_ | refine blk_alloc ?_ _)); exact BK333.out⟩, ⟨by (with_reducible repeat (first | refine blk_drewN ?_ _ | refine blk_drew ?_ | refine blk_alloc ?_ _)); refine blk_put (cs := #[.int .i64 t375, .int .i64 t376, .int .i64 t377, .slice Ao45 t357.length co45]) ?_ 3 _ rfl; (with_reducible repeat (first | refine blk_drewN ?_ _ | refine blk_drew ?_ | refine blk_alloc ?_ _)); refine blk_put (cs := #[.int .i64 t375, .int .i64 t376, .int .i64 t356, .slice Ao45 t357.length co45]) ?_ 2 _ rfl; (with_reducible repeat (first | refine blk_drewN ?_ _ | refine blk_drew ?_ | refine blk_alloc ?_ _)); refine blk_put (cs := #[.int .i64 t375, .int .i64 t355, .int .i64 t356, .slice Ao45 t357.length co45]) ?_ 1 _ rfl; (with_reducible repeat (first | refine blk_drewN ?_ _ | refine blk_drew ?_ | refine blk_alloc ?_ _)); refine blk_put (cs := #[.int .i64 t354, .int .i64 t355, .int .i64 t356, .slice Ao45 t357.length co45]) ?_ 0 _ rfl; (with_reducible repeat (first | refine blk_drewN ?_ _ | refine blk_drew ?_ | refine blk_alloc ?_ _)); exact BK366.out⟩, ⟨by (with_reducible repeat (first | refine blk_drewN ?_ _ | refine blk_drew ?_ | refine blk_alloc ?_ _)); refine blk_far ?_ NB372_366.out _; (with_reducible repeat (first | refine blk_drewN ?_ _ | refine blk_drew ?_ | refine blk_alloc ?_ _)); refine blk_far ?_ NB372_366.out _; (with_reducible repeat (first | refine blk_drewN ?_ _ | refine blk_drew ?_ | refine blk_alloc ?_ _)); refine blk_far ?_ NB372_366.out _; (with_reducible repeat (first | refine blk_drewN ?_ _ | refine blk_drew ?_ | refine blk_alloc ?_ _)); refine blk_far ?_ NB372_366.out _; (with_reducible repeat (first | refine blk_drewN ?_ _ | refine blk_drew ?_ | refine blk_alloc ?_ _)); exact BK372.out⟩, ⟨q13_⟩, ⟨q12_⟩⟩
                    · rw [if_neg c63] at H
                      have c63b0 : (t373 == 7) = false := beq_eq_false_iff_ne.mpr c63
                      have c63b1 : (t373 != 7) = true := bne_iff_ne.mpr c63
                      (first | rw [c63b0] | (simp only [i64_w, i32_w]; rw [c63b0]) | skip)
                      have H' := Aside0.mk H
                      clear H
                      go_wp2
                      go_meet
                      case rel => exact ⟨_, (t374), (t354), (t355), (t356), (t357), (.slice Ao45 t357.length co45), H', ⟨by have := HK1.out; have := HK2.out; have := HJ34.out; first | omega | exact Nat.le_refl _⟩, ⟨q137_⟩, ⟨q132_⟩, ⟨q133_⟩, ⟨q134_⟩, ⟨q13_⟩, ⟨q12_⟩⟩
                  case rest =>
                    clear HC61
                    try clear c1
                    try clear c2
                    try clear p2
                    try clear c3
                    try clear p3
                    try clear q3
                    try clear hx3
                    try clear c4
                    try clear c5
                    try clear c6
                    try clear p6
                    try clear c8
                    try clear c9
                    try clear c10
                    try clear c13
                    try clear c13b0
                    try clear c14
                    try clear c14b0
                    try clear c15
                    try clear c15b0
                    try clear c17
                    try clear c18
                    try clear c19
                    try clear c20
                    try clear c20b0
                    try clear c21
                    try clear c21b0
                    try clear c22
                    try clear c22b0
                    try clear c25
                    try clear c25b0
                    try clear c25b1
                    try clear c30
                    try clear c30b0
                    try clear c30b1
                    try clear c31
                    try clear c31b0
                    try clear p34
                    try clear q34
                    try clear hx34
                    try clear c42
                    try clear c43
                    try clear c48
                    try clear c49
                    try clear c50
                    try clear c52
                    try clear c52b0
                    try clear c52b1
                    try clear c53
                    try clear c54
                    try clear c55
                    try clear c57
                    try clear c58
                    try clear c63
                    try clear c63b0
                    try clear c63b1
                    try clear p64
                    try clear c65
                    try clear c66
                    try clear c67
                    try clear hcz44_0
                    try clear hcz44_1
                    try clear hcz44_2
                    try clear hcz44_3
                    try clear hcz51_0
                    try clear hcz51_1
                    try clear hcz51_2
                    try clear hcz51_3
                    try clear hcz56_0
                    try clear hcz56_1
                    try clear hcz56_2
                    try clear hcz56_3
                    try clear hcz59_0
                    try clear hcz59_1
                    try clear hcz59_2
                    try clear hcz59_3
                    try clear hcz68_0
                    try clear hcz68_1
                    try clear hcz68_2
                    try clear hcz68_3
                    try clear hcz70_0
                    try clear hcz70_1
                    try clear hcz70_2
                    try clear hcz70_3
                    try clear hfz44_0
                    try clear hfz44_1
                    try clear hfz44_2
                    try clear hfz44_3
                    try clear hfz51_0
                    try clear hfz51_1
                    try clear hfz51_2
                    try clear hfz51_3
                    try clear hfz56_0
                    try clear hfz56_1
                    try clear hfz56_2
                    try clear hfz56_3
                    try clear hfz59_0
                    try clear hfz59_1
                    try clear hfz59_2
                    try clear hfz59_3
                    try clear hfz68_0
                    try clear hfz68_1
                    try clear hfz68_2
                    try clear hfz68_3
                    try clear hfz70_0
                    try clear hfz70_1
                    try clear hfz70_2
                    try clear hfz70_3
                    try clear hx341_0
                    try clear hx346_0
                    try clear p2
                    try clear p3
                    try clear p34
                    try clear p341
                    try clear p346
                    try clear p6
                    try clear q3
                    try clear q34
                    try clear q341
                    try clear q346
                    obtain ⟨kq, x337001_60, x367000_60, x367001_60, x367002_60, x367003_60, u367003, HA, HJ60, HO_367003, BK333, BK366, BK372, HI336, HB⟩ := hcut
                    cases kq with
                    | zero => exact absurd HA.out (by simp [tilefarmlaw12_HistogramCounts.j4])
                    | succ kj60 =>
                      have H := HA.out
                      clear HA
                      simp only [tilefarmlaw12_HistogramCounts.j4] at H
                      replace H := Option.bind_eq_some_iff.mp H
                      obtain ⟨⟨t382, t385⟩, A720, H⟩ := H
                      replace H : ((tilefarmref12_Partial.f kj60 x367000_60 x367001_60 x367002_60 x367003_60 t364 x373000_34 x373001_34 x373002_34 x373003_34).bind fun bt386 => ((histogram_Whole.f kj60 x367000_60 x367001_60 x367002_60 x367003_60 t364).bind fun bt390 => ((tilefarmref12_Whole.f kj60 x367000_60 x367001_60 x367002_60 x367003_60 t364).bind fun bt398 => ((tilefarmref4_Same.f kj60 t382 bt386.1).bind fun t406 => (if t406 = true then (if t385 = bt386.2 then ((tilefarmref4_Equal.f kj60 bt390.1 bt390.2.1 bt390.2.2.1 bt390.2.2.2.1 bt398.1 bt398.2.1 bt398.2.2.1 bt398.2.2.2.1).bind fun t407 => (if t407 = true then (if bt390.2.2.2.2 = bt398.2.2.2.2 then (tilefarmlaw12_HistogramCounts.l2 kj60 (wrap64 (x16_2 + 1)) a4_0 a4_1 a4_2 a4_3 t334 x337001_60) else (some false)) else (some false))) else (some false)) else (some false)))))) = some r := H
                      have A72 := Aside0.mk A720
                      clear A720
                      replace H := Option.bind_eq_some_iff.mp H
                      obtain ⟨⟨t386, t389⟩, A730, H⟩ := H
                      replace H : ((histogram_Whole.f kj60 x367000_60 x367001_60 x367002_60 x367003_60 t364).bind fun bt390 => ((tilefarmref12_Whole.f kj60 x367000_60 x367001_60 x367002_60 x367003_60 t364).bind fun bt398 => ((tilefarmref4_Same.f kj60 t382 t386).bind fun t406 => (if t406 = true then (if t385 = t389 then ((tilefarmref4_Equal.f kj60 bt390.1 bt390.2.1 bt390.2.2.1 bt390.2.2.2.1 bt398.1 bt398.2.1 bt398.2.2.1 bt398.2.2.2.1).bind fun t407 => (if t407 = true then (if bt390.2.2.2.2 = bt398.2.2.2.2 then (tilefarmlaw12_HistogramCounts.l2 kj60 (wrap64 (x16_2 + 1)) a4_0 a4_1 a4_2 a4_3 t334 x337001_60) else (some false)) else (some false))) else (some false)) else (some false))))) = some r := H
                      have A73 := Aside0.mk A730
                      clear A730
                      replace H := Option.bind_eq_some_iff.mp H
                      obtain ⟨⟨t390, t391, t392, t393, t396⟩, A740, H⟩ := H
                      replace H : ((tilefarmref12_Whole.f kj60 x367000_60 x367001_60 x367002_60 x367003_60 t364).bind fun bt398 => ((tilefarmref4_Same.f kj60 t382 t386).bind fun t406 => (if t406 = true then (if t385 = t389 then ((tilefarmref4_Equal.f kj60 t390 t391 t392 t393 bt398.1 bt398.2.1 bt398.2.2.1 bt398.2.2.2.1).bind fun t407 => (if t407 = true then (if t396 = bt398.2.2.2.2 then (tilefarmlaw12_HistogramCounts.l2 kj60 (wrap64 (x16_2 + 1)) a4_0 a4_1 a4_2 a4_3 t334 x337001_60) else (some false)) else (some false))) else (some false)) else (some false)))) = some r := H
                      have A74 := Aside0.mk A740
                      clear A740
                      replace H := Option.bind_eq_some_iff.mp H
                      obtain ⟨⟨t398, t399, t400, t401, t404⟩, A750, H⟩ := H
                      replace H : ((tilefarmref4_Same.f kj60 t382 t386).bind fun t406 => (if t406 = true then (if t385 = t389 then ((tilefarmref4_Equal.f kj60 t390 t391 t392 t393 t398 t399 t400 t401).bind fun t407 => (if t407 = true then (if t396 = t404 then (tilefarmlaw12_HistogramCounts.l2 kj60 (wrap64 (x16_2 + 1)) a4_0 a4_1 a4_2 a4_3 t334 x337001_60) else (some false)) else (some false))) else (some false)) else (some false))) = some r := H
                      have A75 := Aside0.mk A750
                      clear A750
                      replace H := Option.bind_eq_some_iff.mp H
                      obtain ⟨t406, A760, H⟩ := H
                      replace H : (if t406 = true then (if t385 = t389 then ((tilefarmref4_Equal.f kj60 t390 t391 t392 t393 t398 t399 t400 t401).bind fun t407 => (if t407 = true then (if t396 = t404 then (tilefarmlaw12_HistogramCounts.l2 kj60 (wrap64 (x16_2 + 1)) a4_0 a4_1 a4_2 a4_3 t334 x337001_60) else (some false)) else (some false))) else (some false)) else (some false)) = some r := H
                      have A76 := Aside0.mk A760
                      clear A760
                      by_cases c77 : t406 = true
                      · subst c77
                        have H1 : (if t385 = t389 then ((tilefarmref4_Equal.f kj60 t390 t391 t392 t393 t398 t399 t400 t401).bind fun t407 => (if t407 = true then (if t396 = t404 then (tilefarmlaw12_HistogramCounts.l2 kj60 (wrap64 (x16_2 + 1)) a4_0 a4_1 a4_2 a4_3 t334 x337001_60) else (some false)) else (some false))) else (some false)) = some r := by rw [if_pos rfl] at H; exact H
                        clear H
                        have H := H1
                        clear H1
                        by_cases c78 : t385 = t389
                        · rw [if_pos c78] at H
                          have c78b0 : (t385 == t389) = true := beq_iff_eq.mpr c78
                          have c78b1 : (t385 != t389) = false := bne_eq_false_iff_eq.mpr c78
                          clear c78
                          replace H := Option.bind_eq_some_iff.mp H
                          obtain ⟨t407, A790, H⟩ := H
                          replace H : (if t407 = true then (if t396 = t404 then (tilefarmlaw12_HistogramCounts.l2 kj60 (wrap64 (x16_2 + 1)) a4_0 a4_1 a4_2 a4_3 t334 x337001_60) else (some false)) else (some false)) = some r := H
                          have A79 := Aside0.mk A790
                          clear A790
                          by_cases c80 : t407 = true
                          · subst c80
                            have H1 : (if t396 = t404 then (tilefarmlaw12_HistogramCounts.l2 kj60 (wrap64 (x16_2 + 1)) a4_0 a4_1 a4_2 a4_3 t334 x337001_60) else (some false)) = some r := by rw [if_pos rfl] at H; exact H
                            clear H
                            have H := H1
                            clear H1
                            by_cases c81 : t396 = t404
                            · rw [if_pos c81] at H
                              have c81b0 : (t396 == t404) = true := beq_iff_eq.mpr c81
                              have c81b1 : (t396 != t404) = false := bne_eq_false_iff_eq.mpr c81
                              clear c81
                              have H' := Aside0.mk H
                              clear H
                              have hnb82 := NB366_333.out
                              have hnc82 := NB333_366.out
                              have hnb83 := NB366_372.out
                              have hnc83 := NB372_366.out
                              have hnb84 := NB366_336.out
                              have hnc84 := NB336_366.out
                              have hcz85_0 : wc.cell? ⟨gb366, 0, none⟩ = some (.int .i64 x367000_60) := (blk_cell BK366.out 0).trans rfl
                              have hcz85_1 : wc.cell? ⟨gb366, 1, none⟩ = some (.int .i64 x367001_60) := (blk_cell BK366.out 1).trans rfl
                              have hcz85_2 : wc.cell? ⟨gb366, 2, none⟩ = some (.int .i64 x367002_60) := (blk_cell BK366.out 2).trans rfl
                              have hcz85_3 : wc.cell? ⟨gb366, 3, none⟩ = some (u367003) := (blk_cell BK366.out 3).trans rfl
                              have hfz85_0 := blk_frozen BK366.out 0
                              have hfz85_1 := blk_frozen BK366.out 1
                              have hfz85_2 := blk_frozen BK366.out 2
                              have hfz85_3 := blk_frozen BK366.out 3
                              have hnb86 := NB372_333.out
                              have hnc86 := NB333_372.out
                              have hnb87 := NB372_336.out
                              have hnc87 := NB336_372.out
                              have hcz88_0 : wc.cell? ⟨gb372, 0, none⟩ = some (.int .i64 x373000_34) := (blk_cell BK372.out 0).trans rfl
                              have hcz88_1 : wc.cell? ⟨gb372, 1, none⟩ = some (.int .i64 x373001_34) := (blk_cell BK372.out 1).trans rfl
                              have hcz88_2 : wc.cell? ⟨gb372, 2, none⟩ = some (.int .i64 x373002_34) := (blk_cell BK372.out 2).trans rfl
                              have hcz88_3 : wc.cell? ⟨gb372, 3, none⟩ = some (.int .i64 x373003_34) := (blk_cell BK372.out 3).trans rfl
                              have hfz88_0 := blk_frozen BK372.out 0
                              have hfz88_1 := blk_frozen BK372.out 1
                              have hfz88_2 := blk_frozen BK372.out 2
                              have hfz88_3 := blk_frozen BK372.out 3
                              obtain ⟨Ao89, co89, eo89⟩ := Kd.R_slice HO_367003.out
                              subst eo89
                              go_wp2_with (first | ((with_reducible refine gate_callee (f := 21) rfl ?_); refine goesL_ (some 102) rfl rfl Try.func21 (by kernel_rfl) rfl #[.agg #[.int .i64 x367000_60, .int .i64 x367001_60, .int .i64 x367002_60, .slice Ao89 x367003_60.length co89], .int .i64 t364, .agg #[.int .i64 x373000_34, .int .i64 x373001_34, .int .i64 x373002_34, .int .i64 x373003_34]] rfl q100_ ?_; (with_reducible refine (histogram_Partial.calls kj60 x367000_60 x367001_60 x367002_60 _ _ x367003_60 t364 x373000_34 x373001_34 x373002_34 x373003_34 t382 t385 _ ?side1 ?side2 A72.out).mono ?_); (case side1 => repeat (first | exact (Kd.R_reads' HO_367003.out).2.2 | (with_reducible refine Kd.C_alloc ?_ _) | (with_reducible refine Kd.C_drewN ?_ _) | (with_reducible refine Kd.C_drew ?_))); (case side2 => exact (Kd.R_reads' HO_367003.out).2.1); rintro e w90 ⟨v383, rfl, ho0, hb⟩; refine ⟨_, rfl, ?_⟩; have n0_ := Aside0.mk (Kd.R_elder' q137_ (Kd.R_base ho0) hb); have n1_ := Aside0.mk (Kd.R_lower (Kd.R_new' ho0 (Kd.R_lt q137_)) (below_size q12_)); have n2_ := Aside0.mk (blk_below (g := gb333) (o := .cells #[.int .i64 a4_0, .int .i64 a4_1, .int .i64 a4_2, .int .i64 a4_3] 39 (0, 0)) q132_ hb); have n3_ := Aside0.mk (blk_below (g := gb366) (o := .cells #[.int .i64 x367000_60, .int .i64 x367001_60, .int .i64 x367002_60, .slice Ao89 x367003_60.length co89] 26 (0, 0)) q133_ hb); have n4_ := Aside0.mk (blk_below (g := gb372) (o := .cells #[.int .i64 x373000_34, .int .i64 x373001_34, .int .i64 x373002_34, .int .i64 x373003_34] 39 (0, 0)) q134_ hb); have n5_ := Aside0.mk (IsS55.below q13_ hb); have n6_ := Aside0.mk (below_step q12_ hb); clear HO_367003; clear BK333; clear BK366; clear BK372; clear HI336; clear HB; have HO_367003 := n0_; have HO384 := n1_; have BK333 := n2_; have BK366 := n3_; have BK372 := n4_; have HI336 := n5_; have HB := n6_; clear n0_ n1_ n2_ n3_ n4_ n5_ n6_; (try clear hb); (try clear hb2); (try clear hk); (try clear hi); (try clear ho0); have hcz91_0 : w90.cell? ⟨gb366, 0, none⟩ = some (.int .i64 x367000_60) := (blk_cell BK366.out 0).trans rfl; have hcz91_1 : w90.cell? ⟨gb366, 1, none⟩ = some (.int .i64 x367001_60) := (blk_cell BK366.out 1).trans rfl; have hcz91_2 : w90.cell? ⟨gb366, 2, none⟩ = some (.int .i64 x367002_60) := (blk_cell BK366.out 2).trans rfl; have hcz91_3 : w90.cell? ⟨gb366, 3, none⟩ = some (.slice Ao89 x367003_60.length co89) := (blk_cell BK366.out 3).trans rfl; have hfz91_0 := blk_frozen BK366.out 0; have hfz91_1 := blk_frozen BK366.out 1; have hfz91_2 := blk_frozen BK366.out 2; have hfz91_3 := blk_frozen BK366.out 3; have hcz92_0 : w90.cell? ⟨gb372, 0, none⟩ = some (.int .i64 x373000_34) := (blk_cell BK372.out 0).trans rfl; have hcz92_1 : w90.cell? ⟨gb372, 1, none⟩ = some (.int .i64 x373001_34) := (blk_cell BK372.out 1).trans rfl; have hcz92_2 : w90.cell? ⟨gb372, 2, none⟩ = some (.int .i64 x373002_34) := (blk_cell BK372.out 2).trans rfl; have hcz92_3 : w90.cell? ⟨gb372, 3, none⟩ = some (.int .i64 x373003_34) := (blk_cell BK372.out 3).trans rfl; have hfz92_0 := blk_frozen BK372.out 0; have hfz92_1 := blk_frozen BK372.out 1; have hfz92_2 := blk_frozen BK372.out 2; have hfz92_3 := blk_frozen BK372.out 3) | ((with_reducible refine gate_callee (f := 22) rfl ?_); refine goesL_ (some 109) rfl rfl Try.func22 (by kernel_rfl) rfl #[.agg #[.int .i64 x367000_60, .int .i64 x367001_60, .int .i64 x367002_60, .slice Ao89 x367003_60.length co89], .int .i64 t364, .agg #[.int .i64 x373000_34, .int .i64 x373001_34, .int .i64 x373002_34, .int .i64 x373003_34]] rfl q100_ ?_; (with_reducible refine (tilefarmref12_Partial.calls kj60 x367000_60 x367001_60 x367002_60 _ _ x367003_60 t364 x373000_34 x373001_34 x373002_34 x373003_34 t386 t389 _ ?side1 ?side2 A73.out).mono ?_); (case side1 => repeat (first | exact (Kd.R_reads' HO_367003.out).2.2 | (with_reducible refine Kd.C_alloc ?_ _) | (with_reducible refine Kd.C_drewN ?_ _) | (with_reducible refine Kd.C_drew ?_))); (case side2 => exact (Kd.R_reads' HO_367003.out).2.1); rintro e w93 ⟨v387, rfl, ho0, hb⟩; refine ⟨_, rfl, ?_⟩; have n0_ := Aside0.mk (Kd.R_elder' q137_ (Kd.R_base ho0) hb); have n1_ := Aside0.mk (Kd.R_elder' q148_ (Kd.R_base ho0) hb); have n2_ := Aside0.mk (Kd.R_lower (Kd.R_new' (Kd.R_new' ho0 (Kd.R_lt q137_)) (Kd.R_lt q148_)) (below_size q12_)); have n3_ := Aside0.mk (blk_below (g := gb333) (o := .cells #[.int .i64 a4_0, .int .i64 a4_1, .int .i64 a4_2, .int .i64 a4_3] 39 (0, 0)) q132_ hb); have n4_ := Aside0.mk (blk_below (g := gb366) (o := .cells #[.int .i64 x367000_60, .int .i64 x367001_60, .int .i64 x367002_60, .slice Ao89 x367003_60.length co89] 26 (0, 0)) q133_ hb); have n5_ := Aside0.mk (blk_below (g := gb372) (o := .cells #[.int .i64 x373000_34, .int .i64 x373001_34, .int .i64 x373002_34, .int .i64 x373003_34] 39 (0, 0)) q134_ hb); have n6_ := Aside0.mk (IsS55.below q13_ hb); have n7_ := Aside0.mk (below_step q12_ hb); clear HO_367003; clear HO384; clear BK333; clear BK366; clear BK372; clear HI336; clear HB; have HO_367003 := n0_; have HO384 := n1_; have HO388 := n2_; have BK333 := n3_; have BK366 := n4_; have BK372 := n5_; have HI336 := n6_; have HB := n7_; clear n0_ n1_ n2_ n3_ n4_ n5_ n6_ n7_; (try clear hb); (try clear hb2); (try clear hk); (try clear hi); (try clear ho0); have hcz94_0 : w93.cell? ⟨gb366, 0, none⟩ = some (.int .i64 x367000_60) := (blk_cell BK366.out 0).trans rfl; have hcz94_1 : w93.cell? ⟨gb366, 1, none⟩ = some (.int .i64 x367001_60) := (blk_cell BK366.out 1).trans rfl; have hcz94_2 : w93.cell? ⟨gb366, 2, none⟩ = some (.int .i64 x367002_60) := (blk_cell BK366.out 2).trans rfl; have hcz94_3 : w93.cell? ⟨gb366, 3, none⟩ = some (.slice Ao89 x367003_60.length co89) := (blk_cell BK366.out 3).trans rfl; have hfz94_0 := blk_frozen BK366.out 0; have hfz94_1 := blk_frozen BK366.out 1; have hfz94_2 := blk_frozen BK366.out 2; have hfz94_3 := blk_frozen BK366.out 3) | ((with_reducible refine gate_callee (f := 12) rfl ?_); refine goesL_ (some 115) rfl rfl Try.func12 (by kernel_rfl) rfl #[.agg #[.int .i64 x367000_60, .int .i64 x367001_60, .int .i64 x367002_60, .slice Ao89 x367003_60.length co89], .int .i64 t364] rfl q100_ ?_; (with_reducible refine (histogram_Whole.calls kj60 x367000_60 x367001_60 x367002_60 _ _ x367003_60 t364 t390 t391 t392 t393 t396 _ ?side1 ?side2 A74.out).mono ?_); (case side1 => repeat (first | exact (Kd.R_reads' HO_367003.out).2.2 | (with_reducible refine Kd.C_alloc ?_ _) | (with_reducible refine Kd.C_drewN ?_ _) | (with_reducible refine Kd.C_drew ?_))); (case side2 => exact (Kd.R_reads' HO_367003.out).2.1); rintro e w95 ⟨v394, rfl, ho0, hb⟩; refine ⟨_, rfl, ?_⟩; have n0_ := Aside0.mk (Kd.R_elder' q137_ (Kd.R_base ho0) hb); have n1_ := Aside0.mk (Kd.R_elder' q148_ (Kd.R_base ho0) hb); have n2_ := Aside0.mk (Kd.R_elder' q149_ (Kd.R_base ho0) hb); have n3_ := Aside0.mk (Kd.R_lower (Kd.R_new' (Kd.R_new' (Kd.R_new' ho0 (Kd.R_lt q137_)) (Kd.R_lt q148_)) (Kd.R_lt q149_)) (below_size q12_)); have n4_ := Aside0.mk (blk_below (g := gb333) (o := .cells #[.int .i64 a4_0, .int .i64 a4_1, .int .i64 a4_2, .int .i64 a4_3] 39 (0, 0)) q132_ hb); have n5_ := Aside0.mk (blk_below (g := gb366) (o := .cells #[.int .i64 x367000_60, .int .i64 x367001_60, .int .i64 x367002_60, .slice Ao89 x367003_60.length co89] 26 (0, 0)) q133_ hb); have n6_ := Aside0.mk (blk_below (g := gb372) (o := .cells #[.int .i64 x373000_34, .int .i64 x373001_34, .int .i64 x373002_34, .int .i64 x373003_34] 39 (0, 0)) q134_ hb); have n7_ := Aside0.mk (IsS55.below q13_ hb); have n8_ := Aside0.mk (below_step q12_ hb); clear HO_367003; clear HO384; clear HO388; clear BK333; clear BK366; clear BK372; clear HI336; clear HB; have HO_367003 := n0_; have HO384 := n1_; have HO388 := n2_; have HO395 := n3_; have BK333 := n4_; have BK366 := n5_; have BK372 := n6_; have HI336 := n7_; have HB := n8_; clear n0_ n1_ n2_ n3_ n4_ n5_ n6_ n7_ n8_; (try clear hb); (try clear hb2); (try clear hk); (try clear hi); (try clear ho0)) | ((with_reducible refine gate_dst (N := 24) rfl ?_); refine box_event ?hg (N := 24) ?hd (cs := #[.int .i64 0, .int .i64 0, .int .i64 0, .slice none 0 0]) (t := 26) ?hr ?_; (case hd => rfl); (case hg => rfl); (case hr => first | (go_simp; done) | (go_simp; rfl)); intro gb397 hg w96 hbox hb; have n0_ := Aside0.mk (Kd.R_below q137_ hb); have n1_ := Aside0.mk (Kd.R_below q148_ hb); have n2_ := Aside0.mk (Kd.R_below q149_ hb); have n3_ := Aside0.mk (Kd.R_below (by (with_reducible repeat (first | apply Kd.R_alloc | apply Kd.R_drewN | apply Kd.R_drew)); exact HO395.out) hb); have n4_ := Aside0.mk (blk_below (g := gb333) (o := .cells #[.int .i64 a4_0, .int .i64 a4_1, .int .i64 a4_2, .int .i64 a4_3] 39 (0, 0)) q132_ hb); have n5_ := Aside0.mk (blk_below (g := gb366) (o := .cells #[.int .i64 x367000_60, .int .i64 x367001_60, .int .i64 x367002_60, .slice Ao89 x367003_60.length co89] 26 (0, 0)) q133_ hb); have n6_ := Aside0.mk (blk_below (g := gb372) (o := .cells #[.int .i64 x373000_34, .int .i64 x373001_34, .int .i64 x373002_34, .int .i64 x373003_34] 39 (0, 0)) q134_ hb); have n7_ := Aside0.mk (IsS55.below q13_ hb); have n8_ := Aside0.mk (below_step q12_ hb); have n9_ := Aside0.mk (hbox); have n10_ := Aside0.mk ((by rw [hg]; exact (below_size q12_) : w.heap.size ≤ gb397)); have n11_ := Aside0.mk ((by rw [hg]; exact (below_size q12_) : w.heap.size ≤ gb397)); have n12_ := Aside0.mk ((q26_ : gb333 ≠ gb397)); have n13_ := Aside0.mk ((q27_ : gb397 ≠ gb333)); have n14_ := Aside0.mk ((by rw [hg]; exact Nat.ne_of_lt (blk_lt (g := gb366) (o := .cells #[.int .i64 x367000_60, .int .i64 x367001_60, .int .i64 x367002_60, .slice Ao89 x367003_60.length co89] 26 (0, 0)) q133_) : gb366 ≠ gb397)); have n15_ := Aside0.mk ((by rw [hg]; exact Nat.ne_of_gt (blk_lt (g := gb366) (o := .cells #[.int .i64 x367000_60, .int .i64 x367001_60, .int .i64 x367002_60, .slice Ao89 x367003_60.length co89] 26 (0, 0)) q133_) : gb397 ≠ gb366)); have n16_ := Aside0.mk ((by rw [hg]; exact Nat.ne_of_lt (blk_lt (g := gb372) (o := .cells #[.int .i64 x373000_34, .int .i64 x373001_34, .int .i64 x373002_34, .int .i64 x373003_34] 39 (0, 0)) q134_) : gb372 ≠ gb397)); have n17_ := Aside0.mk ((by rw [hg]; exact Nat.ne_of_gt (blk_lt (g := gb372) (o := .cells #[.int .i64 x373000_34, .int .i64 x373001_34, .int .i64 x373002_34, .int .i64 x373003_34] 39 (0, 0)) q134_) : gb397 ≠ gb372)); have n18_ := Aside0.mk ((by rw [hg]; exact Nat.ne_of_lt (IsS55.lt (show IsS55 w _ g336 t334 x337001_60 from by repeat (first | (with_reducible first | exact HI336.out | apply IsS55.alloc | apply IsS55.drewN | apply IsS55.drew | apply IsS55.set_1 | refine IsS55.far ?_ NB336_333.out _ | refine IsS55.far ?_ NB336_366.out _ | refine IsS55.far ?_ NB336_372.out _) | exact HI336.out))) : g336 ≠ gb397)); have n19_ := Aside0.mk ((by rw [hg]; exact Nat.ne_of_gt (IsS55.lt (show IsS55 w _ g336 t334 x337001_60 from by repeat (first | (with_reducible first | exact HI336.out | apply IsS55.alloc | apply IsS55.drewN | apply IsS55.drew | apply IsS55.set_1 | refine IsS55.far ?_ NB336_333.out _ | refine IsS55.far ?_ NB336_366.out _ | refine IsS55.far ?_ NB336_372.out _) | exact HI336.out))) : gb397 ≠ g336)); clear HO_367003; clear HO384; clear HO388; clear HO395; clear BK333; clear BK366; clear BK372; clear HI336; clear HB; have HO_367003 := n0_; have HO384 := n1_; have HO388 := n2_; have HO395 := n3_; have BK333 := n4_; have BK366 := n5_; have BK372 := n6_; have HI336 := n7_; have HB := n8_; have BK397 := n9_; have GW397 := n10_; have GE397 := n11_; have NB333_397 := n12_; have NB397_333 := n13_; have NB366_397 := n14_; have NB397_366 := n15_; have NB372_397 := n16_; have NB397_372 := n17_; have NB336_397 := n18_; have NB397_336 := n19_; clear n0_ n1_ n2_ n3_ n4_ n5_ n6_ n7_ n8_ n9_ n10_ n11_ n12_ n13_ n14_ n15_ n16_ n17_ n18_ n19_; clear hb hbox hg; have hnb97 := NB397_333.out; have hnc97 := NB333_397.out; have hnb98 := NB397_366.out; have hnc98 := NB366_397.out; have hnb99 := NB397_372.out; have hnc99 := NB372_397.out; have hnb100 := NB397_336.out; have hnc100 := NB336_397.out; have hcz101_0 : w96.cell? ⟨gb397, 0, none⟩ = some (.int .i64 0) := (blk_cell BK397.out 0).trans rfl; have hcz101_1 : w96.cell? ⟨gb397, 1, none⟩ = some (.int .i64 0) := (blk_cell BK397.out 1).trans rfl; have hcz101_2 : w96.cell? ⟨gb397, 2, none⟩ = some (.int .i64 0) := (blk_cell BK397.out 2).trans rfl; have hcz101_3 : w96.cell? ⟨gb397, 3, none⟩ = some (.slice none 0 0) := (blk_cell BK397.out 3).trans rfl; have hfz101_0 := blk_frozen BK397.out 0; have hfz101_1 := blk_frozen BK397.out 1; have hfz101_2 := blk_frozen BK397.out 2; have hfz101_3 := blk_frozen BK397.out 3; obtain ⟨Ao102, co102, eo102⟩ := Kd.R_slice HO395.out; subst eo102; have hcz103_0 : w96.cell? ⟨gb366, 0, none⟩ = some (.int .i64 x367000_60) := (blk_cell BK366.out 0).trans rfl; have hcz103_1 : w96.cell? ⟨gb366, 1, none⟩ = some (.int .i64 x367001_60) := (blk_cell BK366.out 1).trans rfl; have hcz103_2 : w96.cell? ⟨gb366, 2, none⟩ = some (.int .i64 x367002_60) := (blk_cell BK366.out 2).trans rfl; have hcz103_3 : w96.cell? ⟨gb366, 3, none⟩ = some (.slice Ao89 x367003_60.length co89) := (blk_cell BK366.out 3).trans rfl; have hfz103_0 := blk_frozen BK366.out 0; have hfz103_1 := blk_frozen BK366.out 1; have hfz103_2 := blk_frozen BK366.out 2; have hfz103_3 := blk_frozen BK366.out 3) | ((with_reducible refine gate_callee (f := 23) rfl ?_); refine goesL_ (some 121) rfl rfl Try.func23 (by kernel_rfl) rfl #[.agg #[.int .i64 x367000_60, .int .i64 x367001_60, .int .i64 x367002_60, .slice Ao89 x367003_60.length co89], .int .i64 t364] rfl q100_ ?_; (with_reducible refine (tilefarmref12_Whole.calls kj60 x367000_60 x367001_60 x367002_60 _ _ x367003_60 t364 t398 t399 t400 t401 t404 _ ?side1 ?side2 A75.out).mono ?_); (case side1 => refine (Kd.R_reads' (e := 3) (base := w.heap.size) (ok := fun k_ => (((True ∧ some k_ ≠ (v383 : Value).ownBlock) ∧ some k_ ≠ (v387 : Value).ownBlock) ∧ some k_ ≠ (.slice Ao102 t393.length co102 : Value).ownBlock)) (n := x367003_60.length) (c := co89) ?_).2.2; exact q0_); (case side2 => exact (Kd.R_reads' HO_367003.out).2.1); rintro e w104 ⟨v402, rfl, ho0, hb⟩; refine ⟨_, rfl, ?_⟩; have n0_ := Aside0.mk (Kd.R_elder' q0_ (Kd.R_base ho0) hb); have n1_ := Aside0.mk (Kd.R_elder' (by (with_reducible repeat (first | apply Kd.R_alloc | apply Kd.R_drewN | apply Kd.R_drew)); exact (Kd.R_mono (Kd.R_far (p := ⟨gb397, 3, none⟩) (Kd.R_far (p := ⟨gb397, 2, none⟩) (Kd.R_far (p := ⟨gb397, 1, none⟩) (Kd.R_far (p := ⟨gb397, 0, none⟩) (Kd.R_types HO384.out BK397.out (by decide)) (fun _ hk => hk.2) (.int .i64 t390)) (fun _ hk => hk.2) (.int .i64 t391)) (fun _ hk => hk.2) (.int .i64 t392)) (fun _ hk => hk.2) (.slice Ao102 t393.length co102)) (fun _ h_ => h_.1))) (Kd.R_base ho0) hb); have n2_ := Aside0.mk (Kd.R_elder' (by (with_reducible repeat (first | apply Kd.R_alloc | apply Kd.R_drewN | apply Kd.R_drew)); exact (Kd.R_mono (Kd.R_far (p := ⟨gb397, 3, none⟩) (Kd.R_far (p := ⟨gb397, 2, none⟩) (Kd.R_far (p := ⟨gb397, 1, none⟩) (Kd.R_far (p := ⟨gb397, 0, none⟩) (Kd.R_types HO388.out BK397.out (by decide)) (fun _ hk => hk.2) (.int .i64 t390)) (fun _ hk => hk.2) (.int .i64 t391)) (fun _ hk => hk.2) (.int .i64 t392)) (fun _ hk => hk.2) (.slice Ao102 t393.length co102)) (fun _ h_ => h_.1))) (Kd.R_base ho0) hb); have n3_ := Aside0.mk (Kd.R_elder' (by (with_reducible repeat (first | apply Kd.R_alloc | apply Kd.R_drewN | apply Kd.R_drew)); exact (Kd.R_mono (Kd.R_far (p := ⟨gb397, 3, none⟩) (Kd.R_far (p := ⟨gb397, 2, none⟩) (Kd.R_far (p := ⟨gb397, 1, none⟩) (Kd.R_far (p := ⟨gb397, 0, none⟩) (Kd.R_types HO395.out BK397.out (by decide)) (fun _ hk => hk.2) (.int .i64 t390)) (fun _ hk => hk.2) (.int .i64 t391)) (fun _ hk => hk.2) (.int .i64 t392)) (fun _ hk => hk.2) (.slice Ao102 t393.length co102)) (fun _ h_ => h_.1))) (Kd.R_base ho0) hb); have n4_ := Aside0.mk (Kd.R_lower (Kd.R_new' (Kd.R_new' (Kd.R_new' (Kd.R_new' ho0 (Kd.R_lt q0_)) (Kd.R_lt (by (with_reducible repeat (first | apply Kd.R_alloc | apply Kd.R_drewN | apply Kd.R_drew)); exact (Kd.R_mono (Kd.R_far (p := ⟨gb397, 3, none⟩) (Kd.R_far (p := ⟨gb397, 2, none⟩) (Kd.R_far (p := ⟨gb397, 1, none⟩) (Kd.R_far (p := ⟨gb397, 0, none⟩) (Kd.R_types HO384.out BK397.out (by decide)) (fun _ hk => hk.2) (.int .i64 t390)) (fun _ hk => hk.2) (.int .i64 t391)) (fun _ hk => hk.2) (.int .i64 t392)) (fun _ hk => hk.2) (.slice Ao102 t393.length co102)) (fun _ h_ => h_.1))))) (Kd.R_lt (by (with_reducible repeat (first | apply Kd.R_alloc | apply Kd.R_drewN | apply Kd.R_drew)); exact (Kd.R_mono (Kd.R_far (p := ⟨gb397, 3, none⟩) (Kd.R_far (p := ⟨gb397, 2, none⟩) (Kd.R_far (p := ⟨gb397, 1, none⟩) (Kd.R_far (p := ⟨gb397, 0, none⟩) (Kd.R_types HO388.out BK397.out (by decide)) (fun _ hk => hk.2) (.int .i64 t390)) (fun _ hk => hk.2) (.int .i64 t391)) (fun _ hk => hk.2) (.int .i64 t392)) (fun _ hk => hk.2) (.slice Ao102 t393.length co102)) (fun _ h_ => h_.1))))) (Kd.R_lt (by (with_reducible repeat (first | apply Kd.R_alloc | apply Kd.R_drewN | apply Kd.R_drew)); exact (Kd.R_mono (Kd.R_far (p := ⟨gb397, 3, none⟩) (Kd.R_far (p := ⟨gb397, 2, none⟩) (Kd.R_far (p := ⟨gb397, 1, none⟩) (Kd.R_far (p := ⟨gb397, 0, none⟩) (Kd.R_types HO395.out BK397.out (by decide)) (fun _ hk => hk.2) (.int .i64 t390)) (fun _ hk => hk.2) (.int .i64 t391)) (fun _ hk => hk.2) (.int .i64 t392)) (fun _ hk => hk.2) (.slice Ao102 t393.length co102)) (fun _ h_ => h_.1))))) (below_size q3_)); have n5_ := Aside0.mk (blk_below (g := gb333) (o := .cells #[.int .i64 a4_0, .int .i64 a4_1, .int .i64 a4_2, .int .i64 a4_3] 39 (0, 0)) (by (with_reducible repeat (first | refine blk_drewN ?_ _ | refine blk_drew ?_ | refine blk_alloc ?_ _)); refine blk_far ?_ NB333_397.out _; (with_reducible repeat (first | refine blk_drewN ?_ _ | refine blk_drew ?_ | refine blk_alloc ?_ _)); refine blk_far ?_ NB333_397.out _; (with_reducible repeat (first | refine blk_drewN ?_ _ | refine blk_drew ?_ | refine blk_alloc ?_ _)); refine blk_far ?_ NB333_397.out _; (with_reducible repeat (first | refine blk_drewN ?_ _ | refine blk_drew ?_ | refine blk_alloc ?_ _)); refine blk_far ?_ NB333_397.out _; (with_reducible repeat (first | refine blk_drewN ?_ _ | refine blk_drew ?_ | refine blk_alloc ?_ _)); exact BK333.out) hb); have n6_ := Aside0.mk (blk_below (g := gb366) (o := .cells #[.int .i64 x367000_60, .int .i64 x367001_60, .int .i64 x367002_60, .slice Ao89 x367003_60.length co89] 26 (0, 0)) (by (with_reducible repeat (first | refine blk_drewN ?_ _ | refine blk_drew ?_ | refine blk_alloc ?_ _)); refine blk_far ?_ NB366_397.out _; (with_reducible repeat (first | refine blk_drewN ?_ _ | refine blk_drew ?_ | refine blk_alloc ?_ _)); refine blk_far ?_ NB366_397.out _; (with_reducible repeat (first | refine blk_drewN ?_ _ | refine blk_drew ?_ | refine blk_alloc ?_ _)); refine blk_far ?_ NB366_397.out _; (with_reducible repeat (first | refine blk_drewN ?_ _ | refine blk_drew ?_ | refine blk_alloc ?_ _)); refine blk_far ?_ NB366_397.out _; (with_reducible repeat (first | refine blk_drewN ?_ _ | refine blk_drew ?_ | refine blk_alloc ?_ _)); exact BK366.out) hb); have n7_ := Aside0.mk (blk_below (g := gb372) (o := .cells #[.int .i64 x373000_34, .int .i64 x373001_34, .int .i64 x373002_34, .int .i64 x373003_34] 39 (0, 0)) (by (with_reducible repeat (first | refine blk_drewN ?_ _ | refine blk_drew ?_ | refine blk_alloc ?_ _)); refine blk_far ?_ NB372_397.out _; (with_reducible repeat (first | refine blk_drewN ?_ _ | refine blk_drew ?_ | refine blk_alloc ?_ _)); refine blk_far ?_ NB372_397.out _; (with_reducible repeat (first | refine blk_drewN ?_ _ | refine blk_drew ?_ | refine blk_alloc ?_ _)); refine blk_far ?_ NB372_397.out _; (with_reducible repeat (first | refine blk_drewN ?_ _ | refine blk_drew ?_ | refine blk_alloc ?_ _)); refine blk_far ?_ NB372_397.out _; (with_reducible repeat (first | refine blk_drewN ?_ _ | refine blk_drew ?_ | refine blk_alloc ?_ _)); exact BK372.out) hb); have n8_ := Aside0.mk (IsS55.below (show IsS55 w ((((w96.setCell ⟨gb397, 0, none⟩ (.int .i64 t390)).setCell ⟨gb397, 1, none⟩ (.int .i64 t391)).setCell ⟨gb397, 2, none⟩ (.int .i64 t392)).setCell ⟨gb397, 3, none⟩ (.slice Ao102 t393.length co102)) g336 t334 x337001_60 from by repeat (first | (with_reducible first | exact HI336.out | apply IsS55.alloc | apply IsS55.drewN | apply IsS55.drew | apply IsS55.set_1 | refine IsS55.far ?_ NB336_333.out _ | refine IsS55.far ?_ NB336_366.out _ | refine IsS55.far ?_ NB336_372.out _ | refine IsS55.far ?_ NB336_397.out _) | exact HI336.out)) hb); have n9_ := Aside0.mk (blk_below (g := gb397) (o := .cells #[.int .i64 t390, .int .i64 t391, .int .i64 t392, .slice Ao102 t393.length co102] 26 (0, 0)) (by (with_reducible repeat (first | refine blk_drewN ?_ _ | refine blk_drew ?_ | refine blk_alloc ?_ _)); refine blk_put (cs := #[.int .i64 t390, .int .i64 t391, .int .i64 t392, .slice none 0 0]) ?_ 3 _ rfl; (with_reducible repeat (first | refine blk_drewN ?_ _ | refine blk_drew ?_ | refine blk_alloc ?_ _)); refine blk_put (cs := #[.int .i64 t390, .int .i64 t391, .int .i64 0, .slice none 0 0]) ?_ 2 _ rfl; (with_reducible repeat (first | refine blk_drewN ?_ _ | refine blk_drew ?_ | refine blk_alloc ?_ _)); refine blk_put (cs := #[.int .i64 t390, .int .i64 0, .int .i64 0, .slice none 0 0]) ?_ 1 _ rfl; (with_reducible repeat (first | refine blk_drewN ?_ _ | refine blk_drew ?_ | refine blk_alloc ?_ _)); refine blk_put (cs := #[.int .i64 0, .int .i64 0, .int .i64 0, .slice none 0 0]) ?_ 0 _ rfl; (with_reducible repeat (first | refine blk_drewN ?_ _ | refine blk_drew ?_ | refine blk_alloc ?_ _)); exact BK397.out) hb); have n10_ := Aside0.mk (below_step q3_ hb); clear HO_367003; clear HO384; clear HO388; clear HO395; clear BK333; clear BK366; clear BK372; clear HI336; clear BK397; clear HB; have HO_367003 := n0_; have HO384 := n1_; have HO388 := n2_; have HO395 := n3_; have HO403 := n4_; have BK333 := n5_; have BK366 := n6_; have BK372 := n7_; have HI336 := n8_; have BK397 := n9_; have HB := n10_; clear n0_ n1_ n2_ n3_ n4_ n5_ n6_ n7_ n8_ n9_ n10_; (try clear hb); (try clear hb2); (try clear hk); (try clear hi); (try clear ho0)) | ((with_reducible refine gate_dst (N := 26) rfl ?_); refine box_event ?hg (N := 26) ?hd (cs := #[.int .i64 0, .int .i64 0, .int .i64 0, .slice none 0 0]) (t := 26) ?hr ?_; (case hd => rfl); (case hg => rfl); (case hr => first | (go_simp; done) | (go_simp; rfl)); intro gb405 hg w105 hbox hb; have n0_ := Aside0.mk (Kd.R_below q137_ hb); have n1_ := Aside0.mk (Kd.R_below q148_ hb); have n2_ := Aside0.mk (Kd.R_below q149_ hb); have n3_ := Aside0.mk (Kd.R_below (by (with_reducible repeat (first | apply Kd.R_alloc | apply Kd.R_drewN | apply Kd.R_drew)); exact HO395.out) hb); have n4_ := Aside0.mk (Kd.R_below (by (with_reducible repeat (first | apply Kd.R_alloc | apply Kd.R_drewN | apply Kd.R_drew)); exact HO403.out) hb); have n5_ := Aside0.mk (blk_below (g := gb333) (o := .cells #[.int .i64 a4_0, .int .i64 a4_1, .int .i64 a4_2, .int .i64 a4_3] 39 (0, 0)) q132_ hb); have n6_ := Aside0.mk (blk_below (g := gb366) (o := .cells #[.int .i64 x367000_60, .int .i64 x367001_60, .int .i64 x367002_60, .slice Ao89 x367003_60.length co89] 26 (0, 0)) q133_ hb); have n7_ := Aside0.mk (blk_below (g := gb372) (o := .cells #[.int .i64 x373000_34, .int .i64 x373001_34, .int .i64 x373002_34, .int .i64 x373003_34] 39 (0, 0)) q134_ hb); have n8_ := Aside0.mk (IsS55.below (by repeat (first | (with_reducible first | exact HI336.out | apply IsS55.alloc | apply IsS55.drewN | apply IsS55.drew | apply IsS55.set_1 | refine IsS55.far ?_ NB336_333.out _ | refine IsS55.far ?_ NB336_366.out _ | refine IsS55.far ?_ NB336_372.out _ | refine IsS55.far ?_ NB336_397.out _) | exact HI336.out)) hb); have n9_ := Aside0.mk (blk_below (g := gb397) (o := .cells #[.int .i64 t390, .int .i64 t391, .int .i64 t392, .slice Ao102 t393.length co102] 26 (0, 0)) q135_ hb); have n10_ := Aside0.mk (below_step q3_ hb); have n11_ := Aside0.mk (hbox); have n12_ := Aside0.mk ((by rw [hg]; exact (below_size q3_) : w.heap.size ≤ gb405)); have n13_ := Aside0.mk ((by rw [hg]; exact (below_size q3_) : w.heap.size ≤ gb405)); have n14_ := Aside0.mk ((q26_ : gb333 ≠ gb405)); have n15_ := Aside0.mk ((q27_ : gb405 ≠ gb333)); have n16_ := Aside0.mk ((by rw [hg]; exact Nat.ne_of_lt (blk_lt (g := gb366) (o := .cells #[.int .i64 x367000_60, .int .i64 x367001_60, .int .i64 x367002_60, .slice Ao89 x367003_60.length co89] 26 (0, 0)) q133_) : gb366 ≠ gb405)); have n17_ := Aside0.mk ((by rw [hg]; exact Nat.ne_of_gt (blk_lt (g := gb366) (o := .cells #[.int .i64 x367000_60, .int .i64 x367001_60, .int .i64 x367002_60, .slice Ao89 x367003_60.length co89] 26 (0, 0)) q133_) : gb405 ≠ gb366)); have n18_ := Aside0.mk ((by rw [hg]; exact Nat.ne_of_lt (blk_lt (g := gb372) (o := .cells #[.int .i64 x373000_34, .int .i64 x373001_34, .int .i64 x373002_34, .int .i64 x373003_34] 39 (0, 0)) q134_) : gb372 ≠ gb405)); have n19_ := Aside0.mk ((by rw [hg]; exact Nat.ne_of_gt (blk_lt (g := gb372) (o := .cells #[.int .i64 x373000_34, .int .i64 x373001_34, .int .i64 x373002_34, .int .i64 x373003_34] 39 (0, 0)) q134_) : gb405 ≠ gb372)); have n20_ := Aside0.mk ((by rw [hg]; exact Nat.ne_of_lt (blk_lt (g := gb397) (o := .cells #[.int .i64 t390, .int .i64 t391, .int .i64 t392, .slice Ao102 t393.length co102] 26 (0, 0)) q135_) : gb397 ≠ gb405)); have n21_ := Aside0.mk ((by rw [hg]; exact Nat.ne_of_gt (blk_lt (g := gb397) (o := .cells #[.int .i64 t390, .int .i64 t391, .int .i64 t392, .slice Ao102 t393.length co102] 26 (0, 0)) q135_) : gb405 ≠ gb397)); have n22_ := Aside0.mk ((by rw [hg]; exact Nat.ne_of_lt (IsS55.lt (show IsS55 w _ g336 t334 x337001_60 from by repeat (first | (with_reducible first | exact HI336.out | apply IsS55.alloc | apply IsS55.drewN | apply IsS55.drew | apply IsS55.set_1 | refine IsS55.far ?_ NB336_333.out _ | refine IsS55.far ?_ NB336_366.out _ | refine IsS55.far ?_ NB336_372.out _ | refine IsS55.far ?_ NB336_397.out _) | exact HI336.out))) : g336 ≠ gb405)); have n23_ := Aside0.mk ((by rw [hg]; exact Nat.ne_of_gt (IsS55.lt (show IsS55 w _ g336 t334 x337001_60 from by repeat (first | (with_reducible first | exact HI336.out | apply IsS55.alloc | apply IsS55.drewN | apply IsS55.drew | apply IsS55.set_1 | refine IsS55.far ?_ NB336_333.out _ | refine IsS55.far ?_ NB336_366.out _ | refine IsS55.far ?_ NB336_372.out _ | refine IsS55.far ?_ NB336_397.out _) | exact HI336.out))) : gb405 ≠ g336)); clear HO_367003; clear HO384; clear HO388; clear HO395; clear HO403; clear BK333; clear BK366; clear BK372; clear HI336; clear BK397; clear HB; have HO_367003 := n0_; have HO384 := n1_; have HO388 := n2_; have HO395 := n3_; have HO403 := n4_; have BK333 := n5_; have BK366 := n6_; have BK372 := n7_; have HI336 := n8_; have BK397 := n9_; have HB := n10_; have BK405 := n11_; have GW405 := n12_; have GE405 := n13_; have NB333_405 := n14_; have NB405_333 := n15_; have NB366_405 := n16_; have NB405_366 := n17_; have NB372_405 := n18_; have NB405_372 := n19_; have NB397_405 := n20_; have NB405_397 := n21_; have NB336_405 := n22_; have NB405_336 := n23_; clear n0_ n1_ n2_ n3_ n4_ n5_ n6_ n7_ n8_ n9_ n10_ n11_ n12_ n13_ n14_ n15_ n16_ n17_ n18_ n19_ n20_ n21_ n22_ n23_; clear hb hbox hg; have hnb106 := NB405_333.out; have hnc106 := NB333_405.out; have hnb107 := NB405_366.out; have hnc107 := NB366_405.out; have hnb108 := NB405_372.out; have hnc108 := NB372_405.out; have hnb109 := NB405_397.out; have hnc109 := NB397_405.out; have hnb110 := NB405_336.out; have hnc110 := NB336_405.out; have hcz111_0 : w105.cell? ⟨gb405, 0, none⟩ = some (.int .i64 0) := (blk_cell BK405.out 0).trans rfl; have hcz111_1 : w105.cell? ⟨gb405, 1, none⟩ = some (.int .i64 0) := (blk_cell BK405.out 1).trans rfl; have hcz111_2 : w105.cell? ⟨gb405, 2, none⟩ = some (.int .i64 0) := (blk_cell BK405.out 2).trans rfl; have hcz111_3 : w105.cell? ⟨gb405, 3, none⟩ = some (.slice none 0 0) := (blk_cell BK405.out 3).trans rfl; have hfz111_0 := blk_frozen BK405.out 0; have hfz111_1 := blk_frozen BK405.out 1; have hfz111_2 := blk_frozen BK405.out 2; have hfz111_3 := blk_frozen BK405.out 3; obtain ⟨Ao112, co112, eo112⟩ := Kd.R_slice HO403.out; subst eo112; obtain ⟨Ao113, co113, eo113⟩ := Kd.R_slice HO384.out; subst eo113; obtain ⟨Ao114, co114, eo114⟩ := Kd.R_slice HO388.out; subst eo114) | ((with_reducible refine gate_callee (f := 24) rfl ?_); refine goesL_ (some 126) rfl rfl Try.func24 (by kernel_rfl) rfl #[.slice Ao113 t382.length co113, .slice Ao114 t386.length co114] rfl q100_ ?_; (with_reducible refine (tilefarmref4_Same.calls kj60 _ _ t382 _ _ t386 true _ ?side1 ?side2 ?side3 ?side4 A76.out).mono ?_); (case side1 => refine (Kd.R_reads' (e := 3) (base := w.heap.size) (ok := fun k_ => ((((True ∧ some k_ ≠ (.slice Ao89 x367003_60.length co89 : Value).ownBlock) ∧ some k_ ≠ (.slice Ao114 t386.length co114 : Value).ownBlock) ∧ some k_ ≠ (.slice Ao102 t393.length co102 : Value).ownBlock) ∧ some k_ ≠ (.slice Ao112 t401.length co112 : Value).ownBlock)) (n := t382.length) (c := co113) ?_).2.2; exact (by (with_reducible repeat (first | apply Kd.R_alloc | apply Kd.R_drewN | apply Kd.R_drew)); exact (Kd.R_mono (Kd.R_far (p := ⟨gb405, 3, none⟩) (Kd.R_far (p := ⟨gb405, 2, none⟩) (Kd.R_far (p := ⟨gb405, 1, none⟩) (Kd.R_far (p := ⟨gb405, 0, none⟩) (Kd.R_types HO384.out BK405.out (by decide)) (fun _ hk => hk.2) (.int .i64 t398)) (fun _ hk => hk.2) (.int .i64 t399)) (fun _ hk => hk.2) (.int .i64 t400)) (fun _ hk => hk.2) (.slice Ao112 t401.length co112)) (fun _ h_ => h_.1)))); (case side2 => exact (Kd.R_reads' HO384.out).2.1); (case side3 => refine (Kd.R_reads' (e := 3) (base := w.heap.size) (ok := fun k_ => ((((True ∧ some k_ ≠ (.slice Ao89 x367003_60.length co89 : Value).ownBlock) ∧ some k_ ≠ (.slice Ao113 t382.length co113 : Value).ownBlock) ∧ some k_ ≠ (.slice Ao102 t393.length co102 : Value).ownBlock) ∧ some k_ ≠ (.slice Ao112 t401.length co112 : Value).ownBlock)) (n := t386.length) (c := co114) ?_).2.2; exact (by (with_reducible repeat (first | apply Kd.R_alloc | apply Kd.R_drewN | apply Kd.R_drew)); exact (Kd.R_mono (Kd.R_far (p := ⟨gb405, 3, none⟩) (Kd.R_far (p := ⟨gb405, 2, none⟩) (Kd.R_far (p := ⟨gb405, 1, none⟩) (Kd.R_far (p := ⟨gb405, 0, none⟩) (Kd.R_types HO388.out BK405.out (by decide)) (fun _ hk => hk.2) (.int .i64 t398)) (fun _ hk => hk.2) (.int .i64 t399)) (fun _ hk => hk.2) (.int .i64 t400)) (fun _ hk => hk.2) (.slice Ao112 t401.length co112)) (fun _ h_ => h_.1)))); (case side4 => exact (Kd.R_reads' HO388.out).2.1); rintro e w' ⟨rfl, ⟨nd, rfl⟩⟩; refine ⟨_, rfl, ?_⟩; have hcz115_0 : w105.cell? ⟨gb397, 0, none⟩ = some (.int .i64 t390) := (blk_cell BK397.out 0).trans rfl; have hcz115_1 : w105.cell? ⟨gb397, 1, none⟩ = some (.int .i64 t391) := (blk_cell BK397.out 1).trans rfl; have hcz115_2 : w105.cell? ⟨gb397, 2, none⟩ = some (.int .i64 t392) := (blk_cell BK397.out 2).trans rfl; have hcz115_3 : w105.cell? ⟨gb397, 3, none⟩ = some (.slice Ao102 t393.length co102) := (blk_cell BK397.out 3).trans rfl; have hfz115_0 := blk_frozen BK397.out 0; have hfz115_1 := blk_frozen BK397.out 1; have hfz115_2 := blk_frozen BK397.out 2; have hfz115_3 := blk_frozen BK397.out 3) | (go_at_call 14; (with_reducible refine (tilefarmref4_Equal.calls kj60 t390 t391 t392 _ _ t393 t398 t399 t400 _ _ t401 true _ ?side1 ?side2 ?side3 ?side4 A79.out).mono ?_); (case side1 => refine (Kd.R_reads' (e := 3) (base := w.heap.size) (ok := fun k_ => ((((True ∧ some k_ ≠ (.slice Ao89 x367003_60.length co89 : Value).ownBlock) ∧ some k_ ≠ (.slice Ao113 t382.length co113 : Value).ownBlock) ∧ some k_ ≠ (.slice Ao114 t386.length co114 : Value).ownBlock) ∧ some k_ ≠ (.slice Ao112 t401.length co112 : Value).ownBlock)) (n := t393.length) (c := co102) ?_).2.2; exact (by (with_reducible repeat (first | apply Kd.R_alloc | apply Kd.R_drewN | apply Kd.R_drew)); exact (Kd.R_mono (Kd.R_far (p := ⟨gb405, 3, none⟩) (Kd.R_far (p := ⟨gb405, 2, none⟩) (Kd.R_far (p := ⟨gb405, 1, none⟩) (Kd.R_far (p := ⟨gb405, 0, none⟩) (Kd.R_types HO395.out BK405.out (by decide)) (fun _ hk => hk.2) (.int .i64 t398)) (fun _ hk => hk.2) (.int .i64 t399)) (fun _ hk => hk.2) (.int .i64 t400)) (fun _ hk => hk.2) (.slice Ao112 t401.length co112)) (fun _ h_ => h_.1)))); (case side2 => exact (Kd.R_reads' HO395.out).2.1); (case side3 => refine (Kd.R_reads' (e := 3) (base := w.heap.size) (ok := fun k_ => ((((True ∧ some k_ ≠ (.slice Ao89 x367003_60.length co89 : Value).ownBlock) ∧ some k_ ≠ (.slice Ao113 t382.length co113 : Value).ownBlock) ∧ some k_ ≠ (.slice Ao114 t386.length co114 : Value).ownBlock) ∧ some k_ ≠ (.slice Ao102 t393.length co102 : Value).ownBlock)) (n := t401.length) (c := co112) ?_).2.2; exact (by (with_reducible repeat (first | apply Kd.R_alloc | apply Kd.R_drewN | apply Kd.R_drew)); exact (Kd.R_mono (Kd.R_far (p := ⟨gb405, 3, none⟩) (Kd.R_far (p := ⟨gb405, 2, none⟩) (Kd.R_far (p := ⟨gb405, 1, none⟩) (Kd.R_far (p := ⟨gb405, 0, none⟩) (Kd.R_types HO403.out BK405.out (by decide)) (fun _ hk => hk.2) (.int .i64 t398)) (fun _ hk => hk.2) (.int .i64 t399)) (fun _ hk => hk.2) (.int .i64 t400)) (fun _ hk => hk.2) (.slice Ao112 t401.length co112)) (fun _ h_ => h_.1)))); (case side4 => exact (Kd.R_reads' HO403.out).2.1); rintro e w116 ⟨rfl, hb⟩; have n0_ := Aside0.mk (Kd.R_below (by (with_reducible repeat (first | apply Kd.R_alloc | apply Kd.R_drewN | apply Kd.R_drew)); exact (Kd.R_mono (Kd.R_far (p := ⟨gb405, 3, none⟩) (Kd.R_far (p := ⟨gb405, 2, none⟩) (Kd.R_far (p := ⟨gb405, 1, none⟩) (Kd.R_far (p := ⟨gb405, 0, none⟩) (Kd.R_types HO_367003.out BK405.out (by decide)) (fun _ hk => hk.2) (.int .i64 t398)) (fun _ hk => hk.2) (.int .i64 t399)) (fun _ hk => hk.2) (.int .i64 t400)) (fun _ hk => hk.2) (.slice Ao112 t401.length co112)) (fun _ h_ => h_.1))) hb); have n1_ := Aside0.mk (Kd.R_below (by (with_reducible repeat (first | apply Kd.R_alloc | apply Kd.R_drewN | apply Kd.R_drew)); exact (Kd.R_mono (Kd.R_far (p := ⟨gb405, 3, none⟩) (Kd.R_far (p := ⟨gb405, 2, none⟩) (Kd.R_far (p := ⟨gb405, 1, none⟩) (Kd.R_far (p := ⟨gb405, 0, none⟩) (Kd.R_types HO384.out BK405.out (by decide)) (fun _ hk => hk.2) (.int .i64 t398)) (fun _ hk => hk.2) (.int .i64 t399)) (fun _ hk => hk.2) (.int .i64 t400)) (fun _ hk => hk.2) (.slice Ao112 t401.length co112)) (fun _ h_ => h_.1))) hb); have n2_ := Aside0.mk (Kd.R_below (by (with_reducible repeat (first | apply Kd.R_alloc | apply Kd.R_drewN | apply Kd.R_drew)); exact (Kd.R_mono (Kd.R_far (p := ⟨gb405, 3, none⟩) (Kd.R_far (p := ⟨gb405, 2, none⟩) (Kd.R_far (p := ⟨gb405, 1, none⟩) (Kd.R_far (p := ⟨gb405, 0, none⟩) (Kd.R_types HO388.out BK405.out (by decide)) (fun _ hk => hk.2) (.int .i64 t398)) (fun _ hk => hk.2) (.int .i64 t399)) (fun _ hk => hk.2) (.int .i64 t400)) (fun _ hk => hk.2) (.slice Ao112 t401.length co112)) (fun _ h_ => h_.1))) hb); have n3_ := Aside0.mk (Kd.R_below (by (with_reducible repeat (first | apply Kd.R_alloc | apply Kd.R_drewN | apply Kd.R_drew)); exact (Kd.R_mono (Kd.R_far (p := ⟨gb405, 3, none⟩) (Kd.R_far (p := ⟨gb405, 2, none⟩) (Kd.R_far (p := ⟨gb405, 1, none⟩) (Kd.R_far (p := ⟨gb405, 0, none⟩) (Kd.R_types HO395.out BK405.out (by decide)) (fun _ hk => hk.2) (.int .i64 t398)) (fun _ hk => hk.2) (.int .i64 t399)) (fun _ hk => hk.2) (.int .i64 t400)) (fun _ hk => hk.2) (.slice Ao112 t401.length co112)) (fun _ h_ => h_.1))) hb); have n4_ := Aside0.mk (Kd.R_below (by (with_reducible repeat (first | apply Kd.R_alloc | apply Kd.R_drewN | apply Kd.R_drew)); exact (Kd.R_mono (Kd.R_far (p := ⟨gb405, 3, none⟩) (Kd.R_far (p := ⟨gb405, 2, none⟩) (Kd.R_far (p := ⟨gb405, 1, none⟩) (Kd.R_far (p := ⟨gb405, 0, none⟩) (Kd.R_types HO403.out BK405.out (by decide)) (fun _ hk => hk.2) (.int .i64 t398)) (fun _ hk => hk.2) (.int .i64 t399)) (fun _ hk => hk.2) (.int .i64 t400)) (fun _ hk => hk.2) (.slice Ao112 t401.length co112)) (fun _ h_ => h_.1))) hb); have n5_ := Aside0.mk (blk_below (g := gb333) (o := .cells #[.int .i64 a4_0, .int .i64 a4_1, .int .i64 a4_2, .int .i64 a4_3] 39 (0, 0)) (by (with_reducible repeat (first | refine blk_drewN ?_ _ | refine blk_drew ?_ | refine blk_alloc ?_ _)); refine blk_far ?_ NB333_405.out _; (with_reducible repeat (first | refine blk_drewN ?_ _ | refine blk_drew ?_ | refine blk_alloc ?_ _)); refine blk_far ?_ NB333_405.out _; (with_reducible repeat (first | refine blk_drewN ?_ _ | refine blk_drew ?_ | refine blk_alloc ?_ _)); refine blk_far ?_ NB333_405.out _; (with_reducible repeat (first | refine blk_drewN ?_ _ | refine blk_drew ?_ | refine blk_alloc ?_ _)); refine blk_far ?_ NB333_405.out _; (with_reducible repeat (first | refine blk_drewN ?_ _ | refine blk_drew ?_ | refine blk_alloc ?_ _)); exact BK333.out) hb); have n6_ := Aside0.mk (blk_below (g := gb366) (o := .cells #[.int .i64 x367000_60, .int .i64 x367001_60, .int .i64 x367002_60, .slice Ao89 x367003_60.length co89] 26 (0, 0)) (by (with_reducible repeat (first | refine blk_drewN ?_ _ | refine blk_drew ?_ | refine blk_alloc ?_ _)); refine blk_far ?_ NB366_405.out _; (with_reducible repeat (first | refine blk_drewN ?_ _ | refine blk_drew ?_ | refine blk_alloc ?_ _)); refine blk_far ?_ NB366_405.out _; (with_reducible repeat (first | refine blk_drewN ?_ _ | refine blk_drew ?_ | refine blk_alloc ?_ _)); refine blk_far ?_ NB366_405.out _; (with_reducible repeat (first | refine blk_drewN ?_ _ | refine blk_drew ?_ | refine blk_alloc ?_ _)); refine blk_far ?_ NB366_405.out _; (with_reducible repeat (first | refine blk_drewN ?_ _ | refine blk_drew ?_ | refine blk_alloc ?_ _)); exact BK366.out) hb); have n7_ := Aside0.mk (blk_below (g := gb372) (o := .cells #[.int .i64 x373000_34, .int .i64 x373001_34, .int .i64 x373002_34, .int .i64 x373003_34] 39 (0, 0)) (by (with_reducible repeat (first | refine blk_drewN ?_ _ | refine blk_drew ?_ | refine blk_alloc ?_ _)); refine blk_far ?_ NB372_405.out _; (with_reducible repeat (first | refine blk_drewN ?_ _ | refine blk_drew ?_ | refine blk_alloc ?_ _)); refine blk_far ?_ NB372_405.out _; (with_reducible repeat (first | refine blk_drewN ?_ _ | refine blk_drew ?_ | refine blk_alloc ?_ _)); refine blk_far ?_ NB372_405.out _; (with_reducible repeat (first | refine blk_drewN ?_ _ | refine blk_drew ?_ | refine blk_alloc ?_ _)); refine blk_far ?_ NB372_405.out _; (with_reducible repeat (first | refine blk_drewN ?_ _ | refine blk_drew ?_ | refine blk_alloc ?_ _)); exact BK372.out) hb); have n8_ := Aside0.mk (IsS55.below (show IsS55 w (((((w105.setCell ⟨gb405, 0, none⟩ (.int .i64 t398)).setCell ⟨gb405, 1, none⟩ (.int .i64 t399)).setCell ⟨gb405, 2, none⟩ (.int .i64 t400)).setCell ⟨gb405, 3, none⟩ (.slice Ao112 t401.length co112)).drewN nd) g336 t334 x337001_60 from by repeat (first | (with_reducible first | exact HI336.out | apply IsS55.alloc | apply IsS55.drewN | apply IsS55.drew | apply IsS55.set_1 | refine IsS55.far ?_ NB336_333.out _ | refine IsS55.far ?_ NB336_366.out _ | refine IsS55.far ?_ NB336_372.out _ | refine IsS55.far ?_ NB336_397.out _ | refine IsS55.far ?_ NB336_405.out _) | exact HI336.out)) hb); have n9_ := Aside0.mk (blk_below (g := gb397) (o := .cells #[.int .i64 t390, .int .i64 t391, .int .i64 t392, .slice Ao102 t393.length co102] 26 (0, 0)) (by (with_reducible repeat (first | refine blk_drewN ?_ _ | refine blk_drew ?_ | refine blk_alloc ?_ _)); refine blk_far ?_ NB397_405.out _; (with_reducible repeat (first | refine blk_drewN ?_ _ | refine blk_drew ?_ | refine blk_alloc ?_ _)); refine blk_far ?_ NB397_405.out _; (with_reducible repeat (first | refine blk_drewN ?_ _ | refine blk_drew ?_ | refine blk_alloc ?_ _)); refine blk_far ?_ NB397_405.out _; (with_reducible repeat (first | refine blk_drewN ?_ _ | refine blk_drew ?_ | refine blk_alloc ?_ _)); refine blk_far ?_ NB397_405.out _; (with_reducible repeat (first | refine blk_drewN ?_ _ | refine blk_drew ?_ | refine blk_alloc ?_ _)); exact BK397.out) hb); have n10_ := Aside0.mk (blk_below (g := gb405) (o := .cells #[.int .i64 t398, .int .i64 t399, .int .i64 t400, .slice Ao112 t401.length co112] 26 (0, 0)) (by (with_reducible repeat (first | refine blk_drewN ?_ _ | refine blk_drew ?_ | refine blk_alloc ?_ _)); refine blk_put (cs := #[.int .i64 t398, .int .i64 t399, .int .i64 t400, .slice none 0 0]) ?_ 3 _ rfl; (with_reducible repeat (first | refine blk_drewN ?_ _ | refine blk_drew ?_ | refine blk_alloc ?_ _)); refine blk_put (cs := #[.int .i64 t398, .int .i64 t399, .int .i64 0, .slice none 0 0]) ?_ 2 _ rfl; (with_reducible repeat (first | refine blk_drewN ?_ _ | refine blk_drew ?_ | refine blk_alloc ?_ _)); refine blk_put (cs := #[.int .i64 t398, .int .i64 0, .int .i64 0, .slice none 0 0]) ?_ 1 _ rfl; (with_reducible repeat (first | refine blk_drewN ?_ _ | refine blk_drew ?_ | refine blk_alloc ?_ _)); refine blk_put (cs := #[.int .i64 0, .int .i64 0, .int .i64 0, .slice none 0 0]) ?_ 0 _ rfl; (with_reducible repeat (first | refine blk_drewN ?_ _ | refine blk_drew ?_ | refine blk_alloc ?_ _)); exact BK405.out) hb); have n11_ := Aside0.mk (below_step (by repeat (first | (with_reducible first | exact HB.out | apply below_alloc | apply pw_below_drewN | apply below_drew1 | refine below_set ?_ (IsS55.ge HI336.out) | refine below_set ?_ GE333.out | refine below_set ?_ GE366.out | refine below_set ?_ GE372.out | refine below_set ?_ GE397.out | refine below_set ?_ GE405.out) | exact HB.out)) hb); clear HO_367003; clear HO384; clear HO388; clear HO395; clear HO403; clear BK333; clear BK366; clear BK372; clear HI336; clear BK397; clear BK405; clear HB; have HO_367003 := n0_; have HO384 := n1_; have HO388 := n2_; have HO395 := n3_; have HO403 := n4_; have BK333 := n5_; have BK366 := n6_; have BK372 := n7_; have HI336 := n8_; have BK397 := n9_; have BK405 := n10_; have HB := n11_; clear n0_ n1_ n2_ n3_ n4_ n5_ n6_ n7_ n8_ n9_ n10_ n11_; (try clear hb); (try clear hb2); (try clear hk); (try clear hi)))
                              go_roundg kj60
                              case measure => have := HK1.out; have := HK2.out; have := HJ34.out; have := HJ60.out; omega
                              case rel => exact ⟨(wrap64 (x16_2 + 1)), (x337001_60), q156_, H', ⟨by have := HK1.out; have := HK2.out; have := HJ34.out; have := HJ60.out; omega⟩, ⟨q132_⟩, ⟨by repeat (first | (with_reducible first | exact HI336.out | apply IsS55.alloc | apply IsS55.drewN | apply IsS55.drew | apply IsS55.set_1 | refine IsS55.far ?_ NB336_333.out _ | refine IsS55.far ?_ NB336_366.out _ | refine IsS55.far ?_ NB336_372.out _ | refine IsS55.far ?_ NB336_397.out _ | refine IsS55.far ?_ NB336_405.out _) | exact HI336.out)⟩, ⟨by repeat (first | (with_reducible first | exact HB.out | apply below_alloc | apply pw_below_drewN | apply below_drew1 | refine below_set ?_ (IsS55.ge HI336.out) | refine below_set ?_ GE333.out | refine below_set ?_ GE366.out | refine below_set ?_ GE372.out | refine below_set ?_ GE397.out | refine below_set ?_ GE405.out) | exact HB.out)⟩⟩
                            · rw [if_neg c81] at H
                              have c81b0 : (t396 == t404) = false := beq_eq_false_iff_ne.mpr c81
                              have c81b1 : (t396 != t404) = true := bne_iff_ne.mpr c81
                              exact absurd ((Option.some.inj H).trans HT.out) (by decide)
                          · replace c80 := Bool.eq_false_iff.mpr c80
                            subst c80
                            have H1 : (some false) = some r := by rw [if_neg (show ¬ (false = true) by decide)] at H; exact H
                            clear H
                            have H := H1
                            clear H1
                            exact absurd ((Option.some.inj H).trans HT.out) (by decide)
                        · rw [if_neg c78] at H
                          have c78b0 : (t385 == t389) = false := beq_eq_false_iff_ne.mpr c78
                          have c78b1 : (t385 != t389) = true := bne_iff_ne.mpr c78
                          exact absurd ((Option.some.inj H).trans HT.out) (by decide)
                      · replace c77 := Bool.eq_false_iff.mpr c77
                        subst c77
                        have H1 : (some false) = some r := by rw [if_neg (show ¬ (false = true) by decide)] at H; exact H
                        clear H
                        have H := H1
                        clear H1
                        exact absurd ((Option.some.inj H).trans HT.out) (by decide)
            · rw [if_neg c31] at H
              have c31b0 : decide (x16_2 < 3) = false := decide_eq_false c31
              clear c31
              replace H := Option.bind_eq_some_iff.mp H
              obtain ⟨t353, A1170, H⟩ := H
              replace H : (some t353) = some r := H
              have A117 := Aside0.mk A1170
              clear A1170
              obtain rfl := Option.some.inj H
              go_wp2_with (first | ((with_reducible refine gate_callee (f := 16) rfl ?_); refine goesL_ (some 144) rfl rfl Try.func16 (by kernel_rfl) rfl #[] rfl q100_ ?_; (with_reducible refine (tilefarmlaw12_sane.calls k2  t353 _ A117.out).mono ?_); rintro e w118 ⟨rfl, hb⟩; refine ⟨_, rfl, ?_⟩; have n0_ := Aside0.mk (blk_below (g := gb333) (o := .cells #[.int .i64 a4_0, .int .i64 a4_1, .int .i64 a4_2, .int .i64 a4_3] 39 (0, 0)) q132_ hb); have n1_ := Aside0.mk (IsS55.below q71_ hb); have n2_ := Aside0.mk (below_step q51_ hb); clear BK333; clear HI336; clear HB; have BK333 := n0_; have HI336 := n1_; have HB := n2_; clear n0_ n1_ n2_; (try clear hb); (try clear hb2); (try clear hk); (try clear hi)))
              go_ret
              exact ⟨q152_, q51_⟩


def tilefarmlaw12_HistogramCounts.Pure : Prop := ∀ (l0 : List Int) (a1 : Int) (a2 : Int) (a3 : Int) (a4_0 : Int) (a4_1 : Int) (a4_2 : Int) (a4_3 : Int), l0.length ≤ maxLen → l0.length * 8 ≤ 140737488351232 → (∀ x ∈ l0, (Lit.int .i64 x).wf = true) → (Lit.int .i64 a1).wf = true → (Lit.int .i64 a2).wf = true → (Lit.int .i64 a3).wf = true → (Lit.int .i64 a4_0).wf = true → (Lit.int .i64 a4_1).wf = true → (Lit.int .i64 a4_2).wf = true → (Lit.int .i64 a4_3).wf = true → ∃ k, tilefarmlaw12_HistogramCounts.f k l0 a1 a2 a3 a4_0 a4_1 a4_2 a4_3 = some true
theorem tilefarmlaw12_HistogramCounts.walk (P : tilefarmlaw12_HistogramCounts.Pure) (a0 : Option Addr) (len0 cap0 : Nat) (z0 : List Int) (a1 : Int) (a2 : Int) (a3 : Int) (a4_0 : Int) (a4_1 : Int) (a4_2 : Int) (a4_3 : Int) (w : World) (w0 : (a0 = none ∧ len0 = 0 ∧ cap0 = 0 ∧ z0 = []) ∨ ∃ x, a0 = some x ∧ len0 ≤ cap0 ∧ cap0 ≤ maxLen ∧ z0.length = cap0 ∧ (∀ i, i < z0.length → w.cell? (x.add i) = some (.int .i64 (z0.getD i 0))) ∧ ∀ n ∈ z0, (Lit.int .i64 n).wf = true) (y0 : len0 * 8 ≤ 140737488351232) (w1 : (Lit.int .i64 a1).wf = true) (w2 : (Lit.int .i64 a2).wf = true) (w3 : (Lit.int .i64 a3).wf = true) (w4_0 : (Lit.int .i64 a4_0).wf = true) (w4_1 : (Lit.int .i64 a4_1).wf = true) (w4_2 : (Lit.int .i64 a4_2).wf = true) (w4_3 : (Lit.int .i64 a4_3).wf = true) :
    Calls Try.prog 4 #[.slice a0 len0 cap0, .int .i64 a1, .int .i64 a2, .int .i64 a3, .agg #[.int .i64 a4_0, .int .i64 a4_1, .int .i64 a4_2, .int .i64 a4_3]] w fun e w' => e = .returned (.bool true) ∧ Below w.heap.size w w' := by
  obtain ⟨l0, rfl, hr0, hm0, hw0, hc0⟩ := ReadsInt.ofRowC w0
  obtain ⟨k, h⟩ := P l0 a1 a2 a3 a4_0 a4_1 a4_2 a4_3 hm0 y0 hw0 w1 w2 w3 w4_0 w4_1 w4_2 w4_3
  refine (tilefarmlaw12_HistogramCounts.calls k _ _ l0 a1 a2 a3 a4_0 a4_1 a4_2 a4_3 true w (Kd.C_of_reads (d := (0 : Int)) (h1 := fun _ => rfl) hr0) hc0 h).mono ?_
  rintro e w' ⟨rfl, hd⟩
  exact ⟨rfl, hd⟩

end Go.Proofs.Yticicecobchdiaa.PHistogramCounts
