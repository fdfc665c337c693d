-- Written by a program of the session (wip/tools/pack.py): the printed texts, pruned; checked by Lean.
import Derived.Test.YtgkccacenlcebaaKPlaneSharesa
import Derived.Test.YtgkccacenlcebaaKPlaneSharesx0
import Derived.Test.YtgkccacenlcebaaKPlaneSharesx2
import Derived.Test.YtgkccacenlcebaaKPlaneSharesx3
import Derived.Test.YtgkccacenlcebaaKPlaneSharesx4
import Derived.Test.YtgkccacenlcebaaKPlaneSharesx7
import Derived.Test.YtgkccacenlcebaaKPlaneSharesx9
import Derived.Test.YtgkccacenlcebaaKPlaneSharesx10
import Derived.Test.YtgkccacenlcebaaKPlaneSharesx12
namespace Go.Proofs.Ytgkccacenlcebaa.PPlaneShares
open Go.RowKit Go.Proofs.YtgkccacenlcebaaW.PrintWords Go.Proofs.YtgkccacenlcebaaW.PrintLast Go.Proofs.YtgkccacenlcebaaW.PrintMore
attribute [local go_sem] max2_int min2_int max_two min_two max_three min_three max_four min_four   -- for this text's walks alone
set_option linter.unusedVariables false
set_option linter.unusedSimpArgs false
mutual
def tilefarmlaw4_PlaneShares.j0 : Nat → Bool → Int → Int → Int → List Int → Int → Int → Int → List Int → Int → Int → Int → List Int → Int → Int → Int → Int → Int → Int → Int → List Int → Int → Int → Int → List Int → Int → Int → Int → List Int → Option (Bool)
 | 0, _, _, _, _, _, _, _, _, _, _, _, _, _, _, _, _, _, _, _, _, _, _, _, _, _, _, _, _, _ => none
 | k + 1, x71, x315000, x315001, x315002, x315003, x323000, x323001, x323002, x323003, x330000, x330001, x330002, x330003, x336000, x336001, x336002, x336003, x344000, x344001, x344002, x344003, x358000, x358001, x358002, x358003, x366000, x366001, x366002, x366003 => if x71 = true then (some false) else (tilefarmlaw4_PlaneShares.l0 k 0 x315000 x315001 x315002 x315003 x323000 x323001 x323002 x323003 x330000 x330001 x330002 x330003 x336000 x336001 x336002 x336003 x344000 x344001 x344002 x344003 x358000 x358001 x358002 x358003 x366000 x366001 x366002 x366003)
def tilefarmlaw4_PlaneShares.l0 : Nat → Int → Int → Int → Int → List Int → Int → Int → Int → List Int → Int → Int → Int → List Int → Int → Int → Int → Int → Int → Int → Int → List Int → Int → Int → Int → List Int → Int → Int → Int → List Int → Option (Bool)
 | 0, _, _, _, _, _, _, _, _, _, _, _, _, _, _, _, _, _, _, _, _, _, _, _, _, _, _, _, _, _ => none
 | k + 1, x14, x315000, x315001, x315002, x315003, x323000, x323001, x323002, x323003, x330000, x330001, x330002, x330003, x336000, x336001, x336002, x336003, x344000, x344001, x344002, x344003, x358000, x358001, x358002, x358003, x366000, x366001, x366002, x366003 => if x14 < (x344003.length : Int) then (if 0 ≤ x14 then (tilefarmlaw4_PlaneShares.l0 k (wrap64 (x14 + 1)) x315000 x315001 x315002 x315003 x323000 x323001 x323002 x323003 x330000 x330001 x330002 x330003 x336000 x336001 x336002 x336003 x344000 x344001 x344002 (x344003.set (x14 : Int).toNat (-1)) x358000 x358001 x358002 x358003 x366000 x366001 x366002 x366003) else (none)) else (tilefarmlaw4_PlaneShares.l1 k 0 x315000 x315001 x315002 x315003 x323000 x323001 x323002 x323003 x330000 x330001 x330002 x330003 x336000 x336001 x336002 x336003 x358000 x358001 x358002 x358003 x366000 x366001 x366002 x366003)
def tilefarmlaw4_PlaneShares.l1 : Nat → Int → Int → Int → Int → List Int → Int → Int → Int → List Int → Int → Int → Int → List Int → Int → Int → Int → Int → Int → Int → Int → List Int → Int → Int → Int → List Int → Option (Bool)
 | 0, _, _, _, _, _, _, _, _, _, _, _, _, _, _, _, _, _, _, _, _, _, _, _, _, _ => none
 | k + 1, x15, x315000, x315001, x315002, x315003, x323000, x323001, x323002, x323003, x330000, x330001, x330002, x330003, x336000, x336001, x336002, x336003, x358000, x358001, x358002, x358003, x366000, x366001, x366002, x366003 => if x15 < (x358003.length : Int) then (if 0 ≤ x15 then (tilefarmlaw4_PlaneShares.l1 k (wrap64 (x15 + 1)) x315000 x315001 x315002 x315003 x323000 x323001 x323002 x323003 x330000 x330001 x330002 x330003 x336000 x336001 x336002 x336003 x358000 x358001 x358002 (x358003.set (x15 : Int).toNat (-1)) x366000 x366001 x366002 x366003) else (none)) else (tilefarmlaw4_PlaneShares.l2 k 0 x315000 x315001 x315002 x315003 x323000 x323001 x323002 x323003 x330000 x330001 x330002 x330003 x336000 x336001 x336002 x336003 x366000 x366001 x366002 x366003)
def tilefarmlaw4_PlaneShares.l2 : Nat → Int → Int → Int → Int → List Int → Int → Int → Int → List Int → Int → Int → Int → List Int → Int → Int → Int → Int → Int → Int → Int → List Int → Option (Bool)
 | 0, _, _, _, _, _, _, _, _, _, _, _, _, _, _, _, _, _, _, _, _, _ => none
 | k + 1, x16, x315000, x315001, x315002, x315003, x323000, x323001, x323002, x323003, x330000, x330001, x330002, x330003, x336000, x336001, x336002, x336003, x366000, x366001, x366002, x366003 => if x16 < (x366003.length : Int) then (if 0 ≤ x16 then (tilefarmlaw4_PlaneShares.l2 k (wrap64 (x16 + 1)) x315000 x315001 x315002 x315003 x323000 x323001 x323002 x323003 x330000 x330001 x330002 x330003 x336000 x336001 x336002 x336003 x366000 x366001 x366002 (x366003.set (x16 : Int).toNat (-1))) else (none)) else ((plane_Crop.f k x315000 x315001 x315002 x315003 x336000 x336001 x336002 x336003).bind fun bt369 => ((plane_Equal.f k x315000 x315001 x315002 x315003 x330000 x330001 x330002 x330003).bind fun t377 => (if t377 = true then ((tilefarmref4_Valid.f k x323000 x323001 x323002 x323003).bind fun t378 => (if t378 = true then (if bt369.2.2.2.2 = true then ((plane_Valid.f k bt369.1 bt369.2.1 bt369.2.2.1 bt369.2.2.2.1).bind fun t379 => (if t379 = true then ((tilefarmlaw4_sane.f k).bind fun t380 => (some t380)) else (some false))) else (some false)) else (some false))) else (some false))))
end
def tilefarmlaw4_PlaneShares.f (k : Nat) (l0 : List Int) : Option (Bool) := (tilefarmgen_New.f l0).bind fun bt300 => ((tilefarmgen_Tape_Next.f bt300.1 bt300.2 4).bind fun bt303 => ((tilefarmgen_Tape_Next.f bt300.1 bt303.2 4).bind fun bt305 => ((tilefarmgen_Tape_Sized.f k bt300.1 bt305.2 (wrap64 (2 + bt303.1)) (wrap64 (2 + bt305.1))).bind fun bt307 => ((tilefarmgen_Tape_Sized.f k bt300.1 bt307.2.2.2.2 1 1).bind fun bt315 => ((tilefarmref4_Copy.f bt307.1 bt307.2.1 bt307.2.2.1 bt307.2.2.2.1).bind fun bt323 => ((tilefarmgen_Tape_Within.f bt300.1 bt315.2.2.2.2 bt307.1 bt307.2.1).bind fun bt330 => ((plane_Crop.f k bt307.1 bt307.2.1 bt307.2.2.1 bt307.2.2.2.1 bt330.1 bt330.2.1 bt330.2.2.1 bt330.2.2.2.1).bind fun bt336 => ((tilefarmref4_Copy.f bt336.1 bt336.2.1 bt336.2.2.1 bt336.2.2.2.1).bind fun bt344 => ((plane_Blit.f k bt307.1 bt307.2.1 bt307.2.2.1 bt307.2.2.2.1 bt344.1 bt344.2.1 bt344.2.2.1 bt344.2.2.2 bt330.1 bt330.2.1).bind fun bt350 => ((plane_Blit.f k bt315.1 bt315.2.1 bt315.2.2.1 bt315.2.2.2.1 bt315.1 bt315.2.1 bt315.2.2.1 bt315.2.2.2.1 0 0).bind fun bt358 => (if bt336.2.2.2.2 = true then (if bt350.2.2.2.2 = true then (tilefarmlaw4_PlaneShares.j0 k (!bt358.2.2.2.2) bt307.1 bt307.2.1 bt307.2.2.1 bt307.2.2.2.1 bt315.1 bt315.2.1 bt315.2.2.1 bt315.2.2.2.1 bt323.1 bt323.2.1 bt323.2.2.1 bt323.2.2.2 bt330.1 bt330.2.1 bt330.2.2.1 bt330.2.2.2.1 bt336.1 bt336.2.1 bt336.2.2.1 bt336.2.2.2.1 bt350.1 bt350.2.1 bt350.2.2.1 bt350.2.2.2.1 bt358.1 bt358.2.1 bt358.2.2.1 bt358.2.2.2.1) else (tilefarmlaw4_PlaneShares.j0 k true bt307.1 bt307.2.1 bt307.2.2.1 bt307.2.2.2.1 bt315.1 bt315.2.1 bt315.2.2.1 bt315.2.2.2.1 bt323.1 bt323.2.1 bt323.2.2.1 bt323.2.2.2 bt330.1 bt330.2.1 bt330.2.2.1 bt330.2.2.2.1 bt336.1 bt336.2.1 bt336.2.2.1 bt336.2.2.2.1 bt350.1 bt350.2.1 bt350.2.2.1 bt350.2.2.2.1 bt358.1 bt358.2.1 bt358.2.2.1 bt358.2.2.2.1)) else (tilefarmlaw4_PlaneShares.j0 k true bt307.1 bt307.2.1 bt307.2.2.1 bt307.2.2.2.1 bt315.1 bt315.2.1 bt315.2.2.1 bt315.2.2.2.1 bt323.1 bt323.2.1 bt323.2.2.1 bt323.2.2.2 bt330.1 bt330.2.1 bt330.2.2.1 bt330.2.2.2.1 bt336.1 bt336.2.1 bt336.2.2.1 bt336.2.2.2.1 bt350.1 bt350.2.1 bt350.2.2.1 bt350.2.2.2.1 bt358.1 bt358.2.1 bt358.2.2.1 bt358.2.2.2.1))))))))))))
theorem tilefarmlaw4_PlaneShares.mono_l : ∀ k, (∀ y0 y1 y2 y3 y4 y5 y6 y7 y8 y9 y10 y11 y12 y13 y14 y15 y16 y17 y18 y19 y20 y21 y22 y23 y24 y25 y26 y27 y28, LeO (tilefarmlaw4_PlaneShares.j0 k y0 y1 y2 y3 y4 y5 y6 y7 y8 y9 y10 y11 y12 y13 y14 y15 y16 y17 y18 y19 y20 y21 y22 y23 y24 y25 y26 y27 y28) (tilefarmlaw4_PlaneShares.j0 (k + 1) y0 y1 y2 y3 y4 y5 y6 y7 y8 y9 y10 y11 y12 y13 y14 y15 y16 y17 y18 y19 y20 y21 y22 y23 y24 y25 y26 y27 y28)) ∧ (∀ y0 y1 y2 y3 y4 y5 y6 y7 y8 y9 y10 y11 y12 y13 y14 y15 y16 y17 y18 y19 y20 y21 y22 y23 y24 y25 y26 y27 y28, LeO (tilefarmlaw4_PlaneShares.l0 k y0 y1 y2 y3 y4 y5 y6 y7 y8 y9 y10 y11 y12 y13 y14 y15 y16 y17 y18 y19 y20 y21 y22 y23 y24 y25 y26 y27 y28) (tilefarmlaw4_PlaneShares.l0 (k + 1) y0 y1 y2 y3 y4 y5 y6 y7 y8 y9 y10 y11 y12 y13 y14 y15 y16 y17 y18 y19 y20 y21 y22 y23 y24 y25 y26 y27 y28)) ∧ (∀ y0 y1 y2 y3 y4 y5 y6 y7 y8 y9 y10 y11 y12 y13 y14 y15 y16 y17 y18 y19 y20 y21 y22 y23 y24, LeO (tilefarmlaw4_PlaneShares.l1 k y0 y1 y2 y3 y4 y5 y6 y7 y8 y9 y10 y11 y12 y13 y14 y15 y16 y17 y18 y19 y20 y21 y22 y23 y24) (tilefarmlaw4_PlaneShares.l1 (k + 1) y0 y1 y2 y3 y4 y5 y6 y7 y8 y9 y10 y11 y12 y13 y14 y15 y16 y17 y18 y19 y20 y21 y22 y23 y24)) ∧ (∀ y0 y1 y2 y3 y4 y5 y6 y7 y8 y9 y10 y11 y12 y13 y14 y15 y16 y17 y18 y19 y20, LeO (tilefarmlaw4_PlaneShares.l2 k y0 y1 y2 y3 y4 y5 y6 y7 y8 y9 y10 y11 y12 y13 y14 y15 y16 y17 y18 y19 y20) (tilefarmlaw4_PlaneShares.l2 (k + 1) y0 y1 y2 y3 y4 y5 y6 y7 y8 y9 y10 y11 y12 y13 y14 y15 y16 y17 y18 y19 y20))
 | 0 => ⟨fun _ _ _ _ _ _ _ _ _ _ _ _ _ _ _ _ _ _ _ _ _ _ _ _ _ _ _ _ _ r h => by simp [tilefarmlaw4_PlaneShares.j0] at h, fun _ _ _ _ _ _ _ _ _ _ _ _ _ _ _ _ _ _ _ _ _ _ _ _ _ _ _ _ _ r h => by simp [tilefarmlaw4_PlaneShares.l0] at h, fun _ _ _ _ _ _ _ _ _ _ _ _ _ _ _ _ _ _ _ _ _ _ _ _ _ r h => by simp [tilefarmlaw4_PlaneShares.l1] at h, fun _ _ _ _ _ _ _ _ _ _ _ _ _ _ _ _ _ _ _ _ _ r h => by simp [tilefarmlaw4_PlaneShares.l2] at h⟩
 | k + 1 => by
  obtain ⟨ih0, ih1, ih2, ih3⟩ := tilefarmlaw4_PlaneShares.mono_l k
  refine ⟨?_, ?_, ?_, ?_⟩
  ·intro y0 y1 y2 y3 y4 y5 y6 y7 y8 y9 y10 y11 y12 y13 y14 y15 y16 y17 y18 y19 y20 y21 y22 y23 y24 y25 y26 y27 y28
   unfold tilefarmlaw4_PlaneShares.j0
   repeat' first
   | (with_reducible exact ih0 _ _ _ _ _ _ _ _ _ _ _ _ _ _ _ _ _ _ _ _ _ _ _ _ _ _ _ _ _)
   | (with_reducible exact ih1 _ _ _ _ _ _ _ _ _ _ _ _ _ _ _ _ _ _ _ _ _ _ _ _ _ _ _ _ _)
   | (with_reducible exact ih2 _ _ _ _ _ _ _ _ _ _ _ _ _ _ _ _ _ _ _ _ _ _ _ _ _)
   | (with_reducible exact ih3 _ _ _ _ _ _ _ _ _ _ _ _ _ _ _ _ _ _ _ _ _)
   | (with_reducible exact plane_Blit.mono _ _ _ _ _ _ _ _ _ _ _)
   | (with_reducible exact plane_Crop.mono _ _ _ _ _ _ _ _ _)
   | (with_reducible exact plane_Equal.mono _ _ _ _ _ _ _ _ _)
   | (with_reducible exact plane_Valid.mono _ _ _ _ _)
   | (with_reducible exact tilefarmgen_Tape_Sized.mono _ _ _ _ _)
   | (with_reducible exact tilefarmlaw4_sane.mono _)
   | (with_reducible exact tilefarmref4_Valid.mono _ _ _ _ _)
   | (with_reducible exact LeO.refl _)
   | (with_reducible exact LeO.none _)
   | (with_reducible refine LeO.ite ?_ ?_)
   | (with_reducible refine LeO.bind ?_ (fun _ => ?_))
   | exact ih0 _ _ _ _ _ _ _ _ _ _ _ _ _ _ _ _ _ _ _ _ _ _ _ _ _ _ _ _ _
   | exact ih1 _ _ _ _ _ _ _ _ _ _ _ _ _ _ _ _ _ _ _ _ _ _ _ _ _ _ _ _ _
   | exact ih2 _ _ _ _ _ _ _ _ _ _ _ _ _ _ _ _ _ _ _ _ _ _ _ _ _
   | exact ih3 _ _ _ _ _ _ _ _ _ _ _ _ _ _ _ _ _ _ _ _ _
   | exact plane_Blit.mono _ _ _ _ _ _ _ _ _ _ _
   | exact plane_Crop.mono _ _ _ _ _ _ _ _ _
   | exact plane_Equal.mono _ _ _ _ _ _ _ _ _
   | exact plane_Valid.mono _ _ _ _ _
   | exact tilefarmgen_Tape_Sized.mono _ _ _ _ _
   | exact tilefarmlaw4_sane.mono _
   | exact tilefarmref4_Valid.mono _ _ _ _ _
   | exact LeO.none _
   | refine LeO.ite ?_ ?_
   | refine LeO.bind ?_ (fun _ => ?_)
  ·intro y0 y1 y2 y3 y4 y5 y6 y7 y8 y9 y10 y11 y12 y13 y14 y15 y16 y17 y18 y19 y20 y21 y22 y23 y24 y25 y26 y27 y28
   unfold tilefarmlaw4_PlaneShares.l0
   repeat' first
   | (with_reducible exact ih0 _ _ _ _ _ _ _ _ _ _ _ _ _ _ _ _ _ _ _ _ _ _ _ _ _ _ _ _ _)
   | (with_reducible exact ih1 _ _ _ _ _ _ _ _ _ _ _ _ _ _ _ _ _ _ _ _ _ _ _ _ _ _ _ _ _)
   | (with_reducible exact ih2 _ _ _ _ _ _ _ _ _ _ _ _ _ _ _ _ _ _ _ _ _ _ _ _ _)
   | (with_reducible exact ih3 _ _ _ _ _ _ _ _ _ _ _ _ _ _ _ _ _ _ _ _ _)
   | (with_reducible exact plane_Blit.mono _ _ _ _ _ _ _ _ _ _ _)
   | (with_reducible exact plane_Crop.mono _ _ _ _ _ _ _ _ _)
   | (with_reducible exact plane_Equal.mono _ _ _ _ _ _ _ _ _)
   | (with_reducible exact plane_Valid.mono _ _ _ _ _)
   | (with_reducible exact tilefarmgen_Tape_Sized.mono _ _ _ _ _)
   | (with_reducible exact tilefarmlaw4_sane.mono _)
   | (with_reducible exact tilefarmref4_Valid.mono _ _ _ _ _)
   | (with_reducible exact LeO.refl _)
   | (with_reducible exact LeO.none _)
   | (with_reducible refine LeO.ite ?_ ?_)
   | (with_reducible refine LeO.bind ?_ (fun _ => ?_))
   | exact ih0 _ _ _ _ _ _ _ _ _ _ _ _ _ _ _ _ _ _ _ _ _ _ _ _ _ _ _ _ _
   | exact ih1 _ _ _ _ _ _ _ _ _ _ _ _ _ _ _ _ _ _ _ _ _ _ _ _ _ _ _ _ _
   | exact ih2 _ _ _ _ _ _ _ _ _ _ _ _ _ _ _ _ _ _ _ _ _ _ _ _ _
   | exact ih3 _ _ _ _ _ _ _ _ _ _ _ _ _ _ _ _ _ _ _ _ _
   | exact plane_Blit.mono _ _ _ _ _ _ _ _ _ _ _
   | exact plane_Crop.mono _ _ _ _ _ _ _ _ _
   | exact plane_Equal.mono _ _ _ _ _ _ _ _ _
   | exact plane_Valid.mono _ _ _ _ _
   | exact tilefarmgen_Tape_Sized.mono _ _ _ _ _
   | exact tilefarmlaw4_sane.mono _
   | exact tilefarmref4_Valid.mono _ _ _ _ _
   | exact LeO.none _
   | refine LeO.ite ?_ ?_
   | refine LeO.bind ?_ (fun _ => ?_)
  ·intro y0 y1 y2 y3 y4 y5 y6 y7 y8 y9 y10 y11 y12 y13 y14 y15 y16 y17 y18 y19 y20 y21 y22 y23 y24
   unfold tilefarmlaw4_PlaneShares.l1
   repeat' first
   | (with_reducible exact ih0 _ _ _ _ _ _ _ _ _ _ _ _ _ _ _ _ _ _ _ _ _ _ _ _ _ _ _ _ _)
   | (with_reducible exact ih1 _ _ _ _ _ _ _ _ _ _ _ _ _ _ _ _ _ _ _ _ _ _ _ _ _ _ _ _ _)
   | (with_reducible exact ih2 _ _ _ _ _ _ _ _ _ _ _ _ _ _ _ _ _ _ _ _ _ _ _ _ _)
   | (with_reducible exact ih3 _ _ _ _ _ _ _ _ _ _ _ _ _ _ _ _ _ _ _ _ _)
   | (with_reducible exact plane_Blit.mono _ _ _ _ _ _ _ _ _ _ _)
   | (with_reducible exact plane_Crop.mono _ _ _ _ _ _ _ _ _)
   | (with_reducible exact plane_Equal.mono _ _ _ _ _ _ _ _ _)
   | (with_reducible exact plane_Valid.mono _ _ _ _ _)
   | (with_reducible exact tilefarmgen_Tape_Sized.mono _ _ _ _ _)
   | (with_reducible exact tilefarmlaw4_sane.mono _)
   | (with_reducible exact tilefarmref4_Valid.mono _ _ _ _ _)
   | (with_reducible exact LeO.refl _)
   | (with_reducible exact LeO.none _)
   | (with_reducible refine LeO.ite ?_ ?_)
   | (with_reducible refine LeO.bind ?_ (fun _ => ?_))
   | exact ih0 _ _ _ _ _ _ _ _ _ _ _ _ _ _ _ _ _ _ _ _ _ _ _ _ _ _ _ _ _
   | exact ih1 _ _ _ _ _ _ _ _ _ _ _ _ _ _ _ _ _ _ _ _ _ _ _ _ _ _ _ _ _
   | exact ih2 _ _ _ _ _ _ _ _ _ _ _ _ _ _ _ _ _ _ _ _ _ _ _ _ _
   | exact ih3 _ _ _ _ _ _ _ _ _ _ _ _ _ _ _ _ _ _ _ _ _
   | exact plane_Blit.mono _ _ _ _ _ _ _ _ _ _ _
   | exact plane_Crop.mono _ _ _ _ _ _ _ _ _
   | exact plane_Equal.mono _ _ _ _ _ _ _ _ _
   | exact plane_Valid.mono _ _ _ _ _
   | exact tilefarmgen_Tape_Sized.mono _ _ _ _ _
   | exact tilefarmlaw4_sane.mono _
   | exact tilefarmref4_Valid.mono _ _ _ _ _
   | exact LeO.none _
   | refine LeO.ite ?_ ?_
   | refine LeO.bind ?_ (fun _ => ?_)
  ·intro y0 y1 y2 y3 y4 y5 y6 y7 y8 y9 y10 y11 y12 y13 y14 y15 y16 y17 y18 y19 y20
   unfold tilefarmlaw4_PlaneShares.l2
   repeat' first
   | (with_reducible exact ih0 _ _ _ _ _ _ _ _ _ _ _ _ _ _ _ _ _ _ _ _ _ _ _ _ _ _ _ _ _)
   | (with_reducible exact ih1 _ _ _ _ _ _ _ _ _ _ _ _ _ _ _ _ _ _ _ _ _ _ _ _ _ _ _ _ _)
   | (with_reducible exact ih2 _ _ _ _ _ _ _ _ _ _ _ _ _ _ _ _ _ _ _ _ _ _ _ _ _)
   | (with_reducible exact ih3 _ _ _ _ _ _ _ _ _ _ _ _ _ _ _ _ _ _ _ _ _)
   | (with_reducible exact plane_Blit.mono _ _ _ _ _ _ _ _ _ _ _)
   | (with_reducible exact plane_Crop.mono _ _ _ _ _ _ _ _ _)
   | (with_reducible exact plane_Equal.mono _ _ _ _ _ _ _ _ _)
   | (with_reducible exact plane_Valid.mono _ _ _ _ _)
   | (with_reducible exact tilefarmgen_Tape_Sized.mono _ _ _ _ _)
   | (with_reducible exact tilefarmlaw4_sane.mono _)
   | (with_reducible exact tilefarmref4_Valid.mono _ _ _ _ _)
   | (with_reducible exact LeO.refl _)
   | (with_reducible exact LeO.none _)
   | (with_reducible refine LeO.ite ?_ ?_)
   | (with_reducible refine LeO.bind ?_ (fun _ => ?_))
   | exact ih0 _ _ _ _ _ _ _ _ _ _ _ _ _ _ _ _ _ _ _ _ _ _ _ _ _ _ _ _ _
   | exact ih1 _ _ _ _ _ _ _ _ _ _ _ _ _ _ _ _ _ _ _ _ _ _ _ _ _ _ _ _ _
   | exact ih2 _ _ _ _ _ _ _ _ _ _ _ _ _ _ _ _ _ _ _ _ _ _ _ _ _
   | exact ih3 _ _ _ _ _ _ _ _ _ _ _ _ _ _ _ _ _ _ _ _ _
   | exact plane_Blit.mono _ _ _ _ _ _ _ _ _ _ _
   | exact plane_Crop.mono _ _ _ _ _ _ _ _ _
   | exact plane_Equal.mono _ _ _ _ _ _ _ _ _
   | exact plane_Valid.mono _ _ _ _ _
   | exact tilefarmgen_Tape_Sized.mono _ _ _ _ _
   | exact tilefarmlaw4_sane.mono _
   | exact tilefarmref4_Valid.mono _ _ _ _ _
   | exact LeO.none _
   | refine LeO.ite ?_ ?_
   | refine LeO.bind ?_ (fun _ => ?_)
theorem tilefarmlaw4_PlaneShares.mono : ∀ a0 k, LeO (tilefarmlaw4_PlaneShares.f k a0) (tilefarmlaw4_PlaneShares.f (k + 1) a0) := by
 intro a0 k
 obtain ⟨ih0, ih1, ih2, ih3⟩ := tilefarmlaw4_PlaneShares.mono_l k
 unfold tilefarmlaw4_PlaneShares.f
 repeat' first
   | (with_reducible exact ih0 _ _ _ _ _ _ _ _ _ _ _ _ _ _ _ _ _ _ _ _ _ _ _ _ _ _ _ _ _)
   | (with_reducible exact ih1 _ _ _ _ _ _ _ _ _ _ _ _ _ _ _ _ _ _ _ _ _ _ _ _ _ _ _ _ _)
   | (with_reducible exact ih2 _ _ _ _ _ _ _ _ _ _ _ _ _ _ _ _ _ _ _ _ _ _ _ _ _)
   | (with_reducible exact ih3 _ _ _ _ _ _ _ _ _ _ _ _ _ _ _ _ _ _ _ _ _)
   | (with_reducible exact plane_Blit.mono _ _ _ _ _ _ _ _ _ _ _)
   | (with_reducible exact plane_Crop.mono _ _ _ _ _ _ _ _ _)
   | (with_reducible exact plane_Equal.mono _ _ _ _ _ _ _ _ _)
   | (with_reducible exact plane_Valid.mono _ _ _ _ _)
   | (with_reducible exact tilefarmgen_Tape_Sized.mono _ _ _ _ _)
   | (with_reducible exact tilefarmlaw4_sane.mono _)
   | (with_reducible exact tilefarmref4_Valid.mono _ _ _ _ _)
   | (with_reducible exact LeO.refl _)
   | (with_reducible exact LeO.none _)
   | (with_reducible refine LeO.ite ?_ ?_)
   | (with_reducible refine LeO.bind ?_ (fun _ => ?_))
   | exact ih0 _ _ _ _ _ _ _ _ _ _ _ _ _ _ _ _ _ _ _ _ _ _ _ _ _ _ _ _ _
   | exact ih1 _ _ _ _ _ _ _ _ _ _ _ _ _ _ _ _ _ _ _ _ _ _ _ _ _ _ _ _ _
   | exact ih2 _ _ _ _ _ _ _ _ _ _ _ _ _ _ _ _ _ _ _ _ _ _ _ _ _
   | exact ih3 _ _ _ _ _ _ _ _ _ _ _ _ _ _ _ _ _ _ _ _ _
   | exact plane_Blit.mono _ _ _ _ _ _ _ _ _ _ _
   | exact plane_Crop.mono _ _ _ _ _ _ _ _ _
   | exact plane_Equal.mono _ _ _ _ _ _ _ _ _
   | exact plane_Valid.mono _ _ _ _ _
   | exact tilefarmgen_Tape_Sized.mono _ _ _ _ _
   | exact tilefarmlaw4_sane.mono _
   | exact tilefarmref4_Valid.mono _ _ _ _ _
   | exact LeO.none _
   | refine LeO.ite ?_ ?_
   | refine LeO.bind ?_ (fun _ => ?_)
def tilefarmlaw4_PlaneShares.T7 : Bool × List (List Nat × List Nat) := (true, [([], []), ([], []), ([1], [1]), ([], []), ([3], [3]), ([], []), ([5], [5]), ([0, 2, 4, 6, 2], [0, 2, 4, 6]), ([7], [7]), ([8], [8]), ([8], [8]), ([], []), ([11, 9, 7, 0, 1, 2, 3, 4, 5, 6, 7, 8, 9, 11], [9, 11]), ([10, 12, 0, 1, 2, 3, 4, 5, 6, 7, 8, 9, 10, 11, 12], [10])])
def tilefarmlaw4_PlaneShares.B7 : List Nat := [0, 0, 2, 0, 8, 0, 32, 127, 255, 511, 511, 0, 3071, 8191]
theorem tilefarmlaw4_PlaneShares.tab7 : rtab .any (opsOf Try.f3 7) = tilefarmlaw4_PlaneShares.T7 := by kernel_rfl
theorem tilefarmlaw4_PlaneShares.bits7 : waitsOk tilefarmlaw4_PlaneShares.T7.2 tilefarmlaw4_PlaneShares.B7 = true := by kernel_rfl
set_option maxHeartbeats 8000000 in
set_option maxRecDepth 100000 in
theorem tilefarmlaw4_PlaneShares.calls (k : Nat) (A0 : Option Addr) (c0 : Nat) (l0 : List Int) (r : Bool) (w : World) (hr0 : Kd.C (Kd.int .i64) w A0 l0.length l0) (hc0 : l0.length ≤ c0) (h : tilefarmlaw4_PlaneShares.f k l0 = some r) (hT : r = true := by first | rfl | assumption | exact HT.out) :
  Calls Try.prog 3 #[.slice A0 l0.length c0] w fun e w' => e = .returned (.bool r) ∧ Below w.heap.size w w' := by
 have HT := am_ hT
 clear hT
 have hu26 := Try.underlying26
 have hu31 := Try.underlying31
 have HR0 := am_ hr0
 have HC0 := am_ hc0
 clear hr0 hc0
 have HB := am_ (Below.refl w.heap.size w)
 have H : ((tilefarmgen_New.f l0).bind fun bt300 => ((tilefarmgen_Tape_Next.f bt300.1 bt300.2 4).bind fun bt303 => ((tilefarmgen_Tape_Next.f bt300.1 bt303.2 4).bind fun bt305 => ((tilefarmgen_Tape_Sized.f k bt300.1 bt305.2 (wrap64 (2 + bt303.1)) (wrap64 (2 + bt305.1))).bind fun bt307 => ((tilefarmgen_Tape_Sized.f k bt300.1 bt307.2.2.2.2 1 1).bind fun bt315 => ((tilefarmref4_Copy.f bt307.1 bt307.2.1 bt307.2.2.1 bt307.2.2.2.1).bind fun bt323 => ((tilefarmgen_Tape_Within.f bt300.1 bt315.2.2.2.2 bt307.1 bt307.2.1).bind fun bt330 => ((plane_Crop.f k bt307.1 bt307.2.1 bt307.2.2.1 bt307.2.2.2.1 bt330.1 bt330.2.1 bt330.2.2.1 bt330.2.2.2.1).bind fun bt336 => ((tilefarmref4_Copy.f bt336.1 bt336.2.1 bt336.2.2.1 bt336.2.2.2.1).bind fun bt344 => ((plane_Blit.f k bt307.1 bt307.2.1 bt307.2.2.1 bt307.2.2.2.1 bt344.1 bt344.2.1 bt344.2.2.1 bt344.2.2.2 bt330.1 bt330.2.1).bind fun bt350 => ((plane_Blit.f k bt315.1 bt315.2.1 bt315.2.2.1 bt315.2.2.2.1 bt315.1 bt315.2.1 bt315.2.2.1 bt315.2.2.2.1 0 0).bind fun bt358 => (if bt336.2.2.2.2 = true then (if bt350.2.2.2.2 = true then (tilefarmlaw4_PlaneShares.j0 k (!bt358.2.2.2.2) bt307.1 bt307.2.1 bt307.2.2.1 bt307.2.2.2.1 bt315.1 bt315.2.1 bt315.2.2.1 bt315.2.2.2.1 bt323.1 bt323.2.1 bt323.2.2.1 bt323.2.2.2 bt330.1 bt330.2.1 bt330.2.2.1 bt330.2.2.2.1 bt336.1 bt336.2.1 bt336.2.2.1 bt336.2.2.2.1 bt350.1 bt350.2.1 bt350.2.2.1 bt350.2.2.2.1 bt358.1 bt358.2.1 bt358.2.2.1 bt358.2.2.2.1) else (tilefarmlaw4_PlaneShares.j0 k true bt307.1 bt307.2.1 bt307.2.2.1 bt307.2.2.2.1 bt315.1 bt315.2.1 bt315.2.2.1 bt315.2.2.2.1 bt323.1 bt323.2.1 bt323.2.2.1 bt323.2.2.2 bt330.1 bt330.2.1 bt330.2.2.1 bt330.2.2.2.1 bt336.1 bt336.2.1 bt336.2.2.1 bt336.2.2.2.1 bt350.1 bt350.2.1 bt350.2.2.1 bt350.2.2.2.1 bt358.1 bt358.2.1 bt358.2.2.1 bt358.2.2.2.1)) else (tilefarmlaw4_PlaneShares.j0 k true bt307.1 bt307.2.1 bt307.2.2.1 bt307.2.2.2.1 bt315.1 bt315.2.1 bt315.2.2.1 bt315.2.2.2.1 bt323.1 bt323.2.1 bt323.2.2.1 bt323.2.2.2 bt330.1 bt330.2.1 bt330.2.2.1 bt330.2.2.2.1 bt336.1 bt336.2.1 bt336.2.2.1 bt336.2.2.2.1 bt350.1 bt350.2.1 bt350.2.2.1 bt350.2.2.2.1 bt358.1 bt358.2.1 bt358.2.2.1 bt358.2.2.2.1))))))))))))) = some r := h
 clear h
 replace H := Option.bind_eq_some_iff.mp H
 obtain ⟨⟨t300, t301⟩, A20, H⟩ := H
 replace H : ((tilefarmgen_Tape_Next.f t300 t301 4).bind fun bt303 => ((tilefarmgen_Tape_Next.f t300 bt303.2 4).bind fun bt305 => ((tilefarmgen_Tape_Sized.f k t300 bt305.2 (wrap64 (2 + bt303.1)) (wrap64 (2 + bt305.1))).bind fun bt307 => ((tilefarmgen_Tape_Sized.f k t300 bt307.2.2.2.2 1 1).bind fun bt315 => ((tilefarmref4_Copy.f bt307.1 bt307.2.1 bt307.2.2.1 bt307.2.2.2.1).bind fun bt323 => ((tilefarmgen_Tape_Within.f t300 bt315.2.2.2.2 bt307.1 bt307.2.1).bind fun bt330 => ((plane_Crop.f k bt307.1 bt307.2.1 bt307.2.2.1 bt307.2.2.2.1 bt330.1 bt330.2.1 bt330.2.2.1 bt330.2.2.2.1).bind fun bt336 => ((tilefarmref4_Copy.f bt336.1 bt336.2.1 bt336.2.2.1 bt336.2.2.2.1).bind fun bt344 => ((plane_Blit.f k bt307.1 bt307.2.1 bt307.2.2.1 bt307.2.2.2.1 bt344.1 bt344.2.1 bt344.2.2.1 bt344.2.2.2 bt330.1 bt330.2.1).bind fun bt350 => ((plane_Blit.f k bt315.1 bt315.2.1 bt315.2.2.1 bt315.2.2.2.1 bt315.1 bt315.2.1 bt315.2.2.1 bt315.2.2.2.1 0 0).bind fun bt358 => (if bt336.2.2.2.2 = true then (if bt350.2.2.2.2 = true then (tilefarmlaw4_PlaneShares.j0 k (!bt358.2.2.2.2) bt307.1 bt307.2.1 bt307.2.2.1 bt307.2.2.2.1 bt315.1 bt315.2.1 bt315.2.2.1 bt315.2.2.2.1 bt323.1 bt323.2.1 bt323.2.2.1 bt323.2.2.2 bt330.1 bt330.2.1 bt330.2.2.1 bt330.2.2.2.1 bt336.1 bt336.2.1 bt336.2.2.1 bt336.2.2.2.1 bt350.1 bt350.2.1 bt350.2.2.1 bt350.2.2.2.1 bt358.1 bt358.2.1 bt358.2.2.1 bt358.2.2.2.1) else (tilefarmlaw4_PlaneShares.j0 k true bt307.1 bt307.2.1 bt307.2.2.1 bt307.2.2.2.1 bt315.1 bt315.2.1 bt315.2.2.1 bt315.2.2.2.1 bt323.1 bt323.2.1 bt323.2.2.1 bt323.2.2.2 bt330.1 bt330.2.1 bt330.2.2.1 bt330.2.2.2.1 bt336.1 bt336.2.1 bt336.2.2.1 bt336.2.2.2.1 bt350.1 bt350.2.1 bt350.2.2.1 bt350.2.2.2.1 bt358.1 bt358.2.1 bt358.2.2.1 bt358.2.2.2.1)) else (tilefarmlaw4_PlaneShares.j0 k true bt307.1 bt307.2.1 bt307.2.2.1 bt307.2.2.2.1 bt315.1 bt315.2.1 bt315.2.2.1 bt315.2.2.2.1 bt323.1 bt323.2.1 bt323.2.2.1 bt323.2.2.2 bt330.1 bt330.2.1 bt330.2.2.1 bt330.2.2.2.1 bt336.1 bt336.2.1 bt336.2.2.1 bt336.2.2.2.1 bt350.1 bt350.2.1 bt350.2.2.1 bt350.2.2.2.1 bt358.1 bt358.2.1 bt358.2.2.1 bt358.2.2.2.1)))))))))))) = some r := H
 have A2 := am_ A20
 clear A20
 replace H := Option.bind_eq_some_iff.mp H
 obtain ⟨⟨t303, t304⟩, A30, H⟩ := H
 replace H : ((tilefarmgen_Tape_Next.f t300 t304 4).bind fun bt305 => ((tilefarmgen_Tape_Sized.f k t300 bt305.2 (wrap64 (2 + t303)) (wrap64 (2 + bt305.1))).bind fun bt307 => ((tilefarmgen_Tape_Sized.f k t300 bt307.2.2.2.2 1 1).bind fun bt315 => ((tilefarmref4_Copy.f bt307.1 bt307.2.1 bt307.2.2.1 bt307.2.2.2.1).bind fun bt323 => ((tilefarmgen_Tape_Within.f t300 bt315.2.2.2.2 bt307.1 bt307.2.1).bind fun bt330 => ((plane_Crop.f k bt307.1 bt307.2.1 bt307.2.2.1 bt307.2.2.2.1 bt330.1 bt330.2.1 bt330.2.2.1 bt330.2.2.2.1).bind fun bt336 => ((tilefarmref4_Copy.f bt336.1 bt336.2.1 bt336.2.2.1 bt336.2.2.2.1).bind fun bt344 => ((plane_Blit.f k bt307.1 bt307.2.1 bt307.2.2.1 bt307.2.2.2.1 bt344.1 bt344.2.1 bt344.2.2.1 bt344.2.2.2 bt330.1 bt330.2.1).bind fun bt350 => ((plane_Blit.f k bt315.1 bt315.2.1 bt315.2.2.1 bt315.2.2.2.1 bt315.1 bt315.2.1 bt315.2.2.1 bt315.2.2.2.1 0 0).bind fun bt358 => (if bt336.2.2.2.2 = true then (if bt350.2.2.2.2 = true then (tilefarmlaw4_PlaneShares.j0 k (!bt358.2.2.2.2) bt307.1 bt307.2.1 bt307.2.2.1 bt307.2.2.2.1 bt315.1 bt315.2.1 bt315.2.2.1 bt315.2.2.2.1 bt323.1 bt323.2.1 bt323.2.2.1 bt323.2.2.2 bt330.1 bt330.2.1 bt330.2.2.1 bt330.2.2.2.1 bt336.1 bt336.2.1 bt336.2.2.1 bt336.2.2.2.1 bt350.1 bt350.2.1 bt350.2.2.1 bt350.2.2.2.1 bt358.1 bt358.2.1 bt358.2.2.1 bt358.2.2.2.1) else (tilefarmlaw4_PlaneShares.j0 k true bt307.1 bt307.2.1 bt307.2.2.1 bt307.2.2.2.1 bt315.1 bt315.2.1 bt315.2.2.1 bt315.2.2.2.1 bt323.1 bt323.2.1 bt323.2.2.1 bt323.2.2.2 bt330.1 bt330.2.1 bt330.2.2.1 bt330.2.2.2.1 bt336.1 bt336.2.1 bt336.2.2.1 bt336.2.2.2.1 bt350.1 bt350.2.1 bt350.2.2.1 bt350.2.2.2.1 bt358.1 bt358.2.1 bt358.2.2.1 bt358.2.2.2.1)) else (tilefarmlaw4_PlaneShares.j0 k true bt307.1 bt307.2.1 bt307.2.2.1 bt307.2.2.2.1 bt315.1 bt315.2.1 bt315.2.2.1 bt315.2.2.2.1 bt323.1 bt323.2.1 bt323.2.2.1 bt323.2.2.2 bt330.1 bt330.2.1 bt330.2.2.1 bt330.2.2.2.1 bt336.1 bt336.2.1 bt336.2.2.1 bt336.2.2.2.1 bt350.1 bt350.2.1 bt350.2.2.1 bt350.2.2.2.1 bt358.1 bt358.2.1 bt358.2.2.1 bt358.2.2.2.1))))))))))) = some r := H
 have A3 := am_ A30
 clear A30
 replace H := Option.bind_eq_some_iff.mp H
 obtain ⟨⟨t305, t306⟩, A40, H⟩ := H
 replace H : ((tilefarmgen_Tape_Sized.f k t300 t306 (wrap64 (2 + t303)) (wrap64 (2 + t305))).bind fun bt307 => ((tilefarmgen_Tape_Sized.f k t300 bt307.2.2.2.2 1 1).bind fun bt315 => ((tilefarmref4_Copy.f bt307.1 bt307.2.1 bt307.2.2.1 bt307.2.2.2.1).bind fun bt323 => ((tilefarmgen_Tape_Within.f t300 bt315.2.2.2.2 bt307.1 bt307.2.1).bind fun bt330 => ((plane_Crop.f k bt307.1 bt307.2.1 bt307.2.2.1 bt307.2.2.2.1 bt330.1 bt330.2.1 bt330.2.2.1 bt330.2.2.2.1).bind fun bt336 => ((tilefarmref4_Copy.f bt336.1 bt336.2.1 bt336.2.2.1 bt336.2.2.2.1).bind fun bt344 => ((plane_Blit.f k bt307.1 bt307.2.1 bt307.2.2.1 bt307.2.2.2.1 bt344.1 bt344.2.1 bt344.2.2.1 bt344.2.2.2 bt330.1 bt330.2.1).bind fun bt350 => ((plane_Blit.f k bt315.1 bt315.2.1 bt315.2.2.1 bt315.2.2.2.1 bt315.1 bt315.2.1 bt315.2.2.1 bt315.2.2.2.1 0 0).bind fun bt358 => (if bt336.2.2.2.2 = true then (if bt350.2.2.2.2 = true then (tilefarmlaw4_PlaneShares.j0 k (!bt358.2.2.2.2) bt307.1 bt307.2.1 bt307.2.2.1 bt307.2.2.2.1 bt315.1 bt315.2.1 bt315.2.2.1 bt315.2.2.2.1 bt323.1 bt323.2.1 bt323.2.2.1 bt323.2.2.2 bt330.1 bt330.2.1 bt330.2.2.1 bt330.2.2.2.1 bt336.1 bt336.2.1 bt336.2.2.1 bt336.2.2.2.1 bt350.1 bt350.2.1 bt350.2.2.1 bt350.2.2.2.1 bt358.1 bt358.2.1 bt358.2.2.1 bt358.2.2.2.1) else (tilefarmlaw4_PlaneShares.j0 k true bt307.1 bt307.2.1 bt307.2.2.1 bt307.2.2.2.1 bt315.1 bt315.2.1 bt315.2.2.1 bt315.2.2.2.1 bt323.1 bt323.2.1 bt323.2.2.1 bt323.2.2.2 bt330.1 bt330.2.1 bt330.2.2.1 bt330.2.2.2.1 bt336.1 bt336.2.1 bt336.2.2.1 bt336.2.2.2.1 bt350.1 bt350.2.1 bt350.2.2.1 bt350.2.2.2.1 bt358.1 bt358.2.1 bt358.2.2.1 bt358.2.2.2.1)) else (tilefarmlaw4_PlaneShares.j0 k true bt307.1 bt307.2.1 bt307.2.2.1 bt307.2.2.2.1 bt315.1 bt315.2.1 bt315.2.2.1 bt315.2.2.2.1 bt323.1 bt323.2.1 bt323.2.2.1 bt323.2.2.2 bt330.1 bt330.2.1 bt330.2.2.1 bt330.2.2.2.1 bt336.1 bt336.2.1 bt336.2.2.1 bt336.2.2.2.1 bt350.1 bt350.2.1 bt350.2.2.1 bt350.2.2.2.1 bt358.1 bt358.2.1 bt358.2.2.1 bt358.2.2.2.1)))))))))) = some r := H
 have A4 := am_ A40
 clear A40
 replace H := Option.bind_eq_some_iff.mp H
 obtain ⟨⟨t307, t308, t309, t310, t313⟩, A50, H⟩ := H
 replace H : ((tilefarmgen_Tape_Sized.f k t300 t313 1 1).bind fun bt315 => ((tilefarmref4_Copy.f t307 t308 t309 t310).bind fun bt323 => ((tilefarmgen_Tape_Within.f t300 bt315.2.2.2.2 t307 t308).bind fun bt330 => ((plane_Crop.f k t307 t308 t309 t310 bt330.1 bt330.2.1 bt330.2.2.1 bt330.2.2.2.1).bind fun bt336 => ((tilefarmref4_Copy.f bt336.1 bt336.2.1 bt336.2.2.1 bt336.2.2.2.1).bind fun bt344 => ((plane_Blit.f k t307 t308 t309 t310 bt344.1 bt344.2.1 bt344.2.2.1 bt344.2.2.2 bt330.1 bt330.2.1).bind fun bt350 => ((plane_Blit.f k bt315.1 bt315.2.1 bt315.2.2.1 bt315.2.2.2.1 bt315.1 bt315.2.1 bt315.2.2.1 bt315.2.2.2.1 0 0).bind fun bt358 => (if bt336.2.2.2.2 = true then (if bt350.2.2.2.2 = true then (tilefarmlaw4_PlaneShares.j0 k (!bt358.2.2.2.2) t307 t308 t309 t310 bt315.1 bt315.2.1 bt315.2.2.1 bt315.2.2.2.1 bt323.1 bt323.2.1 bt323.2.2.1 bt323.2.2.2 bt330.1 bt330.2.1 bt330.2.2.1 bt330.2.2.2.1 bt336.1 bt336.2.1 bt336.2.2.1 bt336.2.2.2.1 bt350.1 bt350.2.1 bt350.2.2.1 bt350.2.2.2.1 bt358.1 bt358.2.1 bt358.2.2.1 bt358.2.2.2.1) else (tilefarmlaw4_PlaneShares.j0 k true t307 t308 t309 t310 bt315.1 bt315.2.1 bt315.2.2.1 bt315.2.2.2.1 bt323.1 bt323.2.1 bt323.2.2.1 bt323.2.2.2 bt330.1 bt330.2.1 bt330.2.2.1 bt330.2.2.2.1 bt336.1 bt336.2.1 bt336.2.2.1 bt336.2.2.2.1 bt350.1 bt350.2.1 bt350.2.2.1 bt350.2.2.2.1 bt358.1 bt358.2.1 bt358.2.2.1 bt358.2.2.2.1)) else (tilefarmlaw4_PlaneShares.j0 k true t307 t308 t309 t310 bt315.1 bt315.2.1 bt315.2.2.1 bt315.2.2.2.1 bt323.1 bt323.2.1 bt323.2.2.1 bt323.2.2.2 bt330.1 bt330.2.1 bt330.2.2.1 bt330.2.2.2.1 bt336.1 bt336.2.1 bt336.2.2.1 bt336.2.2.2.1 bt350.1 bt350.2.1 bt350.2.2.1 bt350.2.2.2.1 bt358.1 bt358.2.1 bt358.2.2.1 bt358.2.2.2.1))))))))) = some r := H
 have A5 := am_ A50
 clear A50
 replace H := Option.bind_eq_some_iff.mp H
 obtain ⟨⟨t315, t316, t317, t318, t321⟩, A60, H⟩ := H
 replace H : ((tilefarmref4_Copy.f t307 t308 t309 t310).bind fun bt323 => ((tilefarmgen_Tape_Within.f t300 t321 t307 t308).bind fun bt330 => ((plane_Crop.f k t307 t308 t309 t310 bt330.1 bt330.2.1 bt330.2.2.1 bt330.2.2.2.1).bind fun bt336 => ((tilefarmref4_Copy.f bt336.1 bt336.2.1 bt336.2.2.1 bt336.2.2.2.1).bind fun bt344 => ((plane_Blit.f k t307 t308 t309 t310 bt344.1 bt344.2.1 bt344.2.2.1 bt344.2.2.2 bt330.1 bt330.2.1).bind fun bt350 => ((plane_Blit.f k t315 t316 t317 t318 t315 t316 t317 t318 0 0).bind fun bt358 => (if bt336.2.2.2.2 = true then (if bt350.2.2.2.2 = true then (tilefarmlaw4_PlaneShares.j0 k (!bt358.2.2.2.2) t307 t308 t309 t310 t315 t316 t317 t318 bt323.1 bt323.2.1 bt323.2.2.1 bt323.2.2.2 bt330.1 bt330.2.1 bt330.2.2.1 bt330.2.2.2.1 bt336.1 bt336.2.1 bt336.2.2.1 bt336.2.2.2.1 bt350.1 bt350.2.1 bt350.2.2.1 bt350.2.2.2.1 bt358.1 bt358.2.1 bt358.2.2.1 bt358.2.2.2.1) else (tilefarmlaw4_PlaneShares.j0 k true t307 t308 t309 t310 t315 t316 t317 t318 bt323.1 bt323.2.1 bt323.2.2.1 bt323.2.2.2 bt330.1 bt330.2.1 bt330.2.2.1 bt330.2.2.2.1 bt336.1 bt336.2.1 bt336.2.2.1 bt336.2.2.2.1 bt350.1 bt350.2.1 bt350.2.2.1 bt350.2.2.2.1 bt358.1 bt358.2.1 bt358.2.2.1 bt358.2.2.2.1)) else (tilefarmlaw4_PlaneShares.j0 k true t307 t308 t309 t310 t315 t316 t317 t318 bt323.1 bt323.2.1 bt323.2.2.1 bt323.2.2.2 bt330.1 bt330.2.1 bt330.2.2.1 bt330.2.2.2.1 bt336.1 bt336.2.1 bt336.2.2.1 bt336.2.2.2.1 bt350.1 bt350.2.1 bt350.2.2.1 bt350.2.2.2.1 bt358.1 bt358.2.1 bt358.2.2.1 bt358.2.2.2.1)))))))) = some r := H
 have A6 := am_ A60
 clear A60
 replace H := Option.bind_eq_some_iff.mp H
 obtain ⟨⟨t323, t324, t325, t326⟩, A70, H⟩ := H
 replace H : ((tilefarmgen_Tape_Within.f t300 t321 t307 t308).bind fun bt330 => ((plane_Crop.f k t307 t308 t309 t310 bt330.1 bt330.2.1 bt330.2.2.1 bt330.2.2.2.1).bind fun bt336 => ((tilefarmref4_Copy.f bt336.1 bt336.2.1 bt336.2.2.1 bt336.2.2.2.1).bind fun bt344 => ((plane_Blit.f k t307 t308 t309 t310 bt344.1 bt344.2.1 bt344.2.2.1 bt344.2.2.2 bt330.1 bt330.2.1).bind fun bt350 => ((plane_Blit.f k t315 t316 t317 t318 t315 t316 t317 t318 0 0).bind fun bt358 => (if bt336.2.2.2.2 = true then (if bt350.2.2.2.2 = true then (tilefarmlaw4_PlaneShares.j0 k (!bt358.2.2.2.2) t307 t308 t309 t310 t315 t316 t317 t318 t323 t324 t325 t326 bt330.1 bt330.2.1 bt330.2.2.1 bt330.2.2.2.1 bt336.1 bt336.2.1 bt336.2.2.1 bt336.2.2.2.1 bt350.1 bt350.2.1 bt350.2.2.1 bt350.2.2.2.1 bt358.1 bt358.2.1 bt358.2.2.1 bt358.2.2.2.1) else (tilefarmlaw4_PlaneShares.j0 k true t307 t308 t309 t310 t315 t316 t317 t318 t323 t324 t325 t326 bt330.1 bt330.2.1 bt330.2.2.1 bt330.2.2.2.1 bt336.1 bt336.2.1 bt336.2.2.1 bt336.2.2.2.1 bt350.1 bt350.2.1 bt350.2.2.1 bt350.2.2.2.1 bt358.1 bt358.2.1 bt358.2.2.1 bt358.2.2.2.1)) else (tilefarmlaw4_PlaneShares.j0 k true t307 t308 t309 t310 t315 t316 t317 t318 t323 t324 t325 t326 bt330.1 bt330.2.1 bt330.2.2.1 bt330.2.2.2.1 bt336.1 bt336.2.1 bt336.2.2.1 bt336.2.2.2.1 bt350.1 bt350.2.1 bt350.2.2.1 bt350.2.2.2.1 bt358.1 bt358.2.1 bt358.2.2.1 bt358.2.2.2.1))))))) = some r := H
 have A7 := am_ A70
 clear A70
 replace H := Option.bind_eq_some_iff.mp H
 obtain ⟨⟨t330, t331, t332, t333, t334⟩, A80, H⟩ := H
 replace H : ((plane_Crop.f k t307 t308 t309 t310 t330 t331 t332 t333).bind fun bt336 => ((tilefarmref4_Copy.f bt336.1 bt336.2.1 bt336.2.2.1 bt336.2.2.2.1).bind fun bt344 => ((plane_Blit.f k t307 t308 t309 t310 bt344.1 bt344.2.1 bt344.2.2.1 bt344.2.2.2 t330 t331).bind fun bt350 => ((plane_Blit.f k t315 t316 t317 t318 t315 t316 t317 t318 0 0).bind fun bt358 => (if bt336.2.2.2.2 = true then (if bt350.2.2.2.2 = true then (tilefarmlaw4_PlaneShares.j0 k (!bt358.2.2.2.2) t307 t308 t309 t310 t315 t316 t317 t318 t323 t324 t325 t326 t330 t331 t332 t333 bt336.1 bt336.2.1 bt336.2.2.1 bt336.2.2.2.1 bt350.1 bt350.2.1 bt350.2.2.1 bt350.2.2.2.1 bt358.1 bt358.2.1 bt358.2.2.1 bt358.2.2.2.1) else (tilefarmlaw4_PlaneShares.j0 k true t307 t308 t309 t310 t315 t316 t317 t318 t323 t324 t325 t326 t330 t331 t332 t333 bt336.1 bt336.2.1 bt336.2.2.1 bt336.2.2.2.1 bt350.1 bt350.2.1 bt350.2.2.1 bt350.2.2.2.1 bt358.1 bt358.2.1 bt358.2.2.1 bt358.2.2.2.1)) else (tilefarmlaw4_PlaneShares.j0 k true t307 t308 t309 t310 t315 t316 t317 t318 t323 t324 t325 t326 t330 t331 t332 t333 bt336.1 bt336.2.1 bt336.2.2.1 bt336.2.2.2.1 bt350.1 bt350.2.1 bt350.2.2.1 bt350.2.2.2.1 bt358.1 bt358.2.1 bt358.2.2.1 bt358.2.2.2.1)))))) = some r := H
 have A8 := am_ A80
 clear A80
 replace H := Option.bind_eq_some_iff.mp H
 obtain ⟨⟨t336, t337, t338, t339, t342⟩, A90, H⟩ := H
 replace H : ((tilefarmref4_Copy.f t336 t337 t338 t339).bind fun bt344 => ((plane_Blit.f k t307 t308 t309 t310 bt344.1 bt344.2.1 bt344.2.2.1 bt344.2.2.2 t330 t331).bind fun bt350 => ((plane_Blit.f k t315 t316 t317 t318 t315 t316 t317 t318 0 0).bind fun bt358 => (if t342 = true then (if bt350.2.2.2.2 = true then (tilefarmlaw4_PlaneShares.j0 k (!bt358.2.2.2.2) t307 t308 t309 t310 t315 t316 t317 t318 t323 t324 t325 t326 t330 t331 t332 t333 t336 t337 t338 t339 bt350.1 bt350.2.1 bt350.2.2.1 bt350.2.2.2.1 bt358.1 bt358.2.1 bt358.2.2.1 bt358.2.2.2.1) else (tilefarmlaw4_PlaneShares.j0 k true t307 t308 t309 t310 t315 t316 t317 t318 t323 t324 t325 t326 t330 t331 t332 t333 t336 t337 t338 t339 bt350.1 bt350.2.1 bt350.2.2.1 bt350.2.2.2.1 bt358.1 bt358.2.1 bt358.2.2.1 bt358.2.2.2.1)) else (tilefarmlaw4_PlaneShares.j0 k true t307 t308 t309 t310 t315 t316 t317 t318 t323 t324 t325 t326 t330 t331 t332 t333 t336 t337 t338 t339 bt350.1 bt350.2.1 bt350.2.2.1 bt350.2.2.2.1 bt358.1 bt358.2.1 bt358.2.2.1 bt358.2.2.2.1))))) = some r := H
 have A9 := am_ A90
 clear A90
 replace H := Option.bind_eq_some_iff.mp H
 obtain ⟨⟨t344, t345, t346, t347⟩, A100, H⟩ := H
 replace H : ((plane_Blit.f k t307 t308 t309 t310 t344 t345 t346 t347 t330 t331).bind fun bt350 => ((plane_Blit.f k t315 t316 t317 t318 t315 t316 t317 t318 0 0).bind fun bt358 => (if t342 = true then (if bt350.2.2.2.2 = true then (tilefarmlaw4_PlaneShares.j0 k (!bt358.2.2.2.2) t307 t308 t309 t310 t315 t316 t317 t318 t323 t324 t325 t326 t330 t331 t332 t333 t336 t337 t338 t339 bt350.1 bt350.2.1 bt350.2.2.1 bt350.2.2.2.1 bt358.1 bt358.2.1 bt358.2.2.1 bt358.2.2.2.1) else (tilefarmlaw4_PlaneShares.j0 k true t307 t308 t309 t310 t315 t316 t317 t318 t323 t324 t325 t326 t330 t331 t332 t333 t336 t337 t338 t339 bt350.1 bt350.2.1 bt350.2.2.1 bt350.2.2.2.1 bt358.1 bt358.2.1 bt358.2.2.1 bt358.2.2.2.1)) else (tilefarmlaw4_PlaneShares.j0 k true t307 t308 t309 t310 t315 t316 t317 t318 t323 t324 t325 t326 t330 t331 t332 t333 t336 t337 t338 t339 bt350.1 bt350.2.1 bt350.2.2.1 bt350.2.2.2.1 bt358.1 bt358.2.1 bt358.2.2.1 bt358.2.2.2.1)))) = some r := H
 have A10 := am_ A100
 clear A100
 replace H := Option.bind_eq_some_iff.mp H
 obtain ⟨⟨t350, t351, t352, t353, t356⟩, A110, H⟩ := H
 replace H : ((plane_Blit.f k t315 t316 t317 t318 t315 t316 t317 t318 0 0).bind fun bt358 => (if t342 = true then (if t356 = true then (tilefarmlaw4_PlaneShares.j0 k (!bt358.2.2.2.2) t307 t308 t309 t310 t315 t316 t317 t318 t323 t324 t325 t326 t330 t331 t332 t333 t336 t337 t338 t339 t350 t351 t352 t353 bt358.1 bt358.2.1 bt358.2.2.1 bt358.2.2.2.1) else (tilefarmlaw4_PlaneShares.j0 k true t307 t308 t309 t310 t315 t316 t317 t318 t323 t324 t325 t326 t330 t331 t332 t333 t336 t337 t338 t339 t350 t351 t352 t353 bt358.1 bt358.2.1 bt358.2.2.1 bt358.2.2.2.1)) else (tilefarmlaw4_PlaneShares.j0 k true t307 t308 t309 t310 t315 t316 t317 t318 t323 t324 t325 t326 t330 t331 t332 t333 t336 t337 t338 t339 t350 t351 t352 t353 bt358.1 bt358.2.1 bt358.2.2.1 bt358.2.2.2.1))) = some r := H
 have A11 := am_ A110
 clear A110
 replace H := Option.bind_eq_some_iff.mp H
 obtain ⟨⟨t358, t359, t360, t361, t364⟩, A120, H⟩ := H
 replace H : (if t342 = true then (if t356 = true then (tilefarmlaw4_PlaneShares.j0 k (!t364) t307 t308 t309 t310 t315 t316 t317 t318 t323 t324 t325 t326 t330 t331 t332 t333 t336 t337 t338 t339 t350 t351 t352 t353 t358 t359 t360 t361) else (tilefarmlaw4_PlaneShares.j0 k true t307 t308 t309 t310 t315 t316 t317 t318 t323 t324 t325 t326 t330 t331 t332 t333 t336 t337 t338 t339 t350 t351 t352 t353 t358 t359 t360 t361)) else (tilefarmlaw4_PlaneShares.j0 k true t307 t308 t309 t310 t315 t316 t317 t318 t323 t324 t325 t326 t330 t331 t332 t333 t336 t337 t338 t339 t350 t351 t352 t353 t358 t359 t360 t361)) = some r := H
 have A12 := am_ A120
 clear A120
 have HC13 := am_ H
 clear H
 go_enter Try.func3, Try.ntmps3
 try go_wp2_with (first | ((with_reducible refine gate_callee (f := 8) rfl ?_); refine goesL_ (some 20) rfl rfl Try.func8 (by kernel_rfl) rfl #[.slice A0 l0.length c0] rfl q130_ ?_; (with_reducible refine (tilefarmgen_New.calls _ _ l0 t300 t301 w _ ?side1 ?side2 ?side3 A2.out).mono ?_); (case side1 => repeat (first | (with_reducible first | exact HB.out | apply below_alloc | apply pw_below_drewN | apply below_drew1) | exact HB.out)); (case side2 => exact HR0.out); (case side3 => exact HC0.out); rintro e w14 ⟨g302, rfl, hi, hb, hb2⟩; refine ⟨_, rfl, ?_⟩; have n0_ := am_ (hb); have n1_ := am_ (hi); clear HB; have HB := n0_; have HI302 := n1_; clear n0_ n1_) | ((with_reducible refine gate_callee (f := 10) rfl ?_); refine goesL_ (some 23) rfl rfl Try.func10 (by kernel_rfl) rfl #[.pointer (some ⟨g302, 0, none⟩), .int .i64 4] rfl q130_ ?_; (with_reducible refine (tilefarmgen_Tape_Next.calls g302 t300 t301 4 t303 t304 w _ ?side1 ?side2 A3.out).mono ?_); (case side1 => repeat (first | (with_reducible first | exact HI302.out | apply IsS54.alloc | apply IsS54.drewN | apply IsS54.drew | apply IsS54.set_1) | exact HI302.out)); (case side2 => repeat (first | (with_reducible first | exact HB.out | apply below_alloc | apply pw_below_drewN | apply below_drew1 | refine below_set ?_ (IsS54.ge HI302.out)) | exact HB.out)); rintro e w15 ⟨rfl, hi, hb, hk⟩; refine ⟨_, rfl, ?_⟩; have n0_ := am_ (hb); have n1_ := am_ (hi); clear HB; clear HI302; have HB := n0_; have HI302 := n1_; clear n0_ n1_) | ((with_reducible refine gate_callee (f := 10) rfl ?_); refine goesL_ (some 26) rfl rfl Try.func10 (by kernel_rfl) rfl #[.pointer (some ⟨g302, 0, none⟩), .int .i64 4] rfl q130_ ?_; (with_reducible refine (tilefarmgen_Tape_Next.calls g302 t300 t304 4 t305 t306 w _ ?side1 ?side2 A4.out).mono ?_); (case side1 => repeat (first | (with_reducible first | exact HI302.out | apply IsS54.alloc | apply IsS54.drewN | apply IsS54.drew | apply IsS54.set_1) | exact HI302.out)); (case side2 => repeat (first | (with_reducible first | exact HB.out | apply below_alloc | apply pw_below_drewN | apply below_drew1 | refine below_set ?_ (IsS54.ge HI302.out)) | exact HB.out)); rintro e w16 ⟨rfl, hi, hb, hk⟩; refine ⟨_, rfl, ?_⟩; have n0_ := am_ (hb); have n1_ := am_ (hi); clear HB; clear HI302; have HB := n0_; have HI302 := n1_; clear n0_ n1_) | ((with_reducible refine gate_callee (f := 9) rfl ?_); refine goesL_ (some 28) rfl rfl Try.func9 (by kernel_rfl) rfl #[.pointer (some ⟨g302, 0, none⟩), .int .i64 (wrap64 (2 + t303)), .int .i64 (wrap64 (2 + t305))] rfl q130_ ?_; (with_reducible refine (tilefarmgen_Tape_Sized.calls k g302 t300 t306 (wrap64 (2 + t303)) (wrap64 (2 + t305)) t307 t308 t309 t310 t313 w _ ?side1 ?side2 A5.out).mono ?_); (case side1 => repeat (first | (with_reducible first | exact HI302.out | apply IsS54.alloc | apply IsS54.drewN | apply IsS54.drew | apply IsS54.set_1) | exact HI302.out)); (case side2 => repeat (first | (with_reducible first | exact HB.out | apply below_alloc | apply pw_below_drewN | apply below_drew1 | refine below_set ?_ (IsS54.ge HI302.out)) | exact HB.out)); rintro e w17 ⟨v311, rfl, ho0, hi, hb, hk⟩; refine ⟨_, rfl, ?_⟩; have n0_ := am_ (Kd.R_lower ho0 (below_size q103_)); have n1_ := am_ (hb); have n2_ := am_ (hi); clear HB; clear HI302; have HO312 := n0_; have HB := n1_; have HI302 := n2_; clear n0_ n1_ n2_; (try clear ho0)) | ((with_reducible refine gate_dst (N := 4) rfl ?_); refine box_event ?hg (N := 4) ?hd (cs := #[.int .i64 0, .int .i64 0, .int .i64 0, .slice none 0 0]) (t := 26) ?hr ?_; (case hd => rfl); (case hg => rfl); (case hr => first | (go_simp; done) | (go_simp; rfl)); intro gb314 hg w18 hbox hb; have n0_ := am_ (Kd.R_below q188_ hb); have n1_ := am_ (IsS54.below (by repeat (first | (with_reducible first | exact HI302.out | apply IsS54.alloc | apply IsS54.drewN | apply IsS54.drew | apply IsS54.set_1) | exact HI302.out)) hb); have n2_ := am_ (below_step q103_ hb); have n3_ := am_ (hbox); have n4_ := am_ ((by rw [hg]; exact (below_size q103_) : w.heap.size ≤ gb314)); have n5_ := am_ ((by rw [hg]; exact (below_size q103_) : w.heap.size ≤ gb314)); have n6_ := am_ ((by rw [hg]; exact Nat.ne_of_lt (IsS54.lt (show IsS54 w _ g302 t300 t313 from by repeat (first | (with_reducible first | exact HI302.out | apply IsS54.alloc | apply IsS54.drewN | apply IsS54.drew | apply IsS54.set_1) | exact HI302.out))) : g302 ≠ gb314)); have n7_ := am_ ((by rw [hg]; exact Nat.ne_of_gt (IsS54.lt (show IsS54 w _ g302 t300 t313 from by repeat (first | (with_reducible first | exact HI302.out | apply IsS54.alloc | apply IsS54.drewN | apply IsS54.drew | apply IsS54.set_1) | exact HI302.out))) : gb314 ≠ g302)); clear HO312; clear HI302; clear HB; have HO312 := n0_; have HI302 := n1_; have HB := n2_; have BK314 := n3_; have GW314 := n4_; have GE314 := n5_; have NB302_314 := n6_; have NB314_302 := n7_; clear n0_ n1_ n2_ n3_ n4_ n5_ n6_ n7_; clear hb hbox hg; have hnb19 := NB314_302.out; have hnc19 := NB302_314.out; have hcz20_0 : w18.cell? ⟨gb314, 0, none⟩ = some (.int .i64 0) := (blk_cell BK314.out 0).trans rfl; have hcz20_1 : w18.cell? ⟨gb314, 1, none⟩ = some (.int .i64 0) := (blk_cell BK314.out 1).trans rfl; have hcz20_2 : w18.cell? ⟨gb314, 2, none⟩ = some (.int .i64 0) := (blk_cell BK314.out 2).trans rfl; have hcz20_3 : w18.cell? ⟨gb314, 3, none⟩ = some (.slice none 0 0) := (blk_cell BK314.out 3).trans rfl; have hfz20_0 := blk_frozen BK314.out 0; have hfz20_1 := blk_frozen BK314.out 1; have hfz20_2 := blk_frozen BK314.out 2; have hfz20_3 := blk_frozen BK314.out 3; obtain ⟨Ao21, co21, eo21⟩ := Kd.R_slice HO312.out; subst eo21) | ((with_reducible refine gate_callee (f := 9) rfl ?_); refine goesL_ (some 30) rfl rfl Try.func9 (by kernel_rfl) rfl #[.pointer (some ⟨g302, 0, none⟩), .int .i64 1, .int .i64 1] rfl q130_ ?_; (with_reducible refine (tilefarmgen_Tape_Sized.calls k g302 t300 t313 1 1 t315 t316 t317 t318 t321 w _ ?side1 ?side2 A6.out).mono ?_); (case side1 => repeat (first | (with_reducible first | exact HI302.out | apply IsS54.alloc | apply IsS54.drewN | apply IsS54.drew | apply IsS54.set_1 | refine IsS54.far ?_ NB302_314.out _) | exact HI302.out)); (case side2 => repeat (first | (with_reducible first | exact HB.out | apply below_alloc | apply pw_below_drewN | apply below_drew1 | refine below_set ?_ (IsS54.ge HI302.out) | refine below_set ?_ GE314.out) | exact HB.out)); rintro e w22 ⟨v319, rfl, ho0, hi, hb, hk⟩; refine ⟨_, rfl, ?_⟩; have n0_ := am_ (Kd.R_mono (Kd.R_told (Kd.R_oldK (IsS54.apart (show IsS54 w _ g302 t300 t313 from by repeat (first | (with_reducible first | exact HI302.out | apply IsS54.alloc | apply IsS54.drewN | apply IsS54.drew | apply IsS54.set_1 | refine IsS54.far ?_ NB302_314.out _) | exact HI302.out)) (by (with_reducible repeat (first | apply Kd.R_alloc | apply Kd.R_drewN | apply Kd.R_drew)); exact (Kd.R_mono (Kd.R_far (p := ⟨gb314, 3, none⟩) (Kd.R_far (p := ⟨gb314, 2, none⟩) (Kd.R_far (p := ⟨gb314, 1, none⟩) (Kd.R_far (p := ⟨gb314, 0, none⟩) (Kd.R_types HO312.out BK314.out (by decide)) (fun _ hk => hk.2) (.int .i64 t307)) (fun _ hk => hk.2) (.int .i64 t308)) (fun _ hk => hk.2) (.int .i64 t309)) (fun _ hk => hk.2) (.slice Ao21 t310.length co21)) (fun _ h_ => h_.1))) (by decide)) hk) (Kd.R_base ho0)) (fun _ h_ => h_.1)); have n1_ := am_ (KeepBut.blk hk (g' := gb314) (o := .cells #[.int .i64 t307, .int .i64 t308, .int .i64 t309, .slice Ao21 t310.length co21] 26 (0, 0)) (by (with_reducible repeat (first | refine blk_drewN ?_ _ | refine blk_drew ?_ | refine blk_alloc ?_ _)); refine blk_put (cs := #[.int .i64 t307, .int .i64 t308, .int .i64 t309, .slice none 0 0]) ?_ 3 _ rfl; (with_reducible repeat (first | refine blk_drewN ?_ _ | refine blk_drew ?_ | refine blk_alloc ?_ _)); refine blk_put (cs := #[.int .i64 t307, .int .i64 t308, .int .i64 0, .slice none 0 0]) ?_ 2 _ rfl; (with_reducible repeat (first | refine blk_drewN ?_ _ | refine blk_drew ?_ | refine blk_alloc ?_ _)); refine blk_put (cs := #[.int .i64 t307, .int .i64 0, .int .i64 0, .slice none 0 0]) ?_ 1 _ rfl; (with_reducible repeat (first | refine blk_drewN ?_ _ | refine blk_drew ?_ | refine blk_alloc ?_ _)); refine blk_put (cs := #[.int .i64 0, .int .i64 0, .int .i64 0, .slice none 0 0]) ?_ 0 _ rfl; (with_reducible repeat (first | refine blk_drewN ?_ _ | refine blk_drew ?_ | refine blk_alloc ?_ _)); exact BK314.out) NB314_302.out (by simp)); have n2_ := am_ (Kd.R_lower (Kd.R_new' ho0 (Kd.R_lt (by (with_reducible repeat (first | apply Kd.R_alloc | apply Kd.R_drewN | apply Kd.R_drew)); exact (Kd.R_mono (Kd.R_far (p := ⟨gb314, 3, none⟩) (Kd.R_far (p := ⟨gb314, 2, none⟩) (Kd.R_far (p := ⟨gb314, 1, none⟩) (Kd.R_far (p := ⟨gb314, 0, none⟩) (Kd.R_types HO312.out BK314.out (by decide)) (fun _ hk => hk.2) (.int .i64 t307)) (fun _ hk => hk.2) (.int .i64 t308)) (fun _ hk => hk.2) (.int .i64 t309)) (fun _ hk => hk.2) (.slice Ao21 t310.length co21)) (fun _ h_ => h_.1))))) (below_size q78_)); have n3_ := am_ (hb); have n4_ := am_ (hi); clear HO312; clear BK314; clear HB; clear HI302; have HO312 := n0_; have BK314 := n1_; have HO320 := n2_; have HB := n3_; have HI302 := n4_; clear n0_ n1_ n2_ n3_ n4_; (try clear ho0)) | ((with_reducible refine gate_dst (N := 5) rfl ?_); refine box_event ?hg (N := 5) ?hd (cs := #[.int .i64 0, .int .i64 0, .int .i64 0, .slice none 0 0]) (t := 26) ?hr ?_; (case hd => rfl); (case hg => rfl); (case hr => first | (go_simp; done) | (go_simp; rfl)); intro gb322 hg w23 hbox hb; have n0_ := am_ (Kd.R_below q188_ hb); have n1_ := am_ (Kd.R_below q189_ hb); have n2_ := am_ (IsS54.below (by repeat (first | (with_reducible first | exact HI302.out | apply IsS54.alloc | apply IsS54.drewN | apply IsS54.drew | apply IsS54.set_1 | refine IsS54.far ?_ NB302_314.out _) | exact HI302.out)) hb); have n3_ := am_ (blk_below (g := gb314) (o := .cells #[.int .i64 t307, .int .i64 t308, .int .i64 t309, .slice Ao21 t310.length co21] 26 (0, 0)) q163_ hb); have n4_ := am_ (below_step q78_ hb); have n5_ := am_ (hbox); have n6_ := am_ ((by rw [hg]; exact (below_size q78_) : w.heap.size ≤ gb322)); have n7_ := am_ ((by rw [hg]; exact (below_size q78_) : w.heap.size ≤ gb322)); have n8_ := am_ ((q39_ : gb314 ≠ gb322)); have n9_ := am_ ((q40_ : gb322 ≠ gb314)); have n10_ := am_ ((by rw [hg]; exact Nat.ne_of_lt (IsS54.lt (show IsS54 w _ g302 t300 t321 from by repeat (first | (with_reducible first | exact HI302.out | apply IsS54.alloc | apply IsS54.drewN | apply IsS54.drew | apply IsS54.set_1 | refine IsS54.far ?_ NB302_314.out _) | exact HI302.out))) : g302 ≠ gb322)); have n11_ := am_ ((by rw [hg]; exact Nat.ne_of_gt (IsS54.lt (show IsS54 w _ g302 t300 t321 from by repeat (first | (with_reducible first | exact HI302.out | apply IsS54.alloc | apply IsS54.drewN | apply IsS54.drew | apply IsS54.set_1 | refine IsS54.far ?_ NB302_314.out _) | exact HI302.out))) : gb322 ≠ g302)); clear HO312; clear HO320; clear HI302; clear BK314; clear HB; have HO312 := n0_; have HO320 := n1_; have HI302 := n2_; have BK314 := n3_; have HB := n4_; have BK322 := n5_; have GW322 := n6_; have GE322 := n7_; have NB314_322 := n8_; have NB322_314 := n9_; have NB302_322 := n10_; have NB322_302 := n11_; clear n0_ n1_ n2_ n3_ n4_ n5_ n6_ n7_ n8_ n9_ n10_ n11_; clear hb hbox hg; have hnb24 := NB322_314.out; have hnc24 := NB314_322.out; have hnb25 := NB322_302.out; have hnc25 := NB302_322.out; have hcz26_0 : w23.cell? ⟨gb322, 0, none⟩ = some (.int .i64 0) := (blk_cell BK322.out 0).trans rfl; have hcz26_1 : w23.cell? ⟨gb322, 1, none⟩ = some (.int .i64 0) := (blk_cell BK322.out 1).trans rfl; have hcz26_2 : w23.cell? ⟨gb322, 2, none⟩ = some (.int .i64 0) := (blk_cell BK322.out 2).trans rfl; have hcz26_3 : w23.cell? ⟨gb322, 3, none⟩ = some (.slice none 0 0) := (blk_cell BK322.out 3).trans rfl; have hfz26_0 := blk_frozen BK322.out 0; have hfz26_1 := blk_frozen BK322.out 1; have hfz26_2 := blk_frozen BK322.out 2; have hfz26_3 := blk_frozen BK322.out 3; obtain ⟨Ao27, co27, eo27⟩ := Kd.R_slice HO320.out; subst eo27; have hcz28_0 : w23.cell? ⟨gb314, 0, none⟩ = some (.int .i64 t307) := (blk_cell BK314.out 0).trans rfl; have hcz28_1 : w23.cell? ⟨gb314, 1, none⟩ = some (.int .i64 t308) := (blk_cell BK314.out 1).trans rfl; have hcz28_2 : w23.cell? ⟨gb314, 2, none⟩ = some (.int .i64 t309) := (blk_cell BK314.out 2).trans rfl; have hcz28_3 : w23.cell? ⟨gb314, 3, none⟩ = some (.slice Ao21 t310.length co21) := (blk_cell BK314.out 3).trans rfl; have hfz28_0 := blk_frozen BK314.out 0; have hfz28_1 := blk_frozen BK314.out 1; have hfz28_2 := blk_frozen BK314.out 2; have hfz28_3 := blk_frozen BK314.out 3) | ((with_reducible refine gate_callee (f := 11) rfl ?_); refine goesL_ (some 32) rfl rfl Try.func11 (by kernel_rfl) rfl #[.agg #[.int .i64 t307, .int .i64 t308, .int .i64 t309, .slice Ao21 t310.length co21]] rfl q130_ ?_; (with_reducible refine (tilefarmref4_Copy.calls t307 t308 t309 _ _ t310 t323 t324 t325 t326 _ ?side1 ?side2 A7.out).mono ?_); (case side1 => refine (Kd.R_reads' (e := 3) (base := w.heap.size) (ok := fun k_ => (True ∧ some k_ ≠ (.slice Ao27 t318.length co27 : Value).ownBlock)) (n := t310.length) (c := co21) ?_).2.2; exact q13_); (case side2 => exact (Kd.R_reads' HO312.out).2.1); rintro e w29 ⟨v327, rfl, ho0, hb⟩; refine ⟨_, rfl, ?_⟩; have n0_ := am_ (Kd.R_elder' q13_ (Kd.R_base ho0) hb); have n1_ := am_ (Kd.R_elder' (by (with_reducible repeat (first | apply Kd.R_alloc | apply Kd.R_drewN | apply Kd.R_drew)); exact (Kd.R_mono (Kd.R_far (p := ⟨gb322, 3, none⟩) (Kd.R_far (p := ⟨gb322, 2, none⟩) (Kd.R_far (p := ⟨gb322, 1, none⟩) (Kd.R_far (p := ⟨gb322, 0, none⟩) (Kd.R_types HO320.out BK322.out (by decide)) (fun _ hk => hk.2) (.int .i64 t315)) (fun _ hk => hk.2) (.int .i64 t316)) (fun _ hk => hk.2) (.int .i64 t317)) (fun _ hk => hk.2) (.slice Ao27 t318.length co27)) (fun _ h_ => h_.1))) (Kd.R_base ho0) hb); have n2_ := am_ (Kd.R_lower (Kd.R_new' (Kd.R_new' ho0 (Kd.R_lt q13_)) (Kd.R_lt (by (with_reducible repeat (first | apply Kd.R_alloc | apply Kd.R_drewN | apply Kd.R_drew)); exact (Kd.R_mono (Kd.R_far (p := ⟨gb322, 3, none⟩) (Kd.R_far (p := ⟨gb322, 2, none⟩) (Kd.R_far (p := ⟨gb322, 1, none⟩) (Kd.R_far (p := ⟨gb322, 0, none⟩) (Kd.R_types HO320.out BK322.out (by decide)) (fun _ hk => hk.2) (.int .i64 t315)) (fun _ hk => hk.2) (.int .i64 t316)) (fun _ hk => hk.2) (.int .i64 t317)) (fun _ hk => hk.2) (.slice Ao27 t318.length co27)) (fun _ h_ => h_.1))))) (below_size q66_)); have n3_ := am_ (IsS54.below (show IsS54 w ((((w23.setCell ⟨gb322, 0, none⟩ (.int .i64 t315)).setCell ⟨gb322, 1, none⟩ (.int .i64 t316)).setCell ⟨gb322, 2, none⟩ (.int .i64 t317)).setCell ⟨gb322, 3, none⟩ (.slice Ao27 t318.length co27)) g302 t300 t321 from by repeat (first | (with_reducible first | exact HI302.out | apply IsS54.alloc | apply IsS54.drewN | apply IsS54.drew | apply IsS54.set_1 | refine IsS54.far ?_ NB302_314.out _ | refine IsS54.far ?_ NB302_322.out _) | exact HI302.out)) hb); have n4_ := am_ (blk_below (g := gb314) (o := .cells #[.int .i64 t307, .int .i64 t308, .int .i64 t309, .slice Ao21 t310.length co21] 26 (0, 0)) (by (with_reducible repeat (first | refine blk_drewN ?_ _ | refine blk_drew ?_ | refine blk_alloc ?_ _)); refine blk_far ?_ NB314_322.out _; (with_reducible repeat (first | refine blk_drewN ?_ _ | refine blk_drew ?_ | refine blk_alloc ?_ _)); refine blk_far ?_ NB314_322.out _; (with_reducible repeat (first | refine blk_drewN ?_ _ | refine blk_drew ?_ | refine blk_alloc ?_ _)); refine blk_far ?_ NB314_322.out _; (with_reducible repeat (first | refine blk_drewN ?_ _ | refine blk_drew ?_ | refine blk_alloc ?_ _)); refine blk_far ?_ NB314_322.out _; (with_reducible repeat (first | refine blk_drewN ?_ _ | refine blk_drew ?_ | refine blk_alloc ?_ _)); exact BK314.out) hb); have n5_ := am_ (blk_below (g := gb322) (o := .cells #[.int .i64 t315, .int .i64 t316, .int .i64 t317, .slice Ao27 t318.length co27] 26 (0, 0)) (by (with_reducible repeat (first | refine blk_drewN ?_ _ | refine blk_drew ?_ | refine blk_alloc ?_ _)); refine blk_put (cs := #[.int .i64 t315, .int .i64 t316, .int .i64 t317, .slice none 0 0]) ?_ 3 _ rfl; (with_reducible repeat (first | refine blk_drewN ?_ _ | refine blk_drew ?_ | refine blk_alloc ?_ _)); refine blk_put (cs := #[.int .i64 t315, .int .i64 t316, .int .i64 0, .slice none 0 0]) ?_ 2 _ rfl; (with_reducible repeat (first | refine blk_drewN ?_ _ | refine blk_drew ?_ | refine blk_alloc ?_ _)); refine blk_put (cs := #[.int .i64 t315, .int .i64 0, .int .i64 0, .slice none 0 0]) ?_ 1 _ rfl; (with_reducible repeat (first | refine blk_drewN ?_ _ | refine blk_drew ?_ | refine blk_alloc ?_ _)); refine blk_put (cs := #[.int .i64 0, .int .i64 0, .int .i64 0, .slice none 0 0]) ?_ 0 _ rfl; (with_reducible repeat (first | refine blk_drewN ?_ _ | refine blk_drew ?_ | refine blk_alloc ?_ _)); exact BK322.out) hb); have n6_ := am_ (below_step q66_ hb); clear HO312; clear HO320; clear HI302; clear BK314; clear BK322; clear HB; have HO312 := n0_; have HO320 := n1_; have HO328 := n2_; have HI302 := n3_; have BK314 := n4_; have BK322 := n5_; have HB := n6_; clear n0_ n1_ n2_ n3_ n4_ n5_ n6_; (try clear ho0)) | ((with_reducible refine gate_dst (N := 6) rfl ?_); refine box_event ?hg (N := 6) ?hd (cs := #[.int .i64 0, .int .i64 0, .int .i64 0, .slice none 0 0]) (t := 26) ?hr ?_; (case hd => rfl); (case hg => rfl); (case hr => first | (go_simp; done) | (go_simp; rfl)); intro gb329 hg w30 hbox hb; have n0_ := am_ (Kd.R_below q188_ hb); have n1_ := am_ (Kd.R_below q189_ hb); have n2_ := am_ (Kd.R_below q190_ hb); have n3_ := am_ (IsS54.below (by repeat (first | (with_reducible first | exact HI302.out | apply IsS54.alloc | apply IsS54.drewN | apply IsS54.drew | apply IsS54.set_1 | refine IsS54.far ?_ NB302_314.out _ | refine IsS54.far ?_ NB302_322.out _) | exact HI302.out)) hb); have n4_ := am_ (blk_below (g := gb314) (o := .cells #[.int .i64 t307, .int .i64 t308, .int .i64 t309, .slice Ao21 t310.length co21] 26 (0, 0)) q163_ hb); have n5_ := am_ (blk_below (g := gb322) (o := .cells #[.int .i64 t315, .int .i64 t316, .int .i64 t317, .slice Ao27 t318.length co27] 26 (0, 0)) q164_ hb); have n6_ := am_ (below_step q66_ hb); have n7_ := am_ (hbox); have n8_ := am_ ((by rw [hg]; exact (below_size q66_) : w.heap.size ≤ gb329)); have n9_ := am_ ((by rw [hg]; exact (below_size q66_) : w.heap.size ≤ gb329)); have n10_ := am_ ((q39_ : gb314 ≠ gb329)); have n11_ := am_ ((q40_ : gb329 ≠ gb314)); have n12_ := am_ ((q41_ : gb322 ≠ gb329)); have n13_ := am_ ((q42_ : gb329 ≠ gb322)); have n14_ := am_ ((by rw [hg]; exact Nat.ne_of_lt (IsS54.lt (show IsS54 w _ g302 t300 t321 from by repeat (first | (with_reducible first | exact HI302.out | apply IsS54.alloc | apply IsS54.drewN | apply IsS54.drew | apply IsS54.set_1 | refine IsS54.far ?_ NB302_314.out _ | refine IsS54.far ?_ NB302_322.out _) | exact HI302.out))) : g302 ≠ gb329)); have n15_ := am_ ((by rw [hg]; exact Nat.ne_of_gt (IsS54.lt (show IsS54 w _ g302 t300 t321 from by repeat (first | (with_reducible first | exact HI302.out | apply IsS54.alloc | apply IsS54.drewN | apply IsS54.drew | apply IsS54.set_1 | refine IsS54.far ?_ NB302_314.out _ | refine IsS54.far ?_ NB302_322.out _) | exact HI302.out))) : gb329 ≠ g302)); clear HO312; clear HO320; clear HO328; clear HI302; clear BK314; clear BK322; clear HB; have HO312 := n0_; have HO320 := n1_; have HO328 := n2_; have HI302 := n3_; have BK314 := n4_; have BK322 := n5_; have HB := n6_; have BK329 := n7_; have GW329 := n8_; have GE329 := n9_; have NB314_329 := n10_; have NB329_314 := n11_; have NB322_329 := n12_; have NB329_322 := n13_; have NB302_329 := n14_; have NB329_302 := n15_; clear n0_ n1_ n2_ n3_ n4_ n5_ n6_ n7_ n8_ n9_ n10_ n11_ n12_ n13_ n14_ n15_; clear hb hbox hg; have hnb31 := NB329_314.out; have hnc31 := NB314_329.out; have hnb32 := NB329_322.out; have hnc32 := NB322_329.out; have hnb33 := NB329_302.out; have hnc33 := NB302_329.out; have hcz34_0 : w30.cell? ⟨gb329, 0, none⟩ = some (.int .i64 0) := (blk_cell BK329.out 0).trans rfl; have hcz34_1 : w30.cell? ⟨gb329, 1, none⟩ = some (.int .i64 0) := (blk_cell BK329.out 1).trans rfl; have hcz34_2 : w30.cell? ⟨gb329, 2, none⟩ = some (.int .i64 0) := (blk_cell BK329.out 2).trans rfl; have hcz34_3 : w30.cell? ⟨gb329, 3, none⟩ = some (.slice none 0 0) := (blk_cell BK329.out 3).trans rfl; have hfz34_0 := blk_frozen BK329.out 0; have hfz34_1 := blk_frozen BK329.out 1; have hfz34_2 := blk_frozen BK329.out 2; have hfz34_3 := blk_frozen BK329.out 3; obtain ⟨Ao35, co35, eo35⟩ := Kd.R_slice HO328.out; subst eo35; have hcz36_0 : w30.cell? ⟨gb314, 0, none⟩ = some (.int .i64 t307) := (blk_cell BK314.out 0).trans rfl; have hcz36_1 : w30.cell? ⟨gb314, 1, none⟩ = some (.int .i64 t308) := (blk_cell BK314.out 1).trans rfl; have hcz36_2 : w30.cell? ⟨gb314, 2, none⟩ = some (.int .i64 t309) := (blk_cell BK314.out 2).trans rfl; have hcz36_3 : w30.cell? ⟨gb314, 3, none⟩ = some (.slice Ao21 t310.length co21) := (blk_cell BK314.out 3).trans rfl; have hfz36_0 := blk_frozen BK314.out 0; have hfz36_1 := blk_frozen BK314.out 1; have hfz36_2 := blk_frozen BK314.out 2; have hfz36_3 := blk_frozen BK314.out 3) | ((with_reducible refine gate_callee (f := 12) rfl ?_); refine goesL_ (some 38) rfl rfl Try.func12 (by kernel_rfl) rfl #[.pointer (some ⟨g302, 0, none⟩), .int .i64 t307, .int .i64 t308] rfl q130_ ?_; (with_reducible refine (tilefarmgen_Tape_Within.calls g302 t300 t321 t307 t308 t330 t331 t332 t333 t334 w _ ?side1 ?side2 A8.out).mono ?_); (case side1 => repeat (first | (with_reducible first | exact HI302.out | apply IsS54.alloc | apply IsS54.drewN | apply IsS54.drew | apply IsS54.set_1 | refine IsS54.far ?_ NB302_314.out _ | refine IsS54.far ?_ NB302_322.out _ | refine IsS54.far ?_ NB302_329.out _) | exact HI302.out)); (case side2 => repeat (first | (with_reducible first | exact HB.out | apply below_alloc | apply pw_below_drewN | apply below_drew1 | refine below_set ?_ (IsS54.ge HI302.out) | refine below_set ?_ GE314.out | refine below_set ?_ GE322.out | refine below_set ?_ GE329.out) | exact HB.out)); rintro e w37 ⟨rfl, hi, hb, hk⟩; refine ⟨_, rfl, ?_⟩; have n0_ := am_ (Kd.R_mono (Kd.R_keep (IsS54.apart (show IsS54 w _ g302 t300 t321 from by repeat (first | (with_reducible first | exact HI302.out | apply IsS54.alloc | apply IsS54.drewN | apply IsS54.drew | apply IsS54.set_1 | refine IsS54.far ?_ NB302_314.out _ | refine IsS54.far ?_ NB302_322.out _ | refine IsS54.far ?_ NB302_329.out _) | exact HI302.out)) (by (with_reducible repeat (first | apply Kd.R_alloc | apply Kd.R_drewN | apply Kd.R_drew)); exact (Kd.R_mono (Kd.R_far (p := ⟨gb329, 3, none⟩) (Kd.R_far (p := ⟨gb329, 2, none⟩) (Kd.R_far (p := ⟨gb329, 1, none⟩) (Kd.R_far (p := ⟨gb329, 0, none⟩) (Kd.R_types HO312.out BK329.out (by decide)) (fun _ hk => hk.2) (.int .i64 t323)) (fun _ hk => hk.2) (.int .i64 t324)) (fun _ hk => hk.2) (.int .i64 t325)) (fun _ hk => hk.2) (.slice Ao35 t326.length co35)) (fun _ h_ => h_.1))) (by decide)) hk (fun _ h => h.2)) (fun _ h => h.1)); have n1_ := am_ (KeepBut.blk hk (g' := gb314) (o := .cells #[.int .i64 t307, .int .i64 t308, .int .i64 t309, .slice Ao21 t310.length co21] 26 (0, 0)) (by (with_reducible repeat (first | refine blk_drewN ?_ _ | refine blk_drew ?_ | refine blk_alloc ?_ _)); refine blk_far ?_ NB314_329.out _; (with_reducible repeat (first | refine blk_drewN ?_ _ | refine blk_drew ?_ | refine blk_alloc ?_ _)); refine blk_far ?_ NB314_329.out _; (with_reducible repeat (first | refine blk_drewN ?_ _ | refine blk_drew ?_ | refine blk_alloc ?_ _)); refine blk_far ?_ NB314_329.out _; (with_reducible repeat (first | refine blk_drewN ?_ _ | refine blk_drew ?_ | refine blk_alloc ?_ _)); refine blk_far ?_ NB314_329.out _; (with_reducible repeat (first | refine blk_drewN ?_ _ | refine blk_drew ?_ | refine blk_alloc ?_ _)); exact BK314.out) NB314_302.out (by simp)); have n2_ := am_ (Kd.R_mono (Kd.R_keep (IsS54.apart (show IsS54 w _ g302 t300 t321 from by repeat (first | (with_reducible first | exact HI302.out | apply IsS54.alloc | apply IsS54.drewN | apply IsS54.drew | apply IsS54.set_1 | refine IsS54.far ?_ NB302_314.out _ | refine IsS54.far ?_ NB302_322.out _ | refine IsS54.far ?_ NB302_329.out _) | exact HI302.out)) (by (with_reducible repeat (first | apply Kd.R_alloc | apply Kd.R_drewN | apply Kd.R_drew)); exact (Kd.R_mono (Kd.R_far (p := ⟨gb329, 3, none⟩) (Kd.R_far (p := ⟨gb329, 2, none⟩) (Kd.R_far (p := ⟨gb329, 1, none⟩) (Kd.R_far (p := ⟨gb329, 0, none⟩) (Kd.R_types HO320.out BK329.out (by decide)) (fun _ hk => hk.2) (.int .i64 t323)) (fun _ hk => hk.2) (.int .i64 t324)) (fun _ hk => hk.2) (.int .i64 t325)) (fun _ hk => hk.2) (.slice Ao35 t326.length co35)) (fun _ h_ => h_.1))) (by decide)) hk (fun _ h => h.2)) (fun _ h => h.1)); have n3_ := am_ (KeepBut.blk hk (g' := gb322) (o := .cells #[.int .i64 t315, .int .i64 t316, .int .i64 t317, .slice Ao27 t318.length co27] 26 (0, 0)) (by (with_reducible repeat (first | refine blk_drewN ?_ _ | refine blk_drew ?_ | refine blk_alloc ?_ _)); refine blk_far ?_ NB322_329.out _; (with_reducible repeat (first | refine blk_drewN ?_ _ | refine blk_drew ?_ | refine blk_alloc ?_ _)); refine blk_far ?_ NB322_329.out _; (with_reducible repeat (first | refine blk_drewN ?_ _ | refine blk_drew ?_ | refine blk_alloc ?_ _)); refine blk_far ?_ NB322_329.out _; (with_reducible repeat (first | refine blk_drewN ?_ _ | refine blk_drew ?_ | refine blk_alloc ?_ _)); refine blk_far ?_ NB322_329.out _; (with_reducible repeat (first | refine blk_drewN ?_ _ | refine blk_drew ?_ | refine blk_alloc ?_ _)); exact BK322.out) NB322_302.out (by simp)); have n4_ := am_ (Kd.R_mono (Kd.R_keep (IsS54.apart (show IsS54 w _ g302 t300 t321 from by repeat (first | (with_reducible first | exact HI302.out | apply IsS54.alloc | apply IsS54.drewN | apply IsS54.drew | apply IsS54.set_1 | refine IsS54.far ?_ NB302_314.out _ | refine IsS54.far ?_ NB302_322.out _ | refine IsS54.far ?_ NB302_329.out _) | exact HI302.out)) (by (with_reducible repeat (first | apply Kd.R_alloc | apply Kd.R_drewN | apply Kd.R_drew)); exact (Kd.R_mono (Kd.R_far (p := ⟨gb329, 3, none⟩) (Kd.R_far (p := ⟨gb329, 2, none⟩) (Kd.R_far (p := ⟨gb329, 1, none⟩) (Kd.R_far (p := ⟨gb329, 0, none⟩) (Kd.R_types HO328.out BK329.out (by decide)) (fun _ hk => hk.2) (.int .i64 t323)) (fun _ hk => hk.2) (.int .i64 t324)) (fun _ hk => hk.2) (.int .i64 t325)) (fun _ hk => hk.2) (.slice Ao35 t326.length co35)) (fun _ h_ => h_.1))) (by decide)) hk (fun _ h => h.2)) (fun _ h => h.1)); have n5_ := am_ (KeepBut.blk hk (g' := gb329) (o := .cells #[.int .i64 t323, .int .i64 t324, .int .i64 t325, .slice Ao35 t326.length co35] 26 (0, 0)) (by (with_reducible repeat (first | refine blk_drewN ?_ _ | refine blk_drew ?_ | refine blk_alloc ?_ _)); refine blk_put (cs := #[.int .i64 t323, .int .i64 t324, .int .i64 t325, .slice none 0 0]) ?_ 3 _ rfl; (with_reducible repeat (first | refine blk_drewN ?_ _ | refine blk_drew ?_ | refine blk_alloc ?_ _)); refine blk_put (cs := #[.int .i64 t323, .int .i64 t324, .int .i64 0, .slice none 0 0]) ?_ 2 _ rfl; (with_reducible repeat (first | refine blk_drewN ?_ _ | refine blk_drew ?_ | refine blk_alloc ?_ _)); refine blk_put (cs := #[.int .i64 t323, .int .i64 0, .int .i64 0, .slice none 0 0]) ?_ 1 _ rfl; (with_reducible repeat (first | refine blk_drewN ?_ _ | refine blk_drew ?_ | refine blk_alloc ?_ _)); refine blk_put (cs := #[.int .i64 0, .int .i64 0, .int .i64 0, .slice none 0 0]) ?_ 0 _ rfl; (with_reducible repeat (first | refine blk_drewN ?_ _ | refine blk_drew ?_ | refine blk_alloc ?_ _)); exact BK329.out) NB329_302.out (by simp)); have n6_ := am_ (hb); have n7_ := am_ (hi); clear HO312; clear BK314; clear HO320; clear BK322; clear HO328; clear BK329; clear HB; clear HI302; have HO312 := n0_; have BK314 := n1_; have HO320 := n2_; have BK322 := n3_; have HO328 := n4_; have BK329 := n5_; have HB := n6_; have HI302 := n7_; clear n0_ n1_ n2_ n3_ n4_ n5_ n6_ n7_) | ((with_reducible refine gate_dst (N := 7) rfl ?_); refine box_event ?hg (N := 7) ?hd (cs := #[.int .i64 0, .int .i64 0, .int .i64 0, .int .i64 0]) (t := 31) ?hr ?_; (case hd => rfl); (case hg => rfl); (case hr => first | (go_simp; done) | (go_simp; rfl)); intro gb335 hg w38 hbox hb; have n0_ := am_ (Kd.R_below q188_ hb); have n1_ := am_ (Kd.R_below q189_ hb); have n2_ := am_ (Kd.R_below q190_ hb); have n3_ := am_ (IsS54.below (by repeat (first | (with_reducible first | exact HI302.out | apply IsS54.alloc | apply IsS54.drewN | apply IsS54.drew | apply IsS54.set_1 | refine IsS54.far ?_ NB302_314.out _ | refine IsS54.far ?_ NB302_322.out _ | refine IsS54.far ?_ NB302_329.out _) | exact HI302.out)) hb); have n4_ := am_ (blk_below (g := gb314) (o := .cells #[.int .i64 t307, .int .i64 t308, .int .i64 t309, .slice Ao21 t310.length co21] 26 (0, 0)) q163_ hb); have n5_ := am_ (blk_below (g := gb322) (o := .cells #[.int .i64 t315, .int .i64 t316, .int .i64 t317, .slice Ao27 t318.length co27] 26 (0, 0)) q164_ hb); have n6_ := am_ (blk_below (g := gb329) (o := .cells #[.int .i64 t323, .int .i64 t324, .int .i64 t325, .slice Ao35 t326.length co35] 26 (0, 0)) q165_ hb); have n7_ := am_ (below_step q47_ hb); have n8_ := am_ (hbox); have n9_ := am_ ((by rw [hg]; exact (below_size q47_) : w.heap.size ≤ gb335)); have n10_ := am_ ((by rw [hg]; exact (below_size q47_) : w.heap.size ≤ gb335)); have n11_ := am_ ((q39_ : gb314 ≠ gb335)); have n12_ := am_ ((q40_ : gb335 ≠ gb314)); have n13_ := am_ ((q41_ : gb322 ≠ gb335)); have n14_ := am_ ((q42_ : gb335 ≠ gb322)); have n15_ := am_ ((q43_ : gb329 ≠ gb335)); have n16_ := am_ ((q44_ : gb335 ≠ gb329)); have n17_ := am_ ((by rw [hg]; exact Nat.ne_of_lt (IsS54.lt (show IsS54 w _ g302 t300 t334 from by repeat (first | (with_reducible first | exact HI302.out | apply IsS54.alloc | apply IsS54.drewN | apply IsS54.drew | apply IsS54.set_1 | refine IsS54.far ?_ NB302_314.out _ | refine IsS54.far ?_ NB302_322.out _ | refine IsS54.far ?_ NB302_329.out _) | exact HI302.out))) : g302 ≠ gb335)); have n18_ := am_ ((by rw [hg]; exact Nat.ne_of_gt (IsS54.lt (show IsS54 w _ g302 t300 t334 from by repeat (first | (with_reducible first | exact HI302.out | apply IsS54.alloc | apply IsS54.drewN | apply IsS54.drew | apply IsS54.set_1 | refine IsS54.far ?_ NB302_314.out _ | refine IsS54.far ?_ NB302_322.out _ | refine IsS54.far ?_ NB302_329.out _) | exact HI302.out))) : gb335 ≠ g302)); clear HO312; clear HO320; clear HO328; clear HI302; clear BK314; clear BK322; clear BK329; clear HB; have HO312 := n0_; have HO320 := n1_; have HO328 := n2_; have HI302 := n3_; have BK314 := n4_; have BK322 := n5_; have BK329 := n6_; have HB := n7_; have BK335 := n8_; have GW335 := n9_; have GE335 := n10_; have NB314_335 := n11_; have NB335_314 := n12_; have NB322_335 := n13_; have NB335_322 := n14_; have NB329_335 := n15_; have NB335_329 := n16_; have NB302_335 := n17_; have NB335_302 := n18_; clear n0_ n1_ n2_ n3_ n4_ n5_ n6_ n7_ n8_ n9_ n10_ n11_ n12_ n13_ n14_ n15_ n16_ n17_ n18_; clear hb hbox hg; have hnb39 := NB335_314.out; have hnc39 := NB314_335.out; have hnb40 := NB335_322.out; have hnc40 := NB322_335.out; have hnb41 := NB335_329.out; have hnc41 := NB329_335.out; have hnb42 := NB335_302.out; have hnc42 := NB302_335.out; have hcz43_0 : w38.cell? ⟨gb335, 0, none⟩ = some (.int .i64 0) := (blk_cell BK335.out 0).trans rfl; have hcz43_1 : w38.cell? ⟨gb335, 1, none⟩ = some (.int .i64 0) := (blk_cell BK335.out 1).trans rfl; have hcz43_2 : w38.cell? ⟨gb335, 2, none⟩ = some (.int .i64 0) := (blk_cell BK335.out 2).trans rfl; have hcz43_3 : w38.cell? ⟨gb335, 3, none⟩ = some (.int .i64 0) := (blk_cell BK335.out 3).trans rfl; have hfz43_0 := blk_frozen BK335.out 0; have hfz43_1 := blk_frozen BK335.out 1; have hfz43_2 := blk_frozen BK335.out 2; have hfz43_3 := blk_frozen BK335.out 3; have hcz44_0 : w38.cell? ⟨gb314, 0, none⟩ = some (.int .i64 t307) := (blk_cell BK314.out 0).trans rfl; have hcz44_1 : w38.cell? ⟨gb314, 1, none⟩ = some (.int .i64 t308) := (blk_cell BK314.out 1).trans rfl; have hcz44_2 : w38.cell? ⟨gb314, 2, none⟩ = some (.int .i64 t309) := (blk_cell BK314.out 2).trans rfl; have hcz44_3 : w38.cell? ⟨gb314, 3, none⟩ = some (.slice Ao21 t310.length co21) := (blk_cell BK314.out 3).trans rfl; have hfz44_0 := blk_frozen BK314.out 0; have hfz44_1 := blk_frozen BK314.out 1; have hfz44_2 := blk_frozen BK314.out 2; have hfz44_3 := blk_frozen BK314.out 3) | ((with_reducible refine gate_callee (f := 13) rfl ?_); refine goesL_ (some 42) rfl rfl Try.func13 (by kernel_rfl) rfl #[.agg #[.int .i64 t307, .int .i64 t308, .int .i64 t309, .slice Ao21 t310.length co21], .agg #[.int .i64 t330, .int .i64 t331, .int .i64 t332, .int .i64 t333]] rfl q130_ ?_; (with_reducible refine (plane_Crop.calls k t307 t308 t309 _ _ t310 t330 t331 t332 t333 t336 t337 t338 t339 t342 _ ?side1 ?side2 A9.out).mono ?_); (case side1 => refine (Kd.R_reads' (e := 3) (base := w.heap.size) (ok := fun k_ => ((True ∧ some k_ ≠ (.slice Ao27 t318.length co27 : Value).ownBlock) ∧ some k_ ≠ (.slice Ao35 t326.length co35 : Value).ownBlock)) (n := t310.length) (c := co21) ?_).2.2; exact q15_); (case side2 => exact (Kd.R_reads' HO312.out).2.1); rintro e w45 ⟨v340, rfl, ho0, hb⟩; refine ⟨_, rfl, ?_⟩; have n0_ := am_ (Kd.R_elder' q15_ (Kd.R_base ho0) hb); have n1_ := am_ (Kd.R_elder' (by (with_reducible repeat (first | apply Kd.R_alloc | apply Kd.R_drewN | apply Kd.R_drew)); exact (Kd.R_mono (Kd.R_far (p := ⟨gb335, 3, none⟩) (Kd.R_far (p := ⟨gb335, 2, none⟩) (Kd.R_far (p := ⟨gb335, 1, none⟩) (Kd.R_far (p := ⟨gb335, 0, none⟩) (Kd.R_types HO320.out BK335.out (by decide)) (fun _ hk => hk.2) (.int .i64 t330)) (fun _ hk => hk.2) (.int .i64 t331)) (fun _ hk => hk.2) (.int .i64 t332)) (fun _ hk => hk.2) (.int .i64 t333)) (fun _ h_ => h_.1))) (Kd.R_base ho0) hb); have n2_ := am_ (Kd.R_elder' (by (with_reducible repeat (first | apply Kd.R_alloc | apply Kd.R_drewN | apply Kd.R_drew)); exact (Kd.R_mono (Kd.R_far (p := ⟨gb335, 3, none⟩) (Kd.R_far (p := ⟨gb335, 2, none⟩) (Kd.R_far (p := ⟨gb335, 1, none⟩) (Kd.R_far (p := ⟨gb335, 0, none⟩) (Kd.R_types HO328.out BK335.out (by decide)) (fun _ hk => hk.2) (.int .i64 t330)) (fun _ hk => hk.2) (.int .i64 t331)) (fun _ hk => hk.2) (.int .i64 t332)) (fun _ hk => hk.2) (.int .i64 t333)) (fun _ h_ => h_.1))) (Kd.R_base ho0) hb); have n3_ := am_ (Kd.R_lower (Kd.R_new' (Kd.R_new' (Kd.R_new' ho0 (Kd.R_lt q15_)) (Kd.R_lt (by (with_reducible repeat (first | apply Kd.R_alloc | apply Kd.R_drewN | apply Kd.R_drew)); exact (Kd.R_mono (Kd.R_far (p := ⟨gb335, 3, none⟩) (Kd.R_far (p := ⟨gb335, 2, none⟩) (Kd.R_far (p := ⟨gb335, 1, none⟩) (Kd.R_far (p := ⟨gb335, 0, none⟩) (Kd.R_types HO320.out BK335.out (by decide)) (fun _ hk => hk.2) (.int .i64 t330)) (fun _ hk => hk.2) (.int .i64 t331)) (fun _ hk => hk.2) (.int .i64 t332)) (fun _ hk => hk.2) (.int .i64 t333)) (fun _ h_ => h_.1))))) (Kd.R_lt (by (with_reducible repeat (first | apply Kd.R_alloc | apply Kd.R_drewN | apply Kd.R_drew)); exact (Kd.R_mono (Kd.R_far (p := ⟨gb335, 3, none⟩) (Kd.R_far (p := ⟨gb335, 2, none⟩) (Kd.R_far (p := ⟨gb335, 1, none⟩) (Kd.R_far (p := ⟨gb335, 0, none⟩) (Kd.R_types HO328.out BK335.out (by decide)) (fun _ hk => hk.2) (.int .i64 t330)) (fun _ hk => hk.2) (.int .i64 t331)) (fun _ hk => hk.2) (.int .i64 t332)) (fun _ hk => hk.2) (.int .i64 t333)) (fun _ h_ => h_.1))))) (below_size q26_)); have n4_ := am_ (IsS54.below (show IsS54 w ((((w38.setCell ⟨gb335, 0, none⟩ (.int .i64 t330)).setCell ⟨gb335, 1, none⟩ (.int .i64 t331)).setCell ⟨gb335, 2, none⟩ (.int .i64 t332)).setCell ⟨gb335, 3, none⟩ (.int .i64 t333)) g302 t300 t334 from by repeat (first | (with_reducible first | exact HI302.out | apply IsS54.alloc | apply IsS54.drewN | apply IsS54.drew | apply IsS54.set_1 | refine IsS54.far ?_ NB302_314.out _ | refine IsS54.far ?_ NB302_322.out _ | refine IsS54.far ?_ NB302_329.out _ | refine IsS54.far ?_ NB302_335.out _) | exact HI302.out)) hb); have n5_ := am_ (blk_below (g := gb314) (o := .cells #[.int .i64 t307, .int .i64 t308, .int .i64 t309, .slice Ao21 t310.length co21] 26 (0, 0)) (by (with_reducible repeat (first | refine blk_drewN ?_ _ | refine blk_drew ?_ | refine blk_alloc ?_ _)); refine blk_far ?_ NB314_335.out _; (with_reducible repeat (first | refine blk_drewN ?_ _ | refine blk_drew ?_ | refine blk_alloc ?_ _)); refine blk_far ?_ NB314_335.out _; (with_reducible repeat (first | refine blk_drewN ?_ _ | refine blk_drew ?_ | refine blk_alloc ?_ _)); refine blk_far ?_ NB314_335.out _; (with_reducible repeat (first | refine blk_drewN ?_ _ | refine blk_drew ?_ | refine blk_alloc ?_ _)); refine blk_far ?_ NB314_335.out _; (with_reducible repeat (first | refine blk_drewN ?_ _ | refine blk_drew ?_ | refine blk_alloc ?_ _)); exact BK314.out) hb); have n6_ := am_ (blk_below (g := gb322) (o := .cells #[.int .i64 t315, .int .i64 t316, .int .i64 t317, .slice Ao27 t318.length co27] 26 (0, 0)) (by (with_reducible repeat (first | refine blk_drewN ?_ _ | refine blk_drew ?_ | refine blk_alloc ?_ _)); refine blk_far ?_ NB322_335.out _; (with_reducible repeat (first | refine blk_drewN ?_ _ | refine blk_drew ?_ | refine blk_alloc ?_ _)); refine blk_far ?_ NB322_335.out _; (with_reducible repeat (first | refine blk_drewN ?_ _ | refine blk_drew ?_ | refine blk_alloc ?_ _)); refine blk_far ?_ NB322_335.out _; (with_reducible repeat (first | refine blk_drewN ?_ _ | refine blk_drew ?_ | refine blk_alloc ?_ _)); refine blk_far ?_ NB322_335.out _; (with_reducible repeat (first | refine blk_drewN ?_ _ | refine blk_drew ?_ | refine blk_alloc ?_ _)); exact BK322.out) hb); have n7_ := am_ (blk_below (g := gb329) (o := .cells #[.int .i64 t323, .int .i64 t324, .int .i64 t325, .slice Ao35 t326.length co35] 26 (0, 0)) (by (with_reducible repeat (first | refine blk_drewN ?_ _ | refine blk_drew ?_ | refine blk_alloc ?_ _)); refine blk_far ?_ NB329_335.out _; (with_reducible repeat (first | refine blk_drewN ?_ _ | refine blk_drew ?_ | refine blk_alloc ?_ _)); refine blk_far ?_ NB329_335.out _; (with_reducible repeat (first | refine blk_drewN ?_ _ | refine blk_drew ?_ | refine blk_alloc ?_ _)); refine blk_far ?_ NB329_335.out _; (with_reducible repeat (first | refine blk_drewN ?_ _ | refine blk_drew ?_ | refine blk_alloc ?_ _)); refine blk_far ?_ NB329_335.out _; (with_reducible repeat (first | refine blk_drewN ?_ _ | refine blk_drew ?_ | refine blk_alloc ?_ _)); exact BK329.out) hb); have n8_ := am_ (blk_below (g := gb335) (o := .cells #[.int .i64 t330, .int .i64 t331, .int .i64 t332, .int .i64 t333] 31 (0, 0)) (by (with_reducible repeat (first | refine blk_drewN ?_ _ | refine blk_drew ?_ | refine blk_alloc ?_ _)); refine blk_put (cs := #[.int .i64 t330, .int .i64 t331, .int .i64 t332, .int .i64 0]) ?_ 3 _ rfl; (with_reducible repeat (first | refine blk_drewN ?_ _ | refine blk_drew ?_ | refine blk_alloc ?_ _)); refine blk_put (cs := #[.int .i64 t330, .int .i64 t331, .int .i64 0, .int .i64 0]) ?_ 2 _ rfl; (with_reducible repeat (first | refine blk_drewN ?_ _ | refine blk_drew ?_ | refine blk_alloc ?_ _)); refine blk_put (cs := #[.int .i64 t330, .int .i64 0, .int .i64 0, .int .i64 0]) ?_ 1 _ rfl; (with_reducible repeat (first | refine blk_drewN ?_ _ | refine blk_drew ?_ | refine blk_alloc ?_ _)); refine blk_put (cs := #[.int .i64 0, .int .i64 0, .int .i64 0, .int .i64 0]) ?_ 0 _ rfl; (with_reducible repeat (first | refine blk_drewN ?_ _ | refine blk_drew ?_ | refine blk_alloc ?_ _)); exact BK335.out) hb); have n9_ := am_ (below_step q26_ hb); clear HO312; clear HO320; clear HO328; clear HI302; clear BK314; clear BK322; clear BK329; clear BK335; clear HB; have HO312 := n0_; have HO320 := n1_; have HO328 := n2_; have HO341 := n3_; have HI302 := n4_; have BK314 := n5_; have BK322 := n6_; have BK329 := n7_; have BK335 := n8_; have HB := n9_; clear n0_ n1_ n2_ n3_ n4_ n5_ n6_ n7_ n8_ n9_; (try clear ho0)) | ((with_reducible refine gate_dst (N := 8) rfl ?_); refine box_event ?hg (N := 8) ?hd (cs := #[.int .i64 0, .int .i64 0, .int .i64 0, .slice none 0 0]) (t := 26) ?hr ?_; (case hd => rfl); (case hg => rfl); (case hr => first | (go_simp; done) | (go_simp; rfl)); intro gb343 hg w46 hbox hb; have n0_ := am_ (Kd.R_below q188_ hb); have n1_ := am_ (Kd.R_below q189_ hb); have n2_ := am_ (Kd.R_below q190_ hb); have n3_ := am_ (Kd.R_below q191_ hb); have n4_ := am_ (IsS54.below (by repeat (first | (with_reducible first | exact HI302.out | apply IsS54.alloc | apply IsS54.drewN | apply IsS54.drew | apply IsS54.set_1 | refine IsS54.far ?_ NB302_314.out _ | refine IsS54.far ?_ NB302_322.out _ | refine IsS54.far ?_ NB302_329.out _ | refine IsS54.far ?_ NB302_335.out _) | exact HI302.out)) hb); have n5_ := am_ (blk_below (g := gb314) (o := .cells #[.int .i64 t307, .int .i64 t308, .int .i64 t309, .slice Ao21 t310.length co21] 26 (0, 0)) q163_ hb); have n6_ := am_ (blk_below (g := gb322) (o := .cells #[.int .i64 t315, .int .i64 t316, .int .i64 t317, .slice Ao27 t318.length co27] 26 (0, 0)) q164_ hb); have n7_ := am_ (blk_below (g := gb329) (o := .cells #[.int .i64 t323, .int .i64 t324, .int .i64 t325, .slice Ao35 t326.length co35] 26 (0, 0)) q165_ hb); have n8_ := am_ (blk_below (g := gb335) (o := .cells #[.int .i64 t330, .int .i64 t331, .int .i64 t332, .int .i64 t333] 31 (0, 0)) q166_ hb); have n9_ := am_ (below_step q26_ hb); have n10_ := am_ (hbox); have n11_ := am_ ((by rw [hg]; exact (below_size q26_) : w.heap.size ≤ gb343)); have n12_ := am_ ((by rw [hg]; exact (below_size q26_) : w.heap.size ≤ gb343)); have n13_ := am_ ((q39_ : gb314 ≠ gb343)); have n14_ := am_ ((q40_ : gb343 ≠ gb314)); have n15_ := am_ ((q41_ : gb322 ≠ gb343)); have n16_ := am_ ((q42_ : gb343 ≠ gb322)); have n17_ := am_ ((q43_ : gb329 ≠ gb343)); have n18_ := am_ ((q44_ : gb343 ≠ gb329)); have n19_ := am_ ((q56_ : gb335 ≠ gb343)); have n20_ := am_ ((q57_ : gb343 ≠ gb335)); have n21_ := am_ ((by rw [hg]; exact Nat.ne_of_lt (IsS54.lt (show IsS54 w _ g302 t300 t334 from by repeat (first | (with_reducible first | exact HI302.out | apply IsS54.alloc | apply IsS54.drewN | apply IsS54.drew | apply IsS54.set_1 | refine IsS54.far ?_ NB302_314.out _ | refine IsS54.far ?_ NB302_322.out _ | refine IsS54.far ?_ NB302_329.out _ | refine IsS54.far ?_ NB302_335.out _) | exact HI302.out))) : g302 ≠ gb343)); have n22_ := am_ ((by rw [hg]; exact Nat.ne_of_gt (IsS54.lt (show IsS54 w _ g302 t300 t334 from by repeat (first | (with_reducible first | exact HI302.out | apply IsS54.alloc | apply IsS54.drewN | apply IsS54.drew | apply IsS54.set_1 | refine IsS54.far ?_ NB302_314.out _ | refine IsS54.far ?_ NB302_322.out _ | refine IsS54.far ?_ NB302_329.out _ | refine IsS54.far ?_ NB302_335.out _) | exact HI302.out))) : gb343 ≠ g302)); clear HO312; clear HO320; clear HO328; clear HO341; clear HI302; clear BK314; clear BK322; clear BK329; clear BK335; clear HB; have HO312 := n0_; have HO320 := n1_; have HO328 := n2_; have HO341 := n3_; have HI302 := n4_; have BK314 := n5_; have BK322 := n6_; have BK329 := n7_; have BK335 := n8_; have HB := n9_; have BK343 := n10_; have GW343 := n11_; have GE343 := n12_; have NB314_343 := n13_; have NB343_314 := n14_; have NB322_343 := n15_; have NB343_322 := n16_; have NB329_343 := n17_; have NB343_329 := n18_; have NB335_343 := n19_; have NB343_335 := n20_; have NB302_343 := n21_; have NB343_302 := n22_; clear n0_ n1_ n2_ n3_ n4_ n5_ n6_ n7_ n8_ n9_ n10_ n11_ n12_ n13_ n14_ n15_ n16_ n17_ n18_ n19_ n20_ n21_ n22_; clear hb hbox hg; have hnb47 := NB343_314.out; have hnc47 := NB314_343.out; have hnb48 := NB343_322.out; have hnc48 := NB322_343.out; have hnb49 := NB343_329.out; have hnc49 := NB329_343.out; have hnb50 := NB343_335.out; have hnc50 := NB335_343.out; have hnb51 := NB343_302.out; have hnc51 := NB302_343.out; have hcz52_0 : w46.cell? ⟨gb343, 0, none⟩ = some (.int .i64 0) := (blk_cell BK343.out 0).trans rfl; have hcz52_1 : w46.cell? ⟨gb343, 1, none⟩ = some (.int .i64 0) := (blk_cell BK343.out 1).trans rfl; have hcz52_2 : w46.cell? ⟨gb343, 2, none⟩ = some (.int .i64 0) := (blk_cell BK343.out 2).trans rfl; have hcz52_3 : w46.cell? ⟨gb343, 3, none⟩ = some (.slice none 0 0) := (blk_cell BK343.out 3).trans rfl; have hfz52_0 := blk_frozen BK343.out 0; have hfz52_1 := blk_frozen BK343.out 1; have hfz52_2 := blk_frozen BK343.out 2; have hfz52_3 := blk_frozen BK343.out 3; obtain ⟨Ao53, co53, eo53⟩ := Kd.R_slice HO341.out; subst eo53))
 have n0_ : Aside0 (Kd.R (Kd.int .i64) 3 ((((w46.setCell ⟨gb343, 0, none⟩ (.int .i64 t336)).setCell ⟨gb343, 1, none⟩ (.int .i64 t337)).setCell ⟨gb343, 2, none⟩ (.int .i64 t338)).setCell ⟨gb343, 3, none⟩ (.slice Ao53 t339.length co53)) w.heap.size (fun k_ => some k_ ≠ (.slice Ao27 t318.length co27 : Value).ownBlock ∧ some k_ ≠ (.slice Ao35 t326.length co35 : Value).ownBlock ∧ some k_ ≠ (.slice Ao53 t339.length co53 : Value).ownBlock) (.slice Ao21 t310.length co21) t310) := ⟨by (with_reducible repeat (first | apply Kd.R_alloc | apply Kd.R_drewN | apply Kd.R_drew)); exact Kd.R_mono (Kd.R_far (p := ⟨gb343, 3, none⟩) (Kd.R_far (p := ⟨gb343, 2, none⟩) (Kd.R_far (p := ⟨gb343, 1, none⟩) (Kd.R_far (p := ⟨gb343, 0, none⟩) (Kd.R_types HO312.out BK343.out (by decide)) (fun _ hk => hk.2) (.int .i64 t336)) (fun _ hk => hk.2) (.int .i64 t337)) (fun _ hk => hk.2) (.int .i64 t338)) (fun _ hk => hk.2) (.slice Ao53 t339.length co53)) (fun _ hk => ⟨hk.1.1.1.2, ⟨hk.1.1.2, hk.1.2⟩⟩)⟩
 have n1_ : Aside0 (Kd.R (Kd.int .i64) 3 ((((w46.setCell ⟨gb343, 0, none⟩ (.int .i64 t336)).setCell ⟨gb343, 1, none⟩ (.int .i64 t337)).setCell ⟨gb343, 2, none⟩ (.int .i64 t338)).setCell ⟨gb343, 3, none⟩ (.slice Ao53 t339.length co53)) w.heap.size (fun k_ => some k_ ≠ (.slice Ao21 t310.length co21 : Value).ownBlock ∧ some k_ ≠ (.slice Ao35 t326.length co35 : Value).ownBlock ∧ some k_ ≠ (.slice Ao53 t339.length co53 : Value).ownBlock) (.slice Ao27 t318.length co27) t318) := ⟨by (with_reducible repeat (first | apply Kd.R_alloc | apply Kd.R_drewN | apply Kd.R_drew)); exact Kd.R_mono (Kd.R_far (p := ⟨gb343, 3, none⟩) (Kd.R_far (p := ⟨gb343, 2, none⟩) (Kd.R_far (p := ⟨gb343, 1, none⟩) (Kd.R_far (p := ⟨gb343, 0, none⟩) (Kd.R_types HO320.out BK343.out (by decide)) (fun _ hk => hk.2) (.int .i64 t336)) (fun _ hk => hk.2) (.int .i64 t337)) (fun _ hk => hk.2) (.int .i64 t338)) (fun _ hk => hk.2) (.slice Ao53 t339.length co53)) (fun _ hk => ⟨hk.1.1.1.2, ⟨hk.1.1.2, hk.1.2⟩⟩)⟩
 have n2_ : Aside0 (Kd.R (Kd.int .i64) 3 ((((w46.setCell ⟨gb343, 0, none⟩ (.int .i64 t336)).setCell ⟨gb343, 1, none⟩ (.int .i64 t337)).setCell ⟨gb343, 2, none⟩ (.int .i64 t338)).setCell ⟨gb343, 3, none⟩ (.slice Ao53 t339.length co53)) w.heap.size (fun k_ => some k_ ≠ (.slice Ao21 t310.length co21 : Value).ownBlock ∧ some k_ ≠ (.slice Ao27 t318.length co27 : Value).ownBlock ∧ some k_ ≠ (.slice Ao53 t339.length co53 : Value).ownBlock) (.slice Ao35 t326.length co35) t326) := ⟨by (with_reducible repeat (first | apply Kd.R_alloc | apply Kd.R_drewN | apply Kd.R_drew)); exact Kd.R_mono (Kd.R_far (p := ⟨gb343, 3, none⟩) (Kd.R_far (p := ⟨gb343, 2, none⟩) (Kd.R_far (p := ⟨gb343, 1, none⟩) (Kd.R_far (p := ⟨gb343, 0, none⟩) (Kd.R_types HO328.out BK343.out (by decide)) (fun _ hk => hk.2) (.int .i64 t336)) (fun _ hk => hk.2) (.int .i64 t337)) (fun _ hk => hk.2) (.int .i64 t338)) (fun _ hk => hk.2) (.slice Ao53 t339.length co53)) (fun _ hk => ⟨hk.1.1.1.2, ⟨hk.1.1.2, hk.1.2⟩⟩)⟩
 have n3_ : Aside0 (Kd.R (Kd.int .i64) 3 ((((w46.setCell ⟨gb343, 0, none⟩ (.int .i64 t336)).setCell ⟨gb343, 1, none⟩ (.int .i64 t337)).setCell ⟨gb343, 2, none⟩ (.int .i64 t338)).setCell ⟨gb343, 3, none⟩ (.slice Ao53 t339.length co53)) w.heap.size (fun k_ => some k_ ≠ (.slice Ao21 t310.length co21 : Value).ownBlock ∧ some k_ ≠ (.slice Ao27 t318.length co27 : Value).ownBlock ∧ some k_ ≠ (.slice Ao35 t326.length co35 : Value).ownBlock) (.slice Ao53 t339.length co53) t339) := ⟨by (with_reducible repeat (first | apply Kd.R_alloc | apply Kd.R_drewN | apply Kd.R_drew)); exact Kd.R_mono (Kd.R_far (p := ⟨gb343, 3, none⟩) (Kd.R_far (p := ⟨gb343, 2, none⟩) (Kd.R_far (p := ⟨gb343, 1, none⟩) (Kd.R_far (p := ⟨gb343, 0, none⟩) (Kd.R_types HO341.out BK343.out (by decide)) (fun _ hk => hk.2) (.int .i64 t336)) (fun _ hk => hk.2) (.int .i64 t337)) (fun _ hk => hk.2) (.int .i64 t338)) (fun _ hk => hk.2) (.slice Ao53 t339.length co53)) (fun _ hk => ⟨hk.1.1.1.2, ⟨hk.1.1.2, hk.1.2⟩⟩)⟩
 have n4_ : Aside0 (((((w46.setCell ⟨gb343, 0, none⟩ (.int .i64 t336)).setCell ⟨gb343, 1, none⟩ (.int .i64 t337)).setCell ⟨gb343, 2, none⟩ (.int .i64 t338)).setCell ⟨gb343, 3, none⟩ (.slice Ao53 t339.length co53)).heap[gb314]? = some (.cells #[.int .i64 t307, .int .i64 t308, .int .i64 t309, .slice Ao21 t310.length co21] 26 (0, 0))) := ⟨by (with_reducible repeat (first | refine blk_drewN ?_ _ | refine blk_drew ?_ | refine blk_alloc ?_ _)); refine blk_far ?_ NB314_343.out _; (with_reducible repeat (first | refine blk_drewN ?_ _ | refine blk_drew ?_ | refine blk_alloc ?_ _)); refine blk_far ?_ NB314_343.out _; (with_reducible repeat (first | refine blk_drewN ?_ _ | refine blk_drew ?_ | refine blk_alloc ?_ _)); refine blk_far ?_ NB314_343.out _; (with_reducible repeat (first | refine blk_drewN ?_ _ | refine blk_drew ?_ | refine blk_alloc ?_ _)); refine blk_far ?_ NB314_343.out _; (with_reducible repeat (first | refine blk_drewN ?_ _ | refine blk_drew ?_ | refine blk_alloc ?_ _)); exact BK314.out⟩
 have n5_ : Aside0 (((((w46.setCell ⟨gb343, 0, none⟩ (.int .i64 t336)).setCell ⟨gb343, 1, none⟩ (.int .i64 t337)).setCell ⟨gb343, 2, none⟩ (.int .i64 t338)).setCell ⟨gb343, 3, none⟩ (.slice Ao53 t339.length co53)).heap[gb322]? = some (.cells #[.int .i64 t315, .int .i64 t316, .int .i64 t317, .slice Ao27 t318.length co27] 26 (0, 0))) := ⟨by (with_reducible repeat (first | refine blk_drewN ?_ _ | refine blk_drew ?_ | refine blk_alloc ?_ _)); refine blk_far ?_ NB322_343.out _; (with_reducible repeat (first | refine blk_drewN ?_ _ | refine blk_drew ?_ | refine blk_alloc ?_ _)); refine blk_far ?_ NB322_343.out _; (with_reducible repeat (first | refine blk_drewN ?_ _ | refine blk_drew ?_ | refine blk_alloc ?_ _)); refine blk_far ?_ NB322_343.out _; (with_reducible repeat (first | refine blk_drewN ?_ _ | refine blk_drew ?_ | refine blk_alloc ?_ _)); refine blk_far ?_ NB322_343.out _; (with_reducible repeat (first | refine blk_drewN ?_ _ | refine blk_drew ?_ | refine blk_alloc ?_ _)); exact BK322.out⟩
 have n6_ : Aside0 (((((w46.setCell ⟨gb343, 0, none⟩ (.int .i64 t336)).setCell ⟨gb343, 1, none⟩ (.int .i64 t337)).setCell ⟨gb343, 2, none⟩ (.int .i64 t338)).setCell ⟨gb343, 3, none⟩ (.slice Ao53 t339.length co53)).heap[gb329]? = some (.cells #[.int .i64 t323, .int .i64 t324, .int .i64 t325, .slice Ao35 t326.length co35] 26 (0, 0))) := ⟨by (with_reducible repeat (first | refine blk_drewN ?_ _ | refine blk_drew ?_ | refine blk_alloc ?_ _)); refine blk_far ?_ NB329_343.out _; (with_reducible repeat (first | refine blk_drewN ?_ _ | refine blk_drew ?_ | refine blk_alloc ?_ _)); refine blk_far ?_ NB329_343.out _; (with_reducible repeat (first | refine blk_drewN ?_ _ | refine blk_drew ?_ | refine blk_alloc ?_ _)); refine blk_far ?_ NB329_343.out _; (with_reducible repeat (first | refine blk_drewN ?_ _ | refine blk_drew ?_ | refine blk_alloc ?_ _)); refine blk_far ?_ NB329_343.out _; (with_reducible repeat (first | refine blk_drewN ?_ _ | refine blk_drew ?_ | refine blk_alloc ?_ _)); exact BK329.out⟩
 have n7_ : Aside0 (((((w46.setCell ⟨gb343, 0, none⟩ (.int .i64 t336)).setCell ⟨gb343, 1, none⟩ (.int .i64 t337)).setCell ⟨gb343, 2, none⟩ (.int .i64 t338)).setCell ⟨gb343, 3, none⟩ (.slice Ao53 t339.length co53)).heap[gb335]? = some (.cells #[.int .i64 t330, .int .i64 t331, .int .i64 t332, .int .i64 t333] 31 (0, 0))) := ⟨by (with_reducible repeat (first | refine blk_drewN ?_ _ | refine blk_drew ?_ | refine blk_alloc ?_ _)); refine blk_far ?_ NB335_343.out _; (with_reducible repeat (first | refine blk_drewN ?_ _ | refine blk_drew ?_ | refine blk_alloc ?_ _)); refine blk_far ?_ NB335_343.out _; (with_reducible repeat (first | refine blk_drewN ?_ _ | refine blk_drew ?_ | refine blk_alloc ?_ _)); refine blk_far ?_ NB335_343.out _; (with_reducible repeat (first | refine blk_drewN ?_ _ | refine blk_drew ?_ | refine blk_alloc ?_ _)); refine blk_far ?_ NB335_343.out _; (with_reducible repeat (first | refine blk_drewN ?_ _ | refine blk_drew ?_ | refine blk_alloc ?_ _)); exact BK335.out⟩
 have n8_ : Aside0 (((((w46.setCell ⟨gb343, 0, none⟩ (.int .i64 t336)).setCell ⟨gb343, 1, none⟩ (.int .i64 t337)).setCell ⟨gb343, 2, none⟩ (.int .i64 t338)).setCell ⟨gb343, 3, none⟩ (.slice Ao53 t339.length co53)).heap[gb343]? = some (.cells #[.int .i64 t336, .int .i64 t337, .int .i64 t338, .slice Ao53 t339.length co53] 26 (0, 0))) := ⟨by (with_reducible repeat (first | refine blk_drewN ?_ _ | refine blk_drew ?_ | refine blk_alloc ?_ _)); refine blk_put (cs := #[.int .i64 t336, .int .i64 t337, .int .i64 t338, .slice none 0 0]) ?_ 3 _ rfl; (with_reducible repeat (first | refine blk_drewN ?_ _ | refine blk_drew ?_ | refine blk_alloc ?_ _)); refine blk_put (cs := #[.int .i64 t336, .int .i64 t337, .int .i64 0, .slice none 0 0]) ?_ 2 _ rfl; (with_reducible repeat (first | refine blk_drewN ?_ _ | refine blk_drew ?_ | refine blk_alloc ?_ _)); refine blk_put (cs := #[.int .i64 t336, .int .i64 0, .int .i64 0, .slice none 0 0]) ?_ 1 _ rfl; (with_reducible repeat (first | refine blk_drewN ?_ _ | refine blk_drew ?_ | refine blk_alloc ?_ _)); refine blk_put (cs := #[.int .i64 0, .int .i64 0, .int .i64 0, .slice none 0 0]) ?_ 0 _ rfl; (with_reducible repeat (first | refine blk_drewN ?_ _ | refine blk_drew ?_ | refine blk_alloc ?_ _)); exact BK343.out⟩
 have n9_ : Aside0 (IsS54 w ((((w46.setCell ⟨gb343, 0, none⟩ (.int .i64 t336)).setCell ⟨gb343, 1, none⟩ (.int .i64 t337)).setCell ⟨gb343, 2, none⟩ (.int .i64 t338)).setCell ⟨gb343, 3, none⟩ (.slice Ao53 t339.length co53)) g302 t300 t334) := ⟨q24_⟩
 have n10_ : Aside0 (Below w.heap.size w ((((w46.setCell ⟨gb343, 0, none⟩ (.int .i64 t336)).setCell ⟨gb343, 1, none⟩ (.int .i64 t337)).setCell ⟨gb343, 2, none⟩ (.int .i64 t338)).setCell ⟨gb343, 3, none⟩ (.slice Ao53 t339.length co53))) := ⟨q25_⟩
 (try clear HO312)
 (try clear HO320)
 (try clear HO328)
 (try clear HO341)
 (try clear BK314)
 (try clear BK322)
 (try clear BK329)
 (try clear BK335)
 (try clear BK343)
 (try clear HI302)
 (try clear HB)
 generalize ((((w46.setCell ⟨gb343, 0, none⟩ (.int .i64 t336)).setCell ⟨gb343, 1, none⟩ (.int .i64 t337)).setCell ⟨gb343, 2, none⟩ (.int .i64 t338)).setCell ⟨gb343, 3, none⟩ (.slice Ao53 t339.length co53)) = w54 at n0_ n1_ n2_ n3_ n4_ n5_ n6_ n7_ n8_ n9_ n10_ ⊢
 have HO312 := n0_
 have HO320 := n1_
 have HO328 := n2_
 have HO341 := n3_
 have BK314 := n4_
 have BK322 := n5_
 have BK329 := n6_
 have BK335 := n7_
 have BK343 := n8_
 have HI302 := n9_
 have HB := n10_
 clear n0_ n1_ n2_ n3_ n4_ n5_ n6_ n7_ n8_ n9_ n10_
 have n0_ := am_ (Kd.R_drew HO312.out)
 have n1_ := am_ (Kd.R_drew HO320.out)
 have n2_ := am_ (Kd.R_drew HO328.out)
 have n3_ := am_ (Kd.R_drew HO341.out)
 have n4_ := am_ (blk_drew BK314.out)
 have n5_ := am_ (blk_drew BK322.out)
 have n6_ := am_ (blk_drew BK329.out)
 have n7_ := am_ (blk_drew BK335.out)
 have n8_ := am_ (blk_drew BK343.out)
 have n9_ := am_ (IsS54.drew HI302.out)
 have n10_ := am_ (below_drew1 HB.out)
 clear HO312
 clear HO320
 clear HO328
 clear HO341
 clear BK314
 clear BK322
 clear BK329
 clear BK335
 clear BK343
 clear HI302
 clear HB
 have HO312 := n0_
 have HO320 := n1_
 have HO328 := n2_
 have HO341 := n3_
 have BK314 := n4_
 have BK322 := n5_
 have BK329 := n6_
 have BK335 := n7_
 have BK343 := n8_
 have HI302 := n9_
 have HB := n10_
 clear n0_ n1_ n2_ n3_ n4_ n5_ n6_ n7_ n8_ n9_ n10_
 refine start_ (n := 14) (S := fun w' => w'.cell? ⟨gb314, 0, none⟩ = some (.int .i64 t307) ∧ w'.cell? ⟨gb314, 1, none⟩ = some (.int .i64 t308) ∧ w'.cell? ⟨gb314, 2, none⟩ = some (.int .i64 t309) ∧ w'.cell? ⟨gb314, 3, none⟩ = some (.slice Ao21 t310.length co21) ∧ w'.cell? ⟨gb343, 0, none⟩ = some (.int .i64 t336) ∧ w'.cell? ⟨gb343, 1, none⟩ = some (.int .i64 t337) ∧ w'.cell? ⟨gb343, 2, none⟩ = some (.int .i64 t338) ∧ w'.cell? ⟨gb343, 3, none⟩ = some (.slice Ao53 t339.length co53) ∧ w'.cell? ⟨gb335, 0, none⟩ = some (.int .i64 t330) ∧ w'.cell? ⟨gb335, 1, none⟩ = some (.int .i64 t331) ∧ w'.cell? ⟨gb335, 2, none⟩ = some (.int .i64 t332) ∧ w'.cell? ⟨gb335, 3, none⟩ = some (.int .i64 t333)) (ds := []) #[false, false, false, false, false, false, false, false, false, false, false, false, false, false] (by kernel_rfl) rfl rfl ⟨(blk_cell BK314.out 0).trans rfl, (blk_cell BK314.out 1).trans rfl, (blk_cell BK314.out 2).trans rfl, (blk_cell BK314.out 3).trans rfl, (blk_cell BK343.out 0).trans rfl, (blk_cell BK343.out 1).trans rfl, (blk_cell BK343.out 2).trans rfl, (blk_cell BK343.out 3).trans rfl, (blk_cell BK335.out 0).trans rfl, (blk_cell BK335.out 1).trans rfl, (blk_cell BK335.out 2).trans rfl, (blk_cell BK335.out 3).trans rfl⟩ (fun hHeld => ?_); refine with_tabW tilefarmlaw4_PlaneShares.tab7 tilefarmlaw4_PlaneShares.bits7 (fun HT_ HW_ => ?_)
 generalize w54.drew = w55 at HO312 HO320 HO328 HO341 BK314 BK322 BK329 BK335 BK343 HI302 HB hHeld ⊢
 refine pure_ (i := 3) (N := some 49) (v := ?_) (a' := ?_) #[false, false, false, true, false, false, false, false, false, false, false, false, false, false] rfl rfl (any_of HT_.out (by kernel_rfl)) (fun _ _ _ h => h) (Or.inl ⟨by rfl, ?_⟩) ?_ ?_
 rotate_left
 ·intro w'
  go_simp
  with_reducible rfl
 rotate_left
 ·simp only [Act.put, List.setIfInBounds_toArray, List.set_cons_zero, List.set_cons_succ, i64_w, i32_w]
  rfl
 refine pure_ (i := 5) (N := some 51) (v := ?_) (a' := ?_) #[false, false, false, true, false, true, false, false, false, false, false, false, false, false] rfl rfl (any_of HT_.out (by kernel_rfl)) (fun _ _ _ h => h) (Or.inl ⟨by rfl, ?_⟩) ?_ ?_
 rotate_left
 ·intro w'
  go_simp
  with_reducible rfl
 rotate_left
 ·simp only [Act.put, List.setIfInBounds_toArray, List.set_cons_zero, List.set_cons_succ, i64_w, i32_w]
  rfl
 refine take_ (i := 0) (N := some 46) (v := ?_) (a' := ?_) #[true, false, false, true, false, true, false, false, false, false, false, false, false, false] rfl rfl (take_ofW HT_.out HW_.out (by kernel_rfl)) (fun _ _ _ h => h) (Or.inl ⟨by rfl, ?_⟩) hHeld ?_ ?_
 rotate_left
 ·rintro w' ⟨s0, s1, s2, s3, s4, s5, s6, s7, s8, s9, s10, s11⟩
  go_simp
  with_reducible rfl
 rotate_left
 ·simp only [Act.put, List.setIfInBounds_toArray, List.set_cons_zero, List.set_cons_succ, i64_w, i32_w]
  rfl
 refine take_ (i := 1) (N := some 47) (v := ?_) (a' := ?_) #[true, true, false, true, false, true, false, false, false, false, false, false, false, false] rfl rfl (take_ofW HT_.out HW_.out (by kernel_rfl)) (fun _ _ _ h => h) (Or.inl ⟨by rfl, ?_⟩) hHeld ?_ ?_
 rotate_left
 ·rintro w' ⟨s0, s1, s2, s3, s4, s5, s6, s7, s8, s9, s10, s11⟩
  go_simp
  with_reducible rfl
 rotate_left
 ·simp only [Act.put, List.setIfInBounds_toArray, List.set_cons_zero, List.set_cons_succ, i64_w, i32_w]
  rfl
 refine take_ (i := 4) (N := some 50) (v := ?_) (a' := ?_) #[true, true, false, true, true, true, false, false, false, false, false, false, false, false] rfl rfl (take_ofW HT_.out HW_.out (by kernel_rfl)) (fun _ _ _ h => h) (Or.inl ⟨by rfl, ?_⟩) hHeld ?_ ?_
 rotate_left
 ·rintro w' ⟨s0, s1, s2, s3, s4, s5, s6, s7, s8, s9, s10, s11⟩
  go_simp
  with_reducible rfl
 rotate_left
 ·simp only [Act.put, List.setIfInBounds_toArray, List.set_cons_zero, List.set_cons_succ, i64_w, i32_w]
  rfl
 refine take_ (i := 6) (N := some 52) (v := ?_) (a' := ?_) #[true, true, false, true, true, true, true, false, false, false, false, false, false, false] rfl rfl (take_ofW HT_.out HW_.out (by kernel_rfl)) (fun _ _ _ h => h) (Or.inl ⟨by rfl, ?_⟩) hHeld ?_ ?_
 rotate_left
 ·rintro w' ⟨s0, s1, s2, s3, s4, s5, s6, s7, s8, s9, s10, s11⟩
  go_simp
  with_reducible rfl
 rotate_left
 ·simp only [Act.put, List.setIfInBounds_toArray, List.set_cons_zero, List.set_cons_succ, i64_w, i32_w]
  rfl
 refine join_ (σ := Value × Value × Nat) 2 #[true, true, true, true, true, true, true, true, true, true, true, true, false, false] (fun s_ => [(48, .agg #[.int .i64 t344, .int .i64 t345, .int .i64 t346, s_.1]), (53, .tuple #[.agg #[.int .i64 t350, .int .i64 t351, .int .i64 t352, s_.2.1], .bool t356]), (10, .pointer (some ⟨s_.2.2, 0, none⟩)), (45, .tuple #[.agg #[.int .i64 t350, .int .i64 t351, .int .i64 t352, s_.2.1], .bool t356]), (54, .agg #[.int .i64 t350, .int .i64 t351, .int .i64 t352, s_.2.1]), (55, .bool t356)]) (fun s_ w' => (w'.cell? ⟨gb314, 0, none⟩ = some (.int .i64 t307) ∧ w'.cell? ⟨gb314, 1, none⟩ = some (.int .i64 t308) ∧ w'.cell? ⟨gb314, 2, none⟩ = some (.int .i64 t309) ∧ w'.cell? ⟨gb314, 3, none⟩ = some (.slice Ao21 t310.length co21) ∧ w'.cell? ⟨gb343, 0, none⟩ = some (.int .i64 t336) ∧ w'.cell? ⟨gb343, 1, none⟩ = some (.int .i64 t337) ∧ w'.cell? ⟨gb343, 2, none⟩ = some (.int .i64 t338) ∧ w'.cell? ⟨gb343, 3, none⟩ = some (.slice Ao53 t339.length co53) ∧ w'.cell? ⟨gb335, 0, none⟩ = some (.int .i64 t330) ∧ w'.cell? ⟨gb335, 1, none⟩ = some (.int .i64 t331) ∧ w'.cell? ⟨gb335, 2, none⟩ = some (.int .i64 t332) ∧ w'.cell? ⟨gb335, 3, none⟩ = some (.int .i64 t333)) ∧ (Kd.R (Kd.int .i64) 3 w' w.heap.size (fun k_ => some k_ ≠ (.slice Ao27 t318.length co27 : Value).ownBlock ∧ some k_ ≠ (.slice Ao35 t326.length co35 : Value).ownBlock ∧ some k_ ≠ (.slice Ao53 t339.length co53 : Value).ownBlock ∧ some k_ ≠ (s_.1 : Value).ownBlock ∧ some k_ ≠ (s_.2.1 : Value).ownBlock) (.slice Ao21 t310.length co21) t310) ∧ (Kd.R (Kd.int .i64) 3 w' w.heap.size (fun k_ => some k_ ≠ (.slice Ao21 t310.length co21 : Value).ownBlock ∧ some k_ ≠ (.slice Ao35 t326.length co35 : Value).ownBlock ∧ some k_ ≠ (.slice Ao53 t339.length co53 : Value).ownBlock ∧ some k_ ≠ (s_.1 : Value).ownBlock ∧ some k_ ≠ (s_.2.1 : Value).ownBlock) (.slice Ao27 t318.length co27) t318) ∧ (Kd.R (Kd.int .i64) 3 w' w.heap.size (fun k_ => some k_ ≠ (.slice Ao21 t310.length co21 : Value).ownBlock ∧ some k_ ≠ (.slice Ao27 t318.length co27 : Value).ownBlock ∧ some k_ ≠ (.slice Ao53 t339.length co53 : Value).ownBlock ∧ some k_ ≠ (s_.1 : Value).ownBlock ∧ some k_ ≠ (s_.2.1 : Value).ownBlock) (.slice Ao35 t326.length co35) t326) ∧ (Kd.R (Kd.int .i64) 3 w' w.heap.size (fun k_ => some k_ ≠ (.slice Ao21 t310.length co21 : Value).ownBlock ∧ some k_ ≠ (.slice Ao27 t318.length co27 : Value).ownBlock ∧ some k_ ≠ (.slice Ao35 t326.length co35 : Value).ownBlock ∧ some k_ ≠ (s_.1 : Value).ownBlock ∧ some k_ ≠ (s_.2.1 : Value).ownBlock) (.slice Ao53 t339.length co53) t339) ∧ (Kd.R (Kd.int .i64) 3 w' w.heap.size (fun k_ => some k_ ≠ (.slice Ao21 t310.length co21 : Value).ownBlock ∧ some k_ ≠ (.slice Ao27 t318.length co27 : Value).ownBlock ∧ some k_ ≠ (.slice Ao35 t326.length co35 : Value).ownBlock ∧ some k_ ≠ (.slice Ao53 t339.length co53 : Value).ownBlock ∧ some k_ ≠ (s_.2.1 : Value).ownBlock) s_.1 t347) ∧ (Kd.R (Kd.int .i64) 3 w' w.heap.size (fun k_ => some k_ ≠ (.slice Ao21 t310.length co21 : Value).ownBlock ∧ some k_ ≠ (.slice Ao27 t318.length co27 : Value).ownBlock ∧ some k_ ≠ (.slice Ao35 t326.length co35 : Value).ownBlock ∧ some k_ ≠ (.slice Ao53 t339.length co53 : Value).ownBlock ∧ some k_ ≠ (s_.1 : Value).ownBlock) s_.2.1 t353) ∧ (w'.heap[gb314]? = some (.cells #[.int .i64 t307, .int .i64 t308, .int .i64 t309, .slice Ao21 t310.length co21] 26 (0, 0))) ∧ (w'.heap[gb322]? = some (.cells #[.int .i64 t315, .int .i64 t316, .int .i64 t317, .slice Ao27 t318.length co27] 26 (0, 0))) ∧ (w'.heap[gb329]? = some (.cells #[.int .i64 t323, .int .i64 t324, .int .i64 t325, .slice Ao35 t326.length co35] 26 (0, 0))) ∧ (w'.heap[gb335]? = some (.cells #[.int .i64 t330, .int .i64 t331, .int .i64 t332, .int .i64 t333] 31 (0, 0))) ∧ (w'.heap[gb343]? = some (.cells #[.int .i64 t336, .int .i64 t337, .int .i64 t338, .slice Ao53 t339.length co53] 26 (0, 0))) ∧ (w'.heap[s_.2.2]? = some (.cells #[.int .i64 0, .int .i64 0, .int .i64 0, .slice none 0 0] 26 (0, 0))) ∧ (w.heap.size ≤ s_.2.2) ∧ (w.heap.size ≤ s_.2.2) ∧ (g302 ≠ s_.2.2) ∧ (s_.2.2 ≠ g302) ∧ (gb314 ≠ s_.2.2) ∧ (s_.2.2 ≠ gb314) ∧ (gb322 ≠ s_.2.2) ∧ (s_.2.2 ≠ gb322) ∧ (gb329 ≠ s_.2.2) ∧ (s_.2.2 ≠ gb329) ∧ (gb335 ≠ s_.2.2) ∧ (s_.2.2 ≠ gb335) ∧ (gb343 ≠ s_.2.2) ∧ (s_.2.2 ≠ gb343) ∧ (IsS54 w w' g302 t300 t334) ∧ (Below w.heap.size w w')) ?_ ?_
 rotate_left
 ·intro hCont
  refine two_ (i := 2) (j := 11) (Ni := some 48) (Nj := some 10) #[true, true, true, true, true, true, true, false, false, false, false, false, false, false] #[true, true, false, true, true, true, true, false, false, false, false, true, false, false] rfl rfl rfl rfl (two_of HT_.out (by kernel_rfl)) (by decide) (by decide) (fun K hK => ?_) (fun K hK => ?_)
  ·skip
   refine goes_ Try.func11 (by kernel_rfl) rfl #[.agg #[.int .i64 t336, .int .i64 t337, .int .i64 t338, .slice Ao53 t339.length co53]] (by rfl) rfl rfl q130_ ?_
   with_reducible refine (tilefarmref4_Copy.calls t336 t337 t338 _ _ t339 t344 t345 t346 t347 _ ?side1 ?side2 A10.out).mono ?_
   (case side1 => repeat (first | exact (Kd.R_reads' HO341.out).2.2 | (with_reducible refine Kd.C_alloc ?_ _) | (with_reducible refine Kd.C_drewN ?_ _) | (with_reducible refine Kd.C_drew ?_)))
   (case side2 => exact (Kd.R_reads' HO341.out).2.1)
   rintro e w56 ⟨v348, rfl, ho0, hb⟩
   refine ⟨_, rfl, ?_⟩
   have n0_ := am_ (Kd.R_elder' q188_ (Kd.R_base ho0) hb)
   have n1_ := am_ (Kd.R_elder' q189_ (Kd.R_base ho0) hb)
   have n2_ := am_ (Kd.R_elder' q190_ (Kd.R_base ho0) hb)
   have n3_ := am_ (Kd.R_elder' q191_ (Kd.R_base ho0) hb)
   have n4_ := am_ (Kd.R_lower (Kd.R_new' (Kd.R_new' (Kd.R_new' (Kd.R_new' ho0 (Kd.R_lt q188_)) (Kd.R_lt q189_)) (Kd.R_lt q190_)) (Kd.R_lt q191_)) (below_size q25_))
   have n5_ := am_ (IsS54.below q24_ hb)
   have n6_ := am_ (blk_below (g := gb314) (o := .cells #[.int .i64 t307, .int .i64 t308, .int .i64 t309, .slice Ao21 t310.length co21] 26 (0, 0)) q163_ hb)
   have n7_ := am_ (blk_below (g := gb322) (o := .cells #[.int .i64 t315, .int .i64 t316, .int .i64 t317, .slice Ao27 t318.length co27] 26 (0, 0)) q164_ hb)
   have n8_ := am_ (blk_below (g := gb329) (o := .cells #[.int .i64 t323, .int .i64 t324, .int .i64 t325, .slice Ao35 t326.length co35] 26 (0, 0)) q165_ hb)
   have n9_ := am_ (blk_below (g := gb335) (o := .cells #[.int .i64 t330, .int .i64 t331, .int .i64 t332, .int .i64 t333] 31 (0, 0)) q166_ hb)
   have n10_ := am_ (blk_below (g := gb343) (o := .cells #[.int .i64 t336, .int .i64 t337, .int .i64 t338, .slice Ao53 t339.length co53] 26 (0, 0)) q167_ hb)
   have n11_ := am_ (below_step q25_ hb)
   clear HO312
   clear HO320
   clear HO328
   clear HO341
   clear HI302
   clear BK314
   clear BK322
   clear BK329
   clear BK335
   clear BK343
   clear HB
   have HO312 := n0_
   have HO320 := n1_
   have HO328 := n2_
   have HO341 := n3_
   have HO349 := n4_
   have HI302 := n5_
   have BK314 := n6_
   have BK322 := n7_
   have BK329 := n8_
   have BK335 := n9_
   have BK343 := n10_
   have HB := n11_
   clear n0_ n1_ n2_ n3_ n4_ n5_ n6_ n7_ n8_ n9_ n10_ n11_
   (try clear hb)
   (try clear hb2)
   (try clear hk)
   (try clear hi)
   (try clear ho0)
   obtain ⟨Ao57, co57, eo57⟩ := Kd.R_slice HO349.out
   (first | subst eo57 | (injection eo57 with f1_ f2_ f3_; have f4_ := f1_.symm; have f5_ := f3_.symm; clear f1_ f2_ f3_; subst f4_; subst f5_))
   refine hK.out _ _ ⟨(blk_cell BK314.out 0).trans rfl, (blk_cell BK314.out 1).trans rfl, (blk_cell BK314.out 2).trans rfl, (blk_cell BK314.out 3).trans rfl, (blk_cell BK343.out 0).trans rfl, (blk_cell BK343.out 1).trans rfl, (blk_cell BK343.out 2).trans rfl, (blk_cell BK343.out 3).trans rfl, (blk_cell BK335.out 0).trans rfl, (blk_cell BK335.out 1).trans rfl, (blk_cell BK335.out 2).trans rfl, (blk_cell BK335.out 3).trans rfl⟩ (fun hHeld => ?_)
   clear hK K
   refine norm_ (a' := ?_) ?_ ?_
   rotate_left
   ·show Act.put _ (some 48) _ = _
    simp only [Act.put, List.setIfInBounds_toArray, List.set_cons_zero, List.set_cons_succ, i64_w, i32_w]
    rfl
   refine two_ (i := 7) (j := 11) (Ni := some 53) (Nj := some 10) #[true, true, true, true, true, true, true, true, false, false, false, false, false, false] #[true, true, true, true, true, true, true, false, false, false, false, true, false, false] rfl rfl rfl rfl (two_of HT_.out (by kernel_rfl)) (by decide) (by decide) (fun K hK => ?_) (fun K hK => ?_)
   ·skip
    refine goes_ Try.func14 (by kernel_rfl) rfl #[.agg #[.int .i64 t307, .int .i64 t308, .int .i64 t309, .slice Ao21 t310.length co21], .agg #[.int .i64 t344, .int .i64 t345, .int .i64 t346, .slice Ao57 t347.length co57], .int .i64 t330, .int .i64 t331] (by rfl) rfl rfl q130_ ?_
    with_reducible refine (plane_Blit.calls k t307 t308 t309 _ _ t310 t344 t345 t346 _ _ t347 t330 t331 t350 t351 t352 t353 t356 _ ?side1 ?side2 ?side3 ?side4 A11.out).mono ?_
    (case side1 => repeat (first | exact (Kd.R_reads' HO312.out).2.2 | (with_reducible refine Kd.C_alloc ?_ _) | (with_reducible refine Kd.C_drewN ?_ _) | (with_reducible refine Kd.C_drew ?_)))
    (case side2 => exact (Kd.R_reads' HO312.out).2.1)
    (case side3 => repeat (first | exact (Kd.R_reads' HO349.out).2.2 | (with_reducible refine Kd.C_alloc ?_ _) | (with_reducible refine Kd.C_drewN ?_ _) | (with_reducible refine Kd.C_drew ?_)))
    (case side4 => exact (Kd.R_reads' HO349.out).2.1)
    rintro e w58 ⟨v354, rfl, ho0, hb⟩
    refine ⟨_, rfl, ?_⟩
    have n0_ := am_ (Kd.R_elder' q188_ (Kd.R_base ho0) hb)
    have n1_ := am_ (Kd.R_elder' q189_ (Kd.R_base ho0) hb)
    have n2_ := am_ (Kd.R_elder' q190_ (Kd.R_base ho0) hb)
    have n3_ := am_ (Kd.R_elder' q191_ (Kd.R_base ho0) hb)
    have n4_ := am_ (Kd.R_elder' q192_ (Kd.R_base ho0) hb)
    have n5_ := am_ (Kd.R_lower (Kd.R_new' (Kd.R_new' (Kd.R_new' (Kd.R_new' (Kd.R_new' ho0 (Kd.R_lt q188_)) (Kd.R_lt q189_)) (Kd.R_lt q190_)) (Kd.R_lt q191_)) (Kd.R_lt q192_)) (below_size q25_))
    have n6_ := am_ (IsS54.below q24_ hb)
    have n7_ := am_ (blk_below (g := gb314) (o := .cells #[.int .i64 t307, .int .i64 t308, .int .i64 t309, .slice Ao21 t310.length co21] 26 (0, 0)) q163_ hb)
    have n8_ := am_ (blk_below (g := gb322) (o := .cells #[.int .i64 t315, .int .i64 t316, .int .i64 t317, .slice Ao27 t318.length co27] 26 (0, 0)) q164_ hb)
    have n9_ := am_ (blk_below (g := gb329) (o := .cells #[.int .i64 t323, .int .i64 t324, .int .i64 t325, .slice Ao35 t326.length co35] 26 (0, 0)) q165_ hb)
    have n10_ := am_ (blk_below (g := gb335) (o := .cells #[.int .i64 t330, .int .i64 t331, .int .i64 t332, .int .i64 t333] 31 (0, 0)) q166_ hb)
    have n11_ := am_ (blk_below (g := gb343) (o := .cells #[.int .i64 t336, .int .i64 t337, .int .i64 t338, .slice Ao53 t339.length co53] 26 (0, 0)) q167_ hb)
    have n12_ := am_ (below_step q25_ hb)
    clear HO312
    clear HO320
    clear HO328
    clear HO341
    clear HO349
    clear HI302
    clear BK314
    clear BK322
    clear BK329
    clear BK335
    clear BK343
    clear HB
    have HO312 := n0_
    have HO320 := n1_
    have HO328 := n2_
    have HO341 := n3_
    have HO349 := n4_
    have HO355 := n5_
    have HI302 := n6_
    have BK314 := n7_
    have BK322 := n8_
    have BK329 := n9_
    have BK335 := n10_
    have BK343 := n11_
    have HB := n12_
    clear n0_ n1_ n2_ n3_ n4_ n5_ n6_ n7_ n8_ n9_ n10_ n11_ n12_
    (try clear hb)
    (try clear hb2)
    (try clear hk)
    (try clear hi)
    (try clear ho0)
    refine hK.out _ _ ⟨(blk_cell BK314.out 0).trans rfl, (blk_cell BK314.out 1).trans rfl, (blk_cell BK314.out 2).trans rfl, (blk_cell BK314.out 3).trans rfl, (blk_cell BK343.out 0).trans rfl, (blk_cell BK343.out 1).trans rfl, (blk_cell BK343.out 2).trans rfl, (blk_cell BK343.out 3).trans rfl, (blk_cell BK335.out 0).trans rfl, (blk_cell BK335.out 1).trans rfl, (blk_cell BK335.out 2).trans rfl, (blk_cell BK335.out 3).trans rfl⟩ (fun hHeld => ?_)
    clear hK K
    refine norm_ (a' := ?_) ?_ ?_
    rotate_left
    ·show Act.put _ (some 53) _ = _
     simp only [Act.put, List.setIfInBounds_toArray, List.set_cons_zero, List.set_cons_succ, i64_w, i32_w]
     rfl
    refine pure_ (i := 8) (N := some 45) (v := ?_) (a' := ?_) #[true, true, true, true, true, true, true, true, true, false, false, false, false, false] rfl rfl (any_of HT_.out (by kernel_rfl)) (fun _ _ _ h => h) (Or.inl ⟨by rfl, ?_⟩) ?_ ?_
    rotate_left
    ·intro w'
     go_simp
     with_reducible rfl
    rotate_left
    ·simp only [Act.put, List.setIfInBounds_toArray, List.set_cons_zero, List.set_cons_succ, i64_w, i32_w]
     rfl
    refine pure_ (i := 9) (N := some 54) (v := ?_) (a' := ?_) #[true, true, true, true, true, true, true, true, true, true, false, false, false, false] rfl rfl (any_of HT_.out (by kernel_rfl)) (fun _ _ _ h => h) (Or.inl ⟨by rfl, ?_⟩) ?_ ?_
    rotate_left
    ·intro w'
     go_simp
     with_reducible rfl
    rotate_left
    ·simp only [Act.put, List.setIfInBounds_toArray, List.set_cons_zero, List.set_cons_succ, i64_w, i32_w]
     rfl
    refine pure_ (i := 10) (N := some 55) (v := ?_) (a' := ?_) #[true, true, true, true, true, true, true, true, true, true, true, false, false, false] rfl rfl (any_of HT_.out (by kernel_rfl)) (fun _ _ _ h => h) (Or.inl ⟨by rfl, ?_⟩) ?_ ?_
    rotate_left
    ·intro w'
     go_simp
     with_reducible rfl
    rotate_left
    ·simp only [Act.put, List.setIfInBounds_toArray, List.set_cons_zero, List.set_cons_succ, i64_w, i32_w]
     rfl
    refine one_ (i := 11) (N := some 10) #[true, true, true, true, true, true, true, true, true, true, true, true, false, false] rfl rfl (one_of HT_.out (by kernel_rfl)) (by decide) (fun K hK => ?_)
    refine box_step ?hg (N := 10) ?hd (cs := #[.int .i64 0, .int .i64 0, .int .i64 0, .slice none 0 0]) (t := 26) ?hr ?_; (case hd => rfl); (case hg => rfl); (case hr => first | (go_simp; done) | (go_simp; rfl))
    intro gb357 hg w59 hbox hb
    have n0_ := am_ (Kd.R_below q188_ hb)
    have n1_ := am_ (Kd.R_below q189_ hb)
    have n2_ := am_ (Kd.R_below q190_ hb)
    have n3_ := am_ (Kd.R_below q191_ hb)
    have n4_ := am_ (Kd.R_below q192_ hb)
    have n5_ := am_ (Kd.R_below (by (with_reducible repeat (first | apply Kd.R_alloc | apply Kd.R_drewN | apply Kd.R_drew)); exact HO355.out) hb)
    have n6_ := am_ (IsS54.below q24_ hb)
    have n7_ := am_ (blk_below (g := gb314) (o := .cells #[.int .i64 t307, .int .i64 t308, .int .i64 t309, .slice Ao21 t310.length co21] 26 (0, 0)) q163_ hb)
    have n8_ := am_ (blk_below (g := gb322) (o := .cells #[.int .i64 t315, .int .i64 t316, .int .i64 t317, .slice Ao27 t318.length co27] 26 (0, 0)) q164_ hb)
    have n9_ := am_ (blk_below (g := gb329) (o := .cells #[.int .i64 t323, .int .i64 t324, .int .i64 t325, .slice Ao35 t326.length co35] 26 (0, 0)) q165_ hb)
    have n10_ := am_ (blk_below (g := gb335) (o := .cells #[.int .i64 t330, .int .i64 t331, .int .i64 t332, .int .i64 t333] 31 (0, 0)) q166_ hb)
    have n11_ := am_ (blk_below (g := gb343) (o := .cells #[.int .i64 t336, .int .i64 t337, .int .i64 t338, .slice Ao53 t339.length co53] 26 (0, 0)) q167_ hb)
    have n12_ := am_ (below_step q25_ hb)
    have n13_ := am_ (hbox)
    have n14_ := am_ ((q21_ : w.heap.size ≤ gb357))
    have n15_ := am_ ((q21_ : w.heap.size ≤ gb357))
    have n16_ := am_ ((q39_ : gb314 ≠ gb357))
    have n17_ := am_ ((q40_ : gb357 ≠ gb314))
    have n18_ := am_ ((q41_ : gb322 ≠ gb357))
    have n19_ := am_ ((q42_ : gb357 ≠ gb322))
    have n20_ := am_ ((q43_ : gb329 ≠ gb357))
    have n21_ := am_ ((q44_ : gb357 ≠ gb329))
    have n22_ := am_ ((q56_ : gb335 ≠ gb357))
    have n23_ := am_ ((q57_ : gb357 ≠ gb335))
    have n24_ := am_ ((q45_ : gb343 ≠ gb357))
    have n25_ := am_ ((q46_ : gb357 ≠ gb343))
    have n26_ := am_ ((q16_ : g302 ≠ gb357))
    have n27_ := am_ ((q17_ : gb357 ≠ g302))
    clear HO312
    clear HO320
    clear HO328
    clear HO341
    clear HO349
    clear HO355
    clear HI302
    clear BK314
    clear BK322
    clear BK329
    clear BK335
    clear BK343
    clear HB
    have HO312 := n0_
    have HO320 := n1_
    have HO328 := n2_
    have HO341 := n3_
    have HO349 := n4_
    have HO355 := n5_
    have HI302 := n6_
    have BK314 := n7_
    have BK322 := n8_
    have BK329 := n9_
    have BK335 := n10_
    have BK343 := n11_
    have HB := n12_
    have BK357 := n13_
    have GW357 := n14_
    have GE357 := n15_
    have NB314_357 := n16_
    have NB357_314 := n17_
    have NB322_357 := n18_
    have NB357_322 := n19_
    have NB329_357 := n20_
    have NB357_329 := n21_
    have NB335_357 := n22_
    have NB357_335 := n23_
    have NB343_357 := n24_
    have NB357_343 := n25_
    have NB302_357 := n26_
    have NB357_302 := n27_
    clear n0_ n1_ n2_ n3_ n4_ n5_ n6_ n7_ n8_ n9_ n10_ n11_ n12_ n13_ n14_ n15_ n16_ n17_ n18_ n19_ n20_ n21_ n22_ n23_ n24_ n25_ n26_ n27_
    clear hb hbox hg
    refine hK.out _ _ ⟨(blk_cell BK314.out 0).trans rfl, (blk_cell BK314.out 1).trans rfl, (blk_cell BK314.out 2).trans rfl, (blk_cell BK314.out 3).trans rfl, (blk_cell BK343.out 0).trans rfl, (blk_cell BK343.out 1).trans rfl, (blk_cell BK343.out 2).trans rfl, (blk_cell BK343.out 3).trans rfl, (blk_cell BK335.out 0).trans rfl, (blk_cell BK335.out 1).trans rfl, (blk_cell BK335.out 2).trans rfl, (blk_cell BK335.out 3).trans rfl⟩ (fun hHeld => ?_)
    clear hK K
    refine norm_ (a' := ?_) ?_ ?_
    rotate_left
    ·show Act.put _ (some 10) _ = _
     simp only [Act.put, List.setIfInBounds_toArray, List.set_cons_zero, List.set_cons_succ, i64_w, i32_w]
     rfl
    exact norm_ q194_ (hCont (.slice Ao57 t347.length co57, v354, gb357) _ ⟨hHeld, q97_, q98_, q99_, q100_, q95_, q96_, q163_, q164_, q165_, q166_, q167_, q168_, GW357.out, GE357.out, NB302_357.out, NB357_302.out, NB314_357.out, NB357_314.out, NB322_357.out, NB357_322.out, NB329_357.out, NB357_329.out, NB335_357.out, NB357_335.out, NB343_357.out, NB357_343.out, q20_, q22_⟩)
   ·skip
    refine box_step ?hg (N := 10) ?hd (cs := #[.int .i64 0, .int .i64 0, .int .i64 0, .slice none 0 0]) (t := 26) ?hr ?_; (case hd => rfl); (case hg => rfl); (case hr => first | (go_simp; done) | (go_simp; rfl))
    intro gb357 hg w57 hbox hb
    have n0_ := am_ (Kd.R_below q188_ hb)
    have n1_ := am_ (Kd.R_below q189_ hb)
    have n2_ := am_ (Kd.R_below q190_ hb)
    have n3_ := am_ (Kd.R_below q191_ hb)
    have n4_ := am_ (Kd.R_below q192_ hb)
    have n5_ := am_ (IsS54.below q24_ hb)
    have n6_ := am_ (blk_below (g := gb314) (o := .cells #[.int .i64 t307, .int .i64 t308, .int .i64 t309, .slice Ao21 t310.length co21] 26 (0, 0)) q163_ hb)
    have n7_ := am_ (blk_below (g := gb322) (o := .cells #[.int .i64 t315, .int .i64 t316, .int .i64 t317, .slice Ao27 t318.length co27] 26 (0, 0)) q164_ hb)
    have n8_ := am_ (blk_below (g := gb329) (o := .cells #[.int .i64 t323, .int .i64 t324, .int .i64 t325, .slice Ao35 t326.length co35] 26 (0, 0)) q165_ hb)
    have n9_ := am_ (blk_below (g := gb335) (o := .cells #[.int .i64 t330, .int .i64 t331, .int .i64 t332, .int .i64 t333] 31 (0, 0)) q166_ hb)
    have n10_ := am_ (blk_below (g := gb343) (o := .cells #[.int .i64 t336, .int .i64 t337, .int .i64 t338, .slice Ao53 t339.length co53] 26 (0, 0)) q167_ hb)
    have n11_ := am_ (below_step q25_ hb)
    have n12_ := am_ (hbox)
    have n13_ := am_ ((q21_ : w.heap.size ≤ gb357))
    have n14_ := am_ ((q21_ : w.heap.size ≤ gb357))
    have n15_ := am_ ((q39_ : gb314 ≠ gb357))
    have n16_ := am_ ((q40_ : gb357 ≠ gb314))
    have n17_ := am_ ((q41_ : gb322 ≠ gb357))
    have n18_ := am_ ((q42_ : gb357 ≠ gb322))
    have n19_ := am_ ((q43_ : gb329 ≠ gb357))
    have n20_ := am_ ((q44_ : gb357 ≠ gb329))
    have n21_ := am_ ((q56_ : gb335 ≠ gb357))
    have n22_ := am_ ((q57_ : gb357 ≠ gb335))
    have n23_ := am_ ((q45_ : gb343 ≠ gb357))
    have n24_ := am_ ((q46_ : gb357 ≠ gb343))
    have n25_ := am_ ((q16_ : g302 ≠ gb357))
    have n26_ := am_ ((q17_ : gb357 ≠ g302))
    clear HO312
    clear HO320
    clear HO328
    clear HO341
    clear HO349
    clear HI302
    clear BK314
    clear BK322
    clear BK329
    clear BK335
    clear BK343
    clear HB
    have HO312 := n0_
    have HO320 := n1_
    have HO328 := n2_
    have HO341 := n3_
    have HO349 := n4_
    have HI302 := n5_
    have BK314 := n6_
    have BK322 := n7_
    have BK329 := n8_
    have BK335 := n9_
    have BK343 := n10_
    have HB := n11_
    have BK357 := n12_
    have GW357 := n13_
    have GE357 := n14_
    have NB314_357 := n15_
    have NB357_314 := n16_
    have NB322_357 := n17_
    have NB357_322 := n18_
    have NB329_357 := n19_
    have NB357_329 := n20_
    have NB335_357 := n21_
    have NB357_335 := n22_
    have NB343_357 := n23_
    have NB357_343 := n24_
    have NB302_357 := n25_
    have NB357_302 := n26_
    clear n0_ n1_ n2_ n3_ n4_ n5_ n6_ n7_ n8_ n9_ n10_ n11_ n12_ n13_ n14_ n15_ n16_ n17_ n18_ n19_ n20_ n21_ n22_ n23_ n24_ n25_ n26_
    clear hb hbox hg
    obtain ⟨Ao58, co58, eo58⟩ := Kd.R_slice HO349.out
    (first | subst eo58 | (injection eo58 with f1_ f2_ f3_; have f4_ := f1_.symm; have f5_ := f3_.symm; clear f1_ f2_ f3_; subst f4_; subst f5_))
    refine hK.out _ _ ⟨(blk_cell BK314.out 0).trans rfl, (blk_cell BK314.out 1).trans rfl, (blk_cell BK314.out 2).trans rfl, (blk_cell BK314.out 3).trans rfl, (blk_cell BK343.out 0).trans rfl, (blk_cell BK343.out 1).trans rfl, (blk_cell BK343.out 2).trans rfl, (blk_cell BK343.out 3).trans rfl, (blk_cell BK335.out 0).trans rfl, (blk_cell BK335.out 1).trans rfl, (blk_cell BK335.out 2).trans rfl, (blk_cell BK335.out 3).trans rfl⟩ (fun hHeld => ?_)
    clear hK K
    refine norm_ (a' := ?_) ?_ ?_
    rotate_left
    ·show Act.put _ (some 10) _ = _
     simp only [Act.put, List.setIfInBounds_toArray, List.set_cons_zero, List.set_cons_succ, i64_w, i32_w]
     rfl
    refine one_ (i := 7) (N := some 53) #[true, true, true, true, true, true, true, true, false, false, false, true, false, false] rfl rfl (one_of HT_.out (by kernel_rfl)) (by decide) (fun K hK => ?_)
    refine goes_ Try.func14 (by kernel_rfl) rfl #[.agg #[.int .i64 t307, .int .i64 t308, .int .i64 t309, .slice Ao21 t310.length co21], .agg #[.int .i64 t344, .int .i64 t345, .int .i64 t346, .slice Ao58 t347.length co58], .int .i64 t330, .int .i64 t331] (by rfl) rfl rfl q130_ ?_
    with_reducible refine (plane_Blit.calls k t307 t308 t309 _ _ t310 t344 t345 t346 _ _ t347 t330 t331 t350 t351 t352 t353 t356 _ ?side1 ?side2 ?side3 ?side4 A11.out).mono ?_
    (case side1 => repeat (first | exact (Kd.R_reads' HO312.out).2.2 | (with_reducible refine Kd.C_alloc ?_ _) | (with_reducible refine Kd.C_drewN ?_ _) | (with_reducible refine Kd.C_drew ?_)))
    (case side2 => exact (Kd.R_reads' HO312.out).2.1)
    (case side3 => repeat (first | exact (Kd.R_reads' HO349.out).2.2 | (with_reducible refine Kd.C_alloc ?_ _) | (with_reducible refine Kd.C_drewN ?_ _) | (with_reducible refine Kd.C_drew ?_)))
    (case side4 => exact (Kd.R_reads' HO349.out).2.1)
    rintro e w59 ⟨v354, rfl, ho0, hb⟩
    refine ⟨_, rfl, ?_⟩
    have n0_ := am_ (Kd.R_elder' q188_ (Kd.R_base ho0) hb)
    have n1_ := am_ (Kd.R_elder' q189_ (Kd.R_base ho0) hb)
    have n2_ := am_ (Kd.R_elder' q190_ (Kd.R_base ho0) hb)
    have n3_ := am_ (Kd.R_elder' q191_ (Kd.R_base ho0) hb)
    have n4_ := am_ (Kd.R_elder' q192_ (Kd.R_base ho0) hb)
    have n5_ := am_ (Kd.R_lower (Kd.R_new' (Kd.R_new' (Kd.R_new' (Kd.R_new' (Kd.R_new' ho0 (Kd.R_lt q188_)) (Kd.R_lt q189_)) (Kd.R_lt q190_)) (Kd.R_lt q191_)) (Kd.R_lt q192_)) (below_size q22_))
    have n6_ := am_ (IsS54.below q20_ hb)
    have n7_ := am_ (blk_below (g := gb314) (o := .cells #[.int .i64 t307, .int .i64 t308, .int .i64 t309, .slice Ao21 t310.length co21] 26 (0, 0)) q163_ hb)
    have n8_ := am_ (blk_below (g := gb322) (o := .cells #[.int .i64 t315, .int .i64 t316, .int .i64 t317, .slice Ao27 t318.length co27] 26 (0, 0)) q164_ hb)
    have n9_ := am_ (blk_below (g := gb329) (o := .cells #[.int .i64 t323, .int .i64 t324, .int .i64 t325, .slice Ao35 t326.length co35] 26 (0, 0)) q165_ hb)
    have n10_ := am_ (blk_below (g := gb335) (o := .cells #[.int .i64 t330, .int .i64 t331, .int .i64 t332, .int .i64 t333] 31 (0, 0)) q166_ hb)
    have n11_ := am_ (blk_below (g := gb343) (o := .cells #[.int .i64 t336, .int .i64 t337, .int .i64 t338, .slice Ao53 t339.length co53] 26 (0, 0)) q167_ hb)
    have n12_ := am_ (blk_below (g := gb357) (o := .cells #[.int .i64 0, .int .i64 0, .int .i64 0, .slice none 0 0] 26 (0, 0)) q168_ hb)
    have n13_ := am_ (below_step q22_ hb)
    clear HO312
    clear HO320
    clear HO328
    clear HO341
    clear HO349
    clear HI302
    clear BK314
    clear BK322
    clear BK329
    clear BK335
    clear BK343
    clear BK357
    clear HB
    have HO312 := n0_
    have HO320 := n1_
    have HO328 := n2_
    have HO341 := n3_
    have HO349 := n4_
    have HO355 := n5_
    have HI302 := n6_
    have BK314 := n7_
    have BK322 := n8_
    have BK329 := n9_
    have BK335 := n10_
    have BK343 := n11_
    have BK357 := n12_
    have HB := n13_
    clear n0_ n1_ n2_ n3_ n4_ n5_ n6_ n7_ n8_ n9_ n10_ n11_ n12_ n13_
    (try clear hb)
    (try clear hb2)
    (try clear hk)
    (try clear hi)
    (try clear ho0)
    refine hK.out _ _ ⟨(blk_cell BK314.out 0).trans rfl, (blk_cell BK314.out 1).trans rfl, (blk_cell BK314.out 2).trans rfl, (blk_cell BK314.out 3).trans rfl, (blk_cell BK343.out 0).trans rfl, (blk_cell BK343.out 1).trans rfl, (blk_cell BK343.out 2).trans rfl, (blk_cell BK343.out 3).trans rfl, (blk_cell BK335.out 0).trans rfl, (blk_cell BK335.out 1).trans rfl, (blk_cell BK335.out 2).trans rfl, (blk_cell BK335.out 3).trans rfl⟩ (fun hHeld => ?_)
    clear hK K
    refine norm_ (a' := ?_) ?_ ?_
    rotate_left
    ·show Act.put _ (some 53) _ = _
     simp only [Act.put, List.setIfInBounds_toArray, List.set_cons_zero, List.set_cons_succ, i64_w, i32_w]
     rfl
    refine pure_ (i := 8) (N := some 45) (v := ?_) (a' := ?_) #[true, true, true, true, true, true, true, true, true, false, false, true, false, false] rfl rfl (any_of HT_.out (by kernel_rfl)) (fun _ _ _ h => h) (Or.inl ⟨by rfl, ?_⟩) ?_ ?_
    rotate_left
    ·intro w'
     go_simp
     with_reducible rfl
    rotate_left
    ·simp only [Act.put, List.setIfInBounds_toArray, List.set_cons_zero, List.set_cons_succ, i64_w, i32_w]
     rfl
    refine pure_ (i := 9) (N := some 54) (v := ?_) (a' := ?_) #[true, true, true, true, true, true, true, true, true, true, false, true, false, false] rfl rfl (any_of HT_.out (by kernel_rfl)) (fun _ _ _ h => h) (Or.inl ⟨by rfl, ?_⟩) ?_ ?_
    rotate_left
    ·intro w'
     go_simp
     with_reducible rfl
    rotate_left
    ·simp only [Act.put, List.setIfInBounds_toArray, List.set_cons_zero, List.set_cons_succ, i64_w, i32_w]
     rfl
    refine pure_ (i := 10) (N := some 55) (v := ?_) (a' := ?_) #[true, true, true, true, true, true, true, true, true, true, true, true, false, false] rfl rfl (any_of HT_.out (by kernel_rfl)) (fun _ _ _ h => h) (Or.inl ⟨by rfl, ?_⟩) ?_ ?_
    rotate_left
    ·intro w'
     go_simp
     with_reducible rfl
    rotate_left
    ·simp only [Act.put, List.setIfInBounds_toArray, List.set_cons_zero, List.set_cons_succ, i64_w, i32_w]
     rfl
    exact norm_ q194_ (hCont (.slice Ao58 t347.length co58, v354, gb357) _ ⟨hHeld, q97_, q98_, q99_, q100_, q95_, q96_, q163_, q164_, q165_, q166_, q167_, q168_, GW357.out, GE357.out, NB302_357.out, NB357_302.out, NB314_357.out, NB357_314.out, NB322_357.out, NB357_322.out, NB329_357.out, NB357_329.out, NB335_357.out, NB357_335.out, NB343_357.out, NB357_343.out, q20_, q22_⟩)
  ·skip
   refine box_step ?hg (N := 10) ?hd (cs := #[.int .i64 0, .int .i64 0, .int .i64 0, .slice none 0 0]) (t := 26) ?hr ?_; (case hd => rfl); (case hg => rfl); (case hr => first | (go_simp; done) | (go_simp; rfl))
   intro gb357 hg w56 hbox hb
   have n0_ := am_ (Kd.R_below q188_ hb)
   have n1_ := am_ (Kd.R_below q189_ hb)
   have n2_ := am_ (Kd.R_below q190_ hb)
   have n3_ := am_ (Kd.R_below q191_ hb)
   have n4_ := am_ (IsS54.below q24_ hb)
   have n5_ := am_ (blk_below (g := gb314) (o := .cells #[.int .i64 t307, .int .i64 t308, .int .i64 t309, .slice Ao21 t310.length co21] 26 (0, 0)) q163_ hb)
   have n6_ := am_ (blk_below (g := gb322) (o := .cells #[.int .i64 t315, .int .i64 t316, .int .i64 t317, .slice Ao27 t318.length co27] 26 (0, 0)) q164_ hb)
   have n7_ := am_ (blk_below (g := gb329) (o := .cells #[.int .i64 t323, .int .i64 t324, .int .i64 t325, .slice Ao35 t326.length co35] 26 (0, 0)) q165_ hb)
   have n8_ := am_ (blk_below (g := gb335) (o := .cells #[.int .i64 t330, .int .i64 t331, .int .i64 t332, .int .i64 t333] 31 (0, 0)) q166_ hb)
   have n9_ := am_ (blk_below (g := gb343) (o := .cells #[.int .i64 t336, .int .i64 t337, .int .i64 t338, .slice Ao53 t339.length co53] 26 (0, 0)) q167_ hb)
   have n10_ := am_ (below_step q25_ hb)
   have n11_ := am_ (hbox)
   have n12_ := am_ ((q21_ : w.heap.size ≤ gb357))
   have n13_ := am_ ((q21_ : w.heap.size ≤ gb357))
   have n14_ := am_ ((q39_ : gb314 ≠ gb357))
   have n15_ := am_ ((q40_ : gb357 ≠ gb314))
   have n16_ := am_ ((q41_ : gb322 ≠ gb357))
   have n17_ := am_ ((q42_ : gb357 ≠ gb322))
   have n18_ := am_ ((q43_ : gb329 ≠ gb357))
   have n19_ := am_ ((q44_ : gb357 ≠ gb329))
   have n20_ := am_ ((q56_ : gb335 ≠ gb357))
   have n21_ := am_ ((q57_ : gb357 ≠ gb335))
   have n22_ := am_ ((q45_ : gb343 ≠ gb357))
   have n23_ := am_ ((q46_ : gb357 ≠ gb343))
   have n24_ := am_ ((q16_ : g302 ≠ gb357))
   have n25_ := am_ ((q17_ : gb357 ≠ g302))
   clear HO312
   clear HO320
   clear HO328
   clear HO341
   clear HI302
   clear BK314
   clear BK322
   clear BK329
   clear BK335
   clear BK343
   clear HB
   have HO312 := n0_
   have HO320 := n1_
   have HO328 := n2_
   have HO341 := n3_
   have HI302 := n4_
   have BK314 := n5_
   have BK322 := n6_
   have BK329 := n7_
   have BK335 := n8_
   have BK343 := n9_
   have HB := n10_
   have BK357 := n11_
   have GW357 := n12_
   have GE357 := n13_
   have NB314_357 := n14_
   have NB357_314 := n15_
   have NB322_357 := n16_
   have NB357_322 := n17_
   have NB329_357 := n18_
   have NB357_329 := n19_
   have NB335_357 := n20_
   have NB357_335 := n21_
   have NB343_357 := n22_
   have NB357_343 := n23_
   have NB302_357 := n24_
   have NB357_302 := n25_
   clear n0_ n1_ n2_ n3_ n4_ n5_ n6_ n7_ n8_ n9_ n10_ n11_ n12_ n13_ n14_ n15_ n16_ n17_ n18_ n19_ n20_ n21_ n22_ n23_ n24_ n25_
   clear hb hbox hg
   refine hK.out _ _ ⟨(blk_cell BK314.out 0).trans rfl, (blk_cell BK314.out 1).trans rfl, (blk_cell BK314.out 2).trans rfl, (blk_cell BK314.out 3).trans rfl, (blk_cell BK343.out 0).trans rfl, (blk_cell BK343.out 1).trans rfl, (blk_cell BK343.out 2).trans rfl, (blk_cell BK343.out 3).trans rfl, (blk_cell BK335.out 0).trans rfl, (blk_cell BK335.out 1).trans rfl, (blk_cell BK335.out 2).trans rfl, (blk_cell BK335.out 3).trans rfl⟩ (fun hHeld => ?_)
   clear hK K
   refine norm_ (a' := ?_) ?_ ?_
   rotate_left
   ·show Act.put _ (some 10) _ = _
    simp only [Act.put, List.setIfInBounds_toArray, List.set_cons_zero, List.set_cons_succ, i64_w, i32_w]
    rfl
   refine one_ (i := 2) (N := some 48) #[true, true, true, true, true, true, true, false, false, false, false, true, false, false] rfl rfl (one_of HT_.out (by kernel_rfl)) (by decide) (fun K hK => ?_)
   refine goes_ Try.func11 (by kernel_rfl) rfl #[.agg #[.int .i64 t336, .int .i64 t337, .int .i64 t338, .slice Ao53 t339.length co53]] (by rfl) rfl rfl q130_ ?_
   with_reducible refine (tilefarmref4_Copy.calls t336 t337 t338 _ _ t339 t344 t345 t346 t347 _ ?side1 ?side2 A10.out).mono ?_
   (case side1 => repeat (first | exact (Kd.R_reads' HO341.out).2.2 | (with_reducible refine Kd.C_alloc ?_ _) | (with_reducible refine Kd.C_drewN ?_ _) | (with_reducible refine Kd.C_drew ?_)))
   (case side2 => exact (Kd.R_reads' HO341.out).2.1)
   rintro e w57 ⟨v348, rfl, ho0, hb⟩
   refine ⟨_, rfl, ?_⟩
   have n0_ := am_ (Kd.R_elder' q188_ (Kd.R_base ho0) hb)
   have n1_ := am_ (Kd.R_elder' q189_ (Kd.R_base ho0) hb)
   have n2_ := am_ (Kd.R_elder' q190_ (Kd.R_base ho0) hb)
   have n3_ := am_ (Kd.R_elder' q191_ (Kd.R_base ho0) hb)
   have n4_ := am_ (Kd.R_lower (Kd.R_new' (Kd.R_new' (Kd.R_new' (Kd.R_new' ho0 (Kd.R_lt q188_)) (Kd.R_lt q189_)) (Kd.R_lt q190_)) (Kd.R_lt q191_)) (below_size q22_))
   have n5_ := am_ (IsS54.below q20_ hb)
   have n6_ := am_ (blk_below (g := gb314) (o := .cells #[.int .i64 t307, .int .i64 t308, .int .i64 t309, .slice Ao21 t310.length co21] 26 (0, 0)) q163_ hb)
   have n7_ := am_ (blk_below (g := gb322) (o := .cells #[.int .i64 t315, .int .i64 t316, .int .i64 t317, .slice Ao27 t318.length co27] 26 (0, 0)) q164_ hb)
   have n8_ := am_ (blk_below (g := gb329) (o := .cells #[.int .i64 t323, .int .i64 t324, .int .i64 t325, .slice Ao35 t326.length co35] 26 (0, 0)) q165_ hb)
   have n9_ := am_ (blk_below (g := gb335) (o := .cells #[.int .i64 t330, .int .i64 t331, .int .i64 t332, .int .i64 t333] 31 (0, 0)) q166_ hb)
   have n10_ := am_ (blk_below (g := gb343) (o := .cells #[.int .i64 t336, .int .i64 t337, .int .i64 t338, .slice Ao53 t339.length co53] 26 (0, 0)) q167_ hb)
   have n11_ := am_ (blk_below (g := gb357) (o := .cells #[.int .i64 0, .int .i64 0, .int .i64 0, .slice none 0 0] 26 (0, 0)) q168_ hb)
   have n12_ := am_ (below_step q22_ hb)
   clear HO312
   clear HO320
   clear HO328
   clear HO341
   clear HI302
   clear BK314
   clear BK322
   clear BK329
   clear BK335
   clear BK343
   clear BK357
   clear HB
   have HO312 := n0_
   have HO320 := n1_
   have HO328 := n2_
   have HO341 := n3_
   have HO349 := n4_
   have HI302 := n5_
   have BK314 := n6_
   have BK322 := n7_
   have BK329 := n8_
   have BK335 := n9_
   have BK343 := n10_
   have BK357 := n11_
   have HB := n12_
   clear n0_ n1_ n2_ n3_ n4_ n5_ n6_ n7_ n8_ n9_ n10_ n11_ n12_
   (try clear hb)
   (try clear hb2)
   (try clear hk)
   (try clear hi)
   (try clear ho0)
   obtain ⟨Ao58, co58, eo58⟩ := Kd.R_slice HO349.out
   (first | subst eo58 | (injection eo58 with f1_ f2_ f3_; have f4_ := f1_.symm; have f5_ := f3_.symm; clear f1_ f2_ f3_; subst f4_; subst f5_))
   refine hK.out _ _ ⟨(blk_cell BK314.out 0).trans rfl, (blk_cell BK314.out 1).trans rfl, (blk_cell BK314.out 2).trans rfl, (blk_cell BK314.out 3).trans rfl, (blk_cell BK343.out 0).trans rfl, (blk_cell BK343.out 1).trans rfl, (blk_cell BK343.out 2).trans rfl, (blk_cell BK343.out 3).trans rfl, (blk_cell BK335.out 0).trans rfl, (blk_cell BK335.out 1).trans rfl, (blk_cell BK335.out 2).trans rfl, (blk_cell BK335.out 3).trans rfl⟩ (fun hHeld => ?_)
   clear hK K
   refine norm_ (a' := ?_) ?_ ?_
   rotate_left
   ·show Act.put _ (some 48) _ = _
    simp only [Act.put, List.setIfInBounds_toArray, List.set_cons_zero, List.set_cons_succ, i64_w, i32_w]
    rfl
   refine one_ (i := 7) (N := some 53) #[true, true, true, true, true, true, true, true, false, false, false, true, false, false] rfl rfl (one_of HT_.out (by kernel_rfl)) (by decide) (fun K hK => ?_)
   refine goes_ Try.func14 (by kernel_rfl) rfl #[.agg #[.int .i64 t307, .int .i64 t308, .int .i64 t309, .slice Ao21 t310.length co21], .agg #[.int .i64 t344, .int .i64 t345, .int .i64 t346, .slice Ao58 t347.length co58], .int .i64 t330, .int .i64 t331] (by rfl) rfl rfl q130_ ?_
   with_reducible refine (plane_Blit.calls k t307 t308 t309 _ _ t310 t344 t345 t346 _ _ t347 t330 t331 t350 t351 t352 t353 t356 _ ?side1 ?side2 ?side3 ?side4 A11.out).mono ?_
   (case side1 => repeat (first | exact (Kd.R_reads' HO312.out).2.2 | (with_reducible refine Kd.C_alloc ?_ _) | (with_reducible refine Kd.C_drewN ?_ _) | (with_reducible refine Kd.C_drew ?_)))
   (case side2 => exact (Kd.R_reads' HO312.out).2.1)
   (case side3 => repeat (first | exact (Kd.R_reads' HO349.out).2.2 | (with_reducible refine Kd.C_alloc ?_ _) | (with_reducible refine Kd.C_drewN ?_ _) | (with_reducible refine Kd.C_drew ?_)))
   (case side4 => exact (Kd.R_reads' HO349.out).2.1)
   rintro e w59 ⟨v354, rfl, ho0, hb⟩
   refine ⟨_, rfl, ?_⟩
   have n0_ := am_ (Kd.R_elder' q188_ (Kd.R_base ho0) hb)
   have n1_ := am_ (Kd.R_elder' q189_ (Kd.R_base ho0) hb)
   have n2_ := am_ (Kd.R_elder' q190_ (Kd.R_base ho0) hb)
   have n3_ := am_ (Kd.R_elder' q191_ (Kd.R_base ho0) hb)
   have n4_ := am_ (Kd.R_elder' q192_ (Kd.R_base ho0) hb)
   have n5_ := am_ (Kd.R_lower (Kd.R_new' (Kd.R_new' (Kd.R_new' (Kd.R_new' (Kd.R_new' ho0 (Kd.R_lt q188_)) (Kd.R_lt q189_)) (Kd.R_lt q190_)) (Kd.R_lt q191_)) (Kd.R_lt q192_)) (below_size q22_))
   have n6_ := am_ (IsS54.below q20_ hb)
   have n7_ := am_ (blk_below (g := gb314) (o := .cells #[.int .i64 t307, .int .i64 t308, .int .i64 t309, .slice Ao21 t310.length co21] 26 (0, 0)) q163_ hb)
   have n8_ := am_ (blk_below (g := gb322) (o := .cells #[.int .i64 t315, .int .i64 t316, .int .i64 t317, .slice Ao27 t318.length co27] 26 (0, 0)) q164_ hb)
   have n9_ := am_ (blk_below (g := gb329) (o := .cells #[.int .i64 t323, .int .i64 t324, .int .i64 t325, .slice Ao35 t326.length co35] 26 (0, 0)) q165_ hb)
   have n10_ := am_ (blk_below (g := gb335) (o := .cells #[.int .i64 t330, .int .i64 t331, .int .i64 t332, .int .i64 t333] 31 (0, 0)) q166_ hb)
   have n11_ := am_ (blk_below (g := gb343) (o := .cells #[.int .i64 t336, .int .i64 t337, .int .i64 t338, .slice Ao53 t339.length co53] 26 (0, 0)) q167_ hb)
   have n12_ := am_ (blk_below (g := gb357) (o := .cells #[.int .i64 0, .int .i64 0, .int .i64 0, .slice none 0 0] 26 (0, 0)) q168_ hb)
   have n13_ := am_ (below_step q22_ hb)
   clear HO312
   clear HO320
   clear HO328
   clear HO341
   clear HO349
   clear HI302
   clear BK314
   clear BK322
   clear BK329
   clear BK335
   clear BK343
   clear BK357
   clear HB
   have HO312 := n0_
   have HO320 := n1_
   have HO328 := n2_
   have HO341 := n3_
   have HO349 := n4_
   have HO355 := n5_
   have HI302 := n6_
   have BK314 := n7_
   have BK322 := n8_
   have BK329 := n9_
   have BK335 := n10_
   have BK343 := n11_
   have BK357 := n12_
   have HB := n13_
   clear n0_ n1_ n2_ n3_ n4_ n5_ n6_ n7_ n8_ n9_ n10_ n11_ n12_ n13_
   (try clear hb)
   (try clear hb2)
   (try clear hk)
   (try clear hi)
   (try clear ho0)
   refine hK.out _ _ ⟨(blk_cell BK314.out 0).trans rfl, (blk_cell BK314.out 1).trans rfl, (blk_cell BK314.out 2).trans rfl, (blk_cell BK314.out 3).trans rfl, (blk_cell BK343.out 0).trans rfl, (blk_cell BK343.out 1).trans rfl, (blk_cell BK343.out 2).trans rfl, (blk_cell BK343.out 3).trans rfl, (blk_cell BK335.out 0).trans rfl, (blk_cell BK335.out 1).trans rfl, (blk_cell BK335.out 2).trans rfl, (blk_cell BK335.out 3).trans rfl⟩ (fun hHeld => ?_)
   clear hK K
   refine norm_ (a' := ?_) ?_ ?_
   rotate_left
   ·show Act.put _ (some 53) _ = _
    simp only [Act.put, List.setIfInBounds_toArray, List.set_cons_zero, List.set_cons_succ, i64_w, i32_w]
    rfl
   refine pure_ (i := 8) (N := some 45) (v := ?_) (a' := ?_) #[true, true, true, true, true, true, true, true, true, false, false, true, false, false] rfl rfl (any_of HT_.out (by kernel_rfl)) (fun _ _ _ h => h) (Or.inl ⟨by rfl, ?_⟩) ?_ ?_
   rotate_left
   ·intro w'
    go_simp
    with_reducible rfl
   rotate_left
   ·simp only [Act.put, List.setIfInBounds_toArray, List.set_cons_zero, List.set_cons_succ, i64_w, i32_w]
    rfl
   refine pure_ (i := 9) (N := some 54) (v := ?_) (a' := ?_) #[true, true, true, true, true, true, true, true, true, true, false, true, false, false] rfl rfl (any_of HT_.out (by kernel_rfl)) (fun _ _ _ h => h) (Or.inl ⟨by rfl, ?_⟩) ?_ ?_
   rotate_left
   ·intro w'
    go_simp
    with_reducible rfl
   rotate_left
   ·simp only [Act.put, List.setIfInBounds_toArray, List.set_cons_zero, List.set_cons_succ, i64_w, i32_w]
    rfl
   refine pure_ (i := 10) (N := some 55) (v := ?_) (a' := ?_) #[true, true, true, true, true, true, true, true, true, true, true, true, false, false] rfl rfl (any_of HT_.out (by kernel_rfl)) (fun _ _ _ h => h) (Or.inl ⟨by rfl, ?_⟩) ?_ ?_
   rotate_left
   ·intro w'
    go_simp
    with_reducible rfl
   rotate_left
   ·simp only [Act.put, List.setIfInBounds_toArray, List.set_cons_zero, List.set_cons_succ, i64_w, i32_w]
    rfl
   exact norm_ q194_ (hCont (.slice Ao58 t347.length co58, v354, gb357) _ ⟨hHeld, q97_, q98_, q99_, q100_, q95_, q96_, q163_, q164_, q165_, q166_, q167_, q168_, GW357.out, GE357.out, NB302_357.out, NB357_302.out, NB314_357.out, NB357_314.out, NB322_357.out, NB357_322.out, NB329_357.out, NB357_329.out, NB335_357.out, NB357_335.out, NB343_357.out, NB357_343.out, q20_, q22_⟩)
 rintro ⟨v348, v354, gb357⟩ w60 ⟨hS_, h0_, h1_, h2_, h3_, h4_, h5_, h6_, h7_, h8_, h9_, h10_, h11_, h12_, h13_, h14_, h15_, h16_, h17_, h18_, h19_, h20_, h21_, h22_, h23_, h24_, h25_, h26_, h27_⟩
 have n0_ : Aside0 (Kd.R (Kd.int .i64) 3 w60 w.heap.size (fun k_ => some k_ ≠ (.slice Ao27 t318.length co27 : Value).ownBlock ∧ some k_ ≠ (.slice Ao35 t326.length co35 : Value).ownBlock ∧ some k_ ≠ (.slice Ao53 t339.length co53 : Value).ownBlock ∧ some k_ ≠ (v348 : Value).ownBlock ∧ some k_ ≠ (v354 : Value).ownBlock) (.slice Ao21 t310.length co21) t310) := ⟨h0_⟩
 have n1_ : Aside0 (Kd.R (Kd.int .i64) 3 w60 w.heap.size (fun k_ => some k_ ≠ (.slice Ao21 t310.length co21 : Value).ownBlock ∧ some k_ ≠ (.slice Ao35 t326.length co35 : Value).ownBlock ∧ some k_ ≠ (.slice Ao53 t339.length co53 : Value).ownBlock ∧ some k_ ≠ (v348 : Value).ownBlock ∧ some k_ ≠ (v354 : Value).ownBlock) (.slice Ao27 t318.length co27) t318) := ⟨h1_⟩
 have n2_ : Aside0 (Kd.R (Kd.int .i64) 3 w60 w.heap.size (fun k_ => some k_ ≠ (.slice Ao21 t310.length co21 : Value).ownBlock ∧ some k_ ≠ (.slice Ao27 t318.length co27 : Value).ownBlock ∧ some k_ ≠ (.slice Ao53 t339.length co53 : Value).ownBlock ∧ some k_ ≠ (v348 : Value).ownBlock ∧ some k_ ≠ (v354 : Value).ownBlock) (.slice Ao35 t326.length co35) t326) := ⟨h2_⟩
 have n3_ : Aside0 (Kd.R (Kd.int .i64) 3 w60 w.heap.size (fun k_ => some k_ ≠ (.slice Ao21 t310.length co21 : Value).ownBlock ∧ some k_ ≠ (.slice Ao27 t318.length co27 : Value).ownBlock ∧ some k_ ≠ (.slice Ao35 t326.length co35 : Value).ownBlock ∧ some k_ ≠ (v348 : Value).ownBlock ∧ some k_ ≠ (v354 : Value).ownBlock) (.slice Ao53 t339.length co53) t339) := ⟨h3_⟩
 have n4_ : Aside0 (Kd.R (Kd.int .i64) 3 w60 w.heap.size (fun k_ => some k_ ≠ (.slice Ao21 t310.length co21 : Value).ownBlock ∧ some k_ ≠ (.slice Ao27 t318.length co27 : Value).ownBlock ∧ some k_ ≠ (.slice Ao35 t326.length co35 : Value).ownBlock ∧ some k_ ≠ (.slice Ao53 t339.length co53 : Value).ownBlock ∧ some k_ ≠ (v354 : Value).ownBlock) v348 t347) := ⟨h4_⟩
 have n5_ : Aside0 (Kd.R (Kd.int .i64) 3 w60 w.heap.size (fun k_ => some k_ ≠ (.slice Ao21 t310.length co21 : Value).ownBlock ∧ some k_ ≠ (.slice Ao27 t318.length co27 : Value).ownBlock ∧ some k_ ≠ (.slice Ao35 t326.length co35 : Value).ownBlock ∧ some k_ ≠ (.slice Ao53 t339.length co53 : Value).ownBlock ∧ some k_ ≠ (v348 : Value).ownBlock) v354 t353) := ⟨h5_⟩
 have n6_ : Aside0 (w60.heap[gb314]? = some (.cells #[.int .i64 t307, .int .i64 t308, .int .i64 t309, .slice Ao21 t310.length co21] 26 (0, 0))) := ⟨h6_⟩
 have n7_ : Aside0 (w60.heap[gb322]? = some (.cells #[.int .i64 t315, .int .i64 t316, .int .i64 t317, .slice Ao27 t318.length co27] 26 (0, 0))) := ⟨h7_⟩
 have n8_ : Aside0 (w60.heap[gb329]? = some (.cells #[.int .i64 t323, .int .i64 t324, .int .i64 t325, .slice Ao35 t326.length co35] 26 (0, 0))) := ⟨h8_⟩
 have n9_ : Aside0 (w60.heap[gb335]? = some (.cells #[.int .i64 t330, .int .i64 t331, .int .i64 t332, .int .i64 t333] 31 (0, 0))) := ⟨h9_⟩
 have n10_ : Aside0 (w60.heap[gb343]? = some (.cells #[.int .i64 t336, .int .i64 t337, .int .i64 t338, .slice Ao53 t339.length co53] 26 (0, 0))) := ⟨h10_⟩
 have n11_ : Aside0 (w60.heap[gb357]? = some (.cells #[.int .i64 0, .int .i64 0, .int .i64 0, .slice none 0 0] 26 (0, 0))) := ⟨h11_⟩
 have n12_ : Aside0 (w.heap.size ≤ gb357) := ⟨h12_⟩
 have n13_ : Aside0 (w.heap.size ≤ gb357) := ⟨h13_⟩
 have n14_ : Aside0 (g302 ≠ gb357) := ⟨h14_⟩
 have n15_ : Aside0 (gb357 ≠ g302) := ⟨h15_⟩
 have n16_ : Aside0 (gb314 ≠ gb357) := ⟨h16_⟩
 have n17_ : Aside0 (gb357 ≠ gb314) := ⟨h17_⟩
 have n18_ : Aside0 (gb322 ≠ gb357) := ⟨h18_⟩
 have n19_ : Aside0 (gb357 ≠ gb322) := ⟨h19_⟩
 have n20_ : Aside0 (gb329 ≠ gb357) := ⟨h20_⟩
 have n21_ : Aside0 (gb357 ≠ gb329) := ⟨h21_⟩
 have n22_ : Aside0 (gb335 ≠ gb357) := ⟨h22_⟩
 have n23_ : Aside0 (gb357 ≠ gb335) := ⟨h23_⟩
 have n24_ : Aside0 (gb343 ≠ gb357) := ⟨h24_⟩
 have n25_ : Aside0 (gb357 ≠ gb343) := ⟨h25_⟩
 have n26_ : Aside0 (IsS54 w w60 g302 t300 t334) := ⟨h26_⟩
 have n27_ : Aside0 (Below w.heap.size w w60) := ⟨h27_⟩
 clear HO312
 clear HO320
 clear HO328
 clear HO341
 clear BK314
 clear BK322
 clear BK329
 clear BK335
 clear BK343
 clear HI302
 clear HB
 clear h0_ h1_ h2_ h3_ h4_ h5_ h6_ h7_ h8_ h9_ h10_ h11_ h12_ h13_ h14_ h15_ h16_ h17_ h18_ h19_ h20_ h21_ h22_ h23_ h24_ h25_ h26_ h27_
 have HO312 := n0_
 have HO320 := n1_
 have HO328 := n2_
 have HO341 := n3_
 have HO349 := n4_
 have HO355 := n5_
 have BK314 := n6_
 have BK322 := n7_
 have BK329 := n8_
 have BK335 := n9_
 have BK343 := n10_
 have BK357 := n11_
 have GW357 := n12_
 have GE357 := n13_
 have NB302_357 := n14_
 have NB357_302 := n15_
 have NB314_357 := n16_
 have NB357_314 := n17_
 have NB322_357 := n18_
 have NB357_322 := n19_
 have NB329_357 := n20_
 have NB357_329 := n21_
 have NB335_357 := n22_
 have NB357_335 := n23_
 have NB343_357 := n24_
 have NB357_343 := n25_
 have HI302 := n26_
 have HB := n27_
 clear n0_ n1_ n2_ n3_ n4_ n5_ n6_ n7_ n8_ n9_ n10_ n11_ n12_ n13_ n14_ n15_ n16_ n17_ n18_ n19_ n20_ n21_ n22_ n23_ n24_ n25_ n26_ n27_
 have hHeld : w60.cell? ⟨gb314, 0, none⟩ = some (.int .i64 t307) ∧ w60.cell? ⟨gb314, 1, none⟩ = some (.int .i64 t308) ∧ w60.cell? ⟨gb314, 2, none⟩ = some (.int .i64 t309) ∧ w60.cell? ⟨gb314, 3, none⟩ = some (.slice Ao21 t310.length co21) ∧ w60.cell? ⟨gb343, 0, none⟩ = some (.int .i64 t336) ∧ w60.cell? ⟨gb343, 1, none⟩ = some (.int .i64 t337) ∧ w60.cell? ⟨gb343, 2, none⟩ = some (.int .i64 t338) ∧ w60.cell? ⟨gb343, 3, none⟩ = some (.slice Ao53 t339.length co53) ∧ w60.cell? ⟨gb335, 0, none⟩ = some (.int .i64 t330) ∧ w60.cell? ⟨gb335, 1, none⟩ = some (.int .i64 t331) ∧ w60.cell? ⟨gb335, 2, none⟩ = some (.int .i64 t332) ∧ w60.cell? ⟨gb335, 3, none⟩ = some (.int .i64 t333) := hS_
 obtain ⟨Ao64, co64, eo64⟩ := Kd.R_slice HO355.out
 (first | subst eo64 | (injection eo64 with f1_ f2_ f3_; have f4_ := f1_.symm; have f5_ := f3_.symm; clear f1_ f2_ f3_; subst f4_; subst f5_))
 refine norm_ (a' := ?_) ?_ ?_
 rotate_left
 ·simp only [putAll, Act.put, List.setIfInBounds_toArray, List.set_cons_zero, List.set_cons_succ]
  rfl
 refine one_ (i := 12) (N := none) #[true, true, true, true, true, true, true, true, true, true, true, true, true, false] rfl rfl (one_of HT_.out (by kernel_rfl)) (by decide) (fun K hK => ?_)
 have hs61 : w60.cell? ⟨gb357, 0, none⟩ = some (.int .i64 0) := (blk_cell BK357.out 0).trans rfl
 have hfs61 := blk_frozen BK357.out 0
 have hns61_0 := NB314_357.out
 have hns61_1 := NB322_357.out
 have hns61_2 := NB329_357.out
 have hns61_3 := NB335_357.out
 have hns61_4 := NB343_357.out
 have hms61_0 := NB357_314.out
 have hms61_1 := NB357_322.out
 have hms61_2 := NB357_329.out
 have hms61_3 := NB357_335.out
 have hms61_4 := NB357_343.out
 have hs62 : w60.cell? ⟨gb357, 1, none⟩ = some (.int .i64 0) := (blk_cell BK357.out 1).trans rfl
 have hfs62 := blk_frozen BK357.out 1
 have hns62_0 := NB314_357.out
 have hns62_1 := NB322_357.out
 have hns62_2 := NB329_357.out
 have hns62_3 := NB335_357.out
 have hns62_4 := NB343_357.out
 have hms62_0 := NB357_314.out
 have hms62_1 := NB357_322.out
 have hms62_2 := NB357_329.out
 have hms62_3 := NB357_335.out
 have hms62_4 := NB357_343.out
 have hs63 : w60.cell? ⟨gb357, 2, none⟩ = some (.int .i64 0) := (blk_cell BK357.out 2).trans rfl
 have hfs63 := blk_frozen BK357.out 2
 have hns63_0 := NB314_357.out
 have hns63_1 := NB322_357.out
 have hns63_2 := NB329_357.out
 have hns63_3 := NB335_357.out
 have hns63_4 := NB343_357.out
 have hms63_0 := NB357_314.out
 have hms63_1 := NB357_322.out
 have hms63_2 := NB357_329.out
 have hms63_3 := NB357_335.out
 have hms63_4 := NB357_343.out
 have hs65 : w60.cell? ⟨gb357, 3, none⟩ = some (.slice none 0 0) := (blk_cell BK357.out 3).trans rfl
 have hfs65 := blk_frozen BK357.out 3
 have hns65_0 := NB314_357.out
 have hns65_1 := NB322_357.out
 have hns65_2 := NB329_357.out
 have hns65_3 := NB335_357.out
 have hns65_4 := NB343_357.out
 have hms65_0 := NB357_314.out
 have hms65_1 := NB357_322.out
 have hms65_2 := NB357_329.out
 have hms65_3 := NB357_335.out
 have hms65_4 := NB357_343.out
 refine skip_ (w1 := ?_) (by rfl) rfl ?_ ?_
 rotate_left
 ·go_simp
  rfl
 refine hK.out _ _ ⟨((cell_far (p := ⟨gb357, _, none⟩) NB314_357.out _).trans (((cell_far (p := ⟨gb357, _, none⟩) NB314_357.out _).trans (((cell_far (p := ⟨gb357, _, none⟩) NB314_357.out _).trans (((cell_far (p := ⟨gb357, _, none⟩) NB314_357.out _).trans (hHeld.1)))))))), ((cell_far (p := ⟨gb357, _, none⟩) NB314_357.out _).trans (((cell_far (p := ⟨gb357, _, none⟩) NB314_357.out _).trans (((cell_far (p := ⟨gb357, _, none⟩) NB314_357.out _).trans (((cell_far (p := ⟨gb357, _, none⟩) NB314_357.out _).trans (hHeld.2.1)))))))), ((cell_far (p := ⟨gb357, _, none⟩) NB314_357.out _).trans (((cell_far (p := ⟨gb357, _, none⟩) NB314_357.out _).trans (((cell_far (p := ⟨gb357, _, none⟩) NB314_357.out _).trans (((cell_far (p := ⟨gb357, _, none⟩) NB314_357.out _).trans (hHeld.2.2.1)))))))), ((cell_far (p := ⟨gb357, _, none⟩) NB314_357.out _).trans (((cell_far (p := ⟨gb357, _, none⟩) NB314_357.out _).trans (((cell_far (p := ⟨gb357, _, none⟩) NB314_357.out _).trans (((cell_far (p := ⟨gb357, _, none⟩) NB314_357.out _).trans (hHeld.2.2.2.1)))))))), ((cell_far (p := ⟨gb357, _, none⟩) NB343_357.out _).trans (((cell_far (p := ⟨gb357, _, none⟩) NB343_357.out _).trans (((cell_far (p := ⟨gb357, _, none⟩) NB343_357.out _).trans (((cell_far (p := ⟨gb357, _, none⟩) NB343_357.out _).trans (hHeld.2.2.2.2.1)))))))), ((cell_far (p := ⟨gb357, _, none⟩) NB343_357.out _).trans (((cell_far (p := ⟨gb357, _, none⟩) NB343_357.out _).trans (((cell_far (p := ⟨gb357, _, none⟩) NB343_357.out _).trans (((cell_far (p := ⟨gb357, _, none⟩) NB343_357.out _).trans (hHeld.2.2.2.2.2.1)))))))), ((cell_far (p := ⟨gb357, _, none⟩) NB343_357.out _).trans (((cell_far (p := ⟨gb357, _, none⟩) NB343_357.out _).trans (((cell_far (p := ⟨gb357, _, none⟩) NB343_357.out _).trans (((cell_far (p := ⟨gb357, _, none⟩) NB343_357.out _).trans (hHeld.2.2.2.2.2.2.1)))))))), ((cell_far (p := ⟨gb357, _, none⟩) NB343_357.out _).trans (((cell_far (p := ⟨gb357, _, none⟩) NB343_357.out _).trans (((cell_far (p := ⟨gb357, _, none⟩) NB343_357.out _).trans (((cell_far (p := ⟨gb357, _, none⟩) NB343_357.out _).trans (hHeld.2.2.2.2.2.2.2.1)))))))), ((cell_far (p := ⟨gb357, _, none⟩) NB335_357.out _).trans (((cell_far (p := ⟨gb357, _, none⟩) NB335_357.out _).trans (((cell_far (p := ⟨gb357, _, none⟩) NB335_357.out _).trans (((cell_far (p := ⟨gb357, _, none⟩) NB335_357.out _).trans (hHeld.2.2.2.2.2.2.2.2.1)))))))), ((cell_far (p := ⟨gb357, _, none⟩) NB335_357.out _).trans (((cell_far (p := ⟨gb357, _, none⟩) NB335_357.out _).trans (((cell_far (p := ⟨gb357, _, none⟩) NB335_357.out _).trans (((cell_far (p := ⟨gb357, _, none⟩) NB335_357.out _).trans (hHeld.2.2.2.2.2.2.2.2.2.1)))))))), ((cell_far (p := ⟨gb357, _, none⟩) NB335_357.out _).trans (((cell_far (p := ⟨gb357, _, none⟩) NB335_357.out _).trans (((cell_far (p := ⟨gb357, _, none⟩) NB335_357.out _).trans (((cell_far (p := ⟨gb357, _, none⟩) NB335_357.out _).trans (hHeld.2.2.2.2.2.2.2.2.2.2.1)))))))), ((cell_far (p := ⟨gb357, _, none⟩) NB335_357.out _).trans (((cell_far (p := ⟨gb357, _, none⟩) NB335_357.out _).trans (((cell_far (p := ⟨gb357, _, none⟩) NB335_357.out _).trans (((cell_far (p := ⟨gb357, _, none⟩) NB335_357.out _).trans (hHeld.2.2.2.2.2.2.2.2.2.2.2))))))))⟩ (fun hHeld => ?_)
 clear hK K
 refine pure_ (i := 13) (N := some 11) (v := ?_) (a' := ?_) #[true, true, true, true, true, true, true, true, true, true, true, true, true, true] rfl rfl (any_of HT_.out (by kernel_rfl)) (fun _ _ _ h => h) (Or.inl ⟨by rfl, ?_⟩) ?_ ?_
 rotate_left
 ·intro w'
  go_simp
  with_reducible rfl
 rotate_left
 ·simp only [Act.put, List.setIfInBounds_toArray, List.set_cons_zero, List.set_cons_succ, i64_w, i32_w]
  rfl
 refine done_ (done_of HT_.out (by kernel_rfl)) ?_
 have hnb66 := NB322_357.out
 have hnc66 := NB357_322.out
 have hcz67_0 : w60.cell? ⟨gb322, 0, none⟩ = some (.int .i64 t315) := (blk_cell BK322.out 0).trans rfl
 have hcz67_1 : w60.cell? ⟨gb322, 1, none⟩ = some (.int .i64 t316) := (blk_cell BK322.out 1).trans rfl
 have hcz67_2 : w60.cell? ⟨gb322, 2, none⟩ = some (.int .i64 t317) := (blk_cell BK322.out 2).trans rfl
 have hcz67_3 : w60.cell? ⟨gb322, 3, none⟩ = some (.slice Ao27 t318.length co27) := (blk_cell BK322.out 3).trans rfl
 have hfz67_0 := blk_frozen BK322.out 0
 have hfz67_1 := blk_frozen BK322.out 1
 have hfz67_2 := blk_frozen BK322.out 2
 have hfz67_3 := blk_frozen BK322.out 3
 go_upto_region 9 with (first | ((with_reducible refine gate_callee (f := 14) rfl ?_); refine goesL_ (some 59) rfl rfl Try.func14 (by kernel_rfl) rfl #[.agg #[.int .i64 t315, .int .i64 t316, .int .i64 t317, .slice Ao27 t318.length co27], .agg #[.int .i64 t315, .int .i64 t316, .int .i64 t317, .slice Ao27 t318.length co27], .int .i64 0, .int .i64 0] rfl q130_ ?_; (with_reducible refine (plane_Blit.calls k t315 t316 t317 _ _ t318 t315 t316 t317 _ _ t318 0 0 t358 t359 t360 t361 t364 _ ?side1 ?side2 ?side3 ?side4 A12.out).mono ?_); (case side1 => refine (Kd.R_reads' (e := 3) (base := w.heap.size) (ok := fun k_ => (some k_ ≠ (.slice Ao21 t310.length co21 : Value).ownBlock ∧ (some k_ ≠ (.slice Ao35 t326.length co35 : Value).ownBlock ∧ (some k_ ≠ (.slice Ao53 t339.length co53 : Value).ownBlock ∧ (some k_ ≠ (v348 : Value).ownBlock ∧ some k_ ≠ (.slice Ao64 t353.length co64 : Value).ownBlock))))) (n := t318.length) (c := co27) ?_).2.2; exact q14_); (case side2 => exact (Kd.R_reads' HO320.out).2.1); (case side3 => refine (Kd.R_reads' (e := 3) (base := w.heap.size) (ok := fun k_ => (some k_ ≠ (.slice Ao21 t310.length co21 : Value).ownBlock ∧ (some k_ ≠ (.slice Ao35 t326.length co35 : Value).ownBlock ∧ (some k_ ≠ (.slice Ao53 t339.length co53 : Value).ownBlock ∧ (some k_ ≠ (v348 : Value).ownBlock ∧ some k_ ≠ (.slice Ao64 t353.length co64 : Value).ownBlock))))) (n := t318.length) (c := co27) ?_).2.2; exact q14_); (case side4 => exact (Kd.R_reads' HO320.out).2.1); rintro e w68 ⟨v362, rfl, ho0, hb⟩; refine ⟨_, rfl, ?_⟩; have n0_ := am_ (Kd.R_elder' (by (with_reducible repeat (first | apply Kd.R_alloc | apply Kd.R_drewN | apply Kd.R_drew)); exact (Kd.R_mono (Kd.R_far (p := ⟨gb357, 3, none⟩) (Kd.R_far (p := ⟨gb357, 2, none⟩) (Kd.R_far (p := ⟨gb357, 1, none⟩) (Kd.R_far (p := ⟨gb357, 0, none⟩) (Kd.R_types HO312.out BK357.out (by decide)) (fun _ hk => hk.2) (.int .i64 t350)) (fun _ hk => hk.2) (.int .i64 t351)) (fun _ hk => hk.2) (.int .i64 t352)) (fun _ hk => hk.2) (.slice Ao64 t353.length co64)) (fun _ h_ => h_.1))) (Kd.R_base ho0) hb); have n1_ := am_ (Kd.R_elder' q14_ (Kd.R_base ho0) hb); have n2_ := am_ (Kd.R_elder' (by (with_reducible repeat (first | apply Kd.R_alloc | apply Kd.R_drewN | apply Kd.R_drew)); exact (Kd.R_mono (Kd.R_far (p := ⟨gb357, 3, none⟩) (Kd.R_far (p := ⟨gb357, 2, none⟩) (Kd.R_far (p := ⟨gb357, 1, none⟩) (Kd.R_far (p := ⟨gb357, 0, none⟩) (Kd.R_types HO328.out BK357.out (by decide)) (fun _ hk => hk.2) (.int .i64 t350)) (fun _ hk => hk.2) (.int .i64 t351)) (fun _ hk => hk.2) (.int .i64 t352)) (fun _ hk => hk.2) (.slice Ao64 t353.length co64)) (fun _ h_ => h_.1))) (Kd.R_base ho0) hb); have n3_ := am_ (Kd.R_elder' (by (with_reducible repeat (first | apply Kd.R_alloc | apply Kd.R_drewN | apply Kd.R_drew)); exact (Kd.R_mono (Kd.R_far (p := ⟨gb357, 3, none⟩) (Kd.R_far (p := ⟨gb357, 2, none⟩) (Kd.R_far (p := ⟨gb357, 1, none⟩) (Kd.R_far (p := ⟨gb357, 0, none⟩) (Kd.R_types HO341.out BK357.out (by decide)) (fun _ hk => hk.2) (.int .i64 t350)) (fun _ hk => hk.2) (.int .i64 t351)) (fun _ hk => hk.2) (.int .i64 t352)) (fun _ hk => hk.2) (.slice Ao64 t353.length co64)) (fun _ h_ => h_.1))) (Kd.R_base ho0) hb); have n4_ := am_ (Kd.R_elder' (by (with_reducible repeat (first | apply Kd.R_alloc | apply Kd.R_drewN | apply Kd.R_drew)); exact (Kd.R_mono (Kd.R_far (p := ⟨gb357, 3, none⟩) (Kd.R_far (p := ⟨gb357, 2, none⟩) (Kd.R_far (p := ⟨gb357, 1, none⟩) (Kd.R_far (p := ⟨gb357, 0, none⟩) (Kd.R_types HO349.out BK357.out (by decide)) (fun _ hk => hk.2) (.int .i64 t350)) (fun _ hk => hk.2) (.int .i64 t351)) (fun _ hk => hk.2) (.int .i64 t352)) (fun _ hk => hk.2) (.slice Ao64 t353.length co64)) (fun _ h_ => h_.1))) (Kd.R_base ho0) hb); have n5_ := am_ (Kd.R_elder' (by (with_reducible repeat (first | apply Kd.R_alloc | apply Kd.R_drewN | apply Kd.R_drew)); exact (Kd.R_mono (Kd.R_far (p := ⟨gb357, 3, none⟩) (Kd.R_far (p := ⟨gb357, 2, none⟩) (Kd.R_far (p := ⟨gb357, 1, none⟩) (Kd.R_far (p := ⟨gb357, 0, none⟩) (Kd.R_types HO355.out BK357.out (by decide)) (fun _ hk => hk.2) (.int .i64 t350)) (fun _ hk => hk.2) (.int .i64 t351)) (fun _ hk => hk.2) (.int .i64 t352)) (fun _ hk => hk.2) (.slice Ao64 t353.length co64)) (fun _ h_ => h_.1))) (Kd.R_base ho0) hb); have n6_ := am_ (Kd.R_lower (Kd.R_new' (Kd.R_new' (Kd.R_new' (Kd.R_new' (Kd.R_new' (Kd.R_new' ho0 (Kd.R_lt (by (with_reducible repeat (first | apply Kd.R_alloc | apply Kd.R_drewN | apply Kd.R_drew)); exact (Kd.R_mono (Kd.R_far (p := ⟨gb357, 3, none⟩) (Kd.R_far (p := ⟨gb357, 2, none⟩) (Kd.R_far (p := ⟨gb357, 1, none⟩) (Kd.R_far (p := ⟨gb357, 0, none⟩) (Kd.R_types HO312.out BK357.out (by decide)) (fun _ hk => hk.2) (.int .i64 t350)) (fun _ hk => hk.2) (.int .i64 t351)) (fun _ hk => hk.2) (.int .i64 t352)) (fun _ hk => hk.2) (.slice Ao64 t353.length co64)) (fun _ h_ => h_.1))))) (Kd.R_lt q14_)) (Kd.R_lt (by (with_reducible repeat (first | apply Kd.R_alloc | apply Kd.R_drewN | apply Kd.R_drew)); exact (Kd.R_mono (Kd.R_far (p := ⟨gb357, 3, none⟩) (Kd.R_far (p := ⟨gb357, 2, none⟩) (Kd.R_far (p := ⟨gb357, 1, none⟩) (Kd.R_far (p := ⟨gb357, 0, none⟩) (Kd.R_types HO328.out BK357.out (by decide)) (fun _ hk => hk.2) (.int .i64 t350)) (fun _ hk => hk.2) (.int .i64 t351)) (fun _ hk => hk.2) (.int .i64 t352)) (fun _ hk => hk.2) (.slice Ao64 t353.length co64)) (fun _ h_ => h_.1))))) (Kd.R_lt (by (with_reducible repeat (first | apply Kd.R_alloc | apply Kd.R_drewN | apply Kd.R_drew)); exact (Kd.R_mono (Kd.R_far (p := ⟨gb357, 3, none⟩) (Kd.R_far (p := ⟨gb357, 2, none⟩) (Kd.R_far (p := ⟨gb357, 1, none⟩) (Kd.R_far (p := ⟨gb357, 0, none⟩) (Kd.R_types HO341.out BK357.out (by decide)) (fun _ hk => hk.2) (.int .i64 t350)) (fun _ hk => hk.2) (.int .i64 t351)) (fun _ hk => hk.2) (.int .i64 t352)) (fun _ hk => hk.2) (.slice Ao64 t353.length co64)) (fun _ h_ => h_.1))))) (Kd.R_lt (by (with_reducible repeat (first | apply Kd.R_alloc | apply Kd.R_drewN | apply Kd.R_drew)); exact (Kd.R_mono (Kd.R_far (p := ⟨gb357, 3, none⟩) (Kd.R_far (p := ⟨gb357, 2, none⟩) (Kd.R_far (p := ⟨gb357, 1, none⟩) (Kd.R_far (p := ⟨gb357, 0, none⟩) (Kd.R_types HO349.out BK357.out (by decide)) (fun _ hk => hk.2) (.int .i64 t350)) (fun _ hk => hk.2) (.int .i64 t351)) (fun _ hk => hk.2) (.int .i64 t352)) (fun _ hk => hk.2) (.slice Ao64 t353.length co64)) (fun _ h_ => h_.1))))) (Kd.R_lt (by (with_reducible repeat (first | apply Kd.R_alloc | apply Kd.R_drewN | apply Kd.R_drew)); exact (Kd.R_mono (Kd.R_far (p := ⟨gb357, 3, none⟩) (Kd.R_far (p := ⟨gb357, 2, none⟩) (Kd.R_far (p := ⟨gb357, 1, none⟩) (Kd.R_far (p := ⟨gb357, 0, none⟩) (Kd.R_types HO355.out BK357.out (by decide)) (fun _ hk => hk.2) (.int .i64 t350)) (fun _ hk => hk.2) (.int .i64 t351)) (fun _ hk => hk.2) (.int .i64 t352)) (fun _ hk => hk.2) (.slice Ao64 t353.length co64)) (fun _ h_ => h_.1))))) (below_size q22_)); have n7_ := am_ (IsS54.below (show IsS54 w ((((w60.setCell ⟨gb357, 0, none⟩ (.int .i64 t350)).setCell ⟨gb357, 1, none⟩ (.int .i64 t351)).setCell ⟨gb357, 2, none⟩ (.int .i64 t352)).setCell ⟨gb357, 3, none⟩ (.slice Ao64 t353.length co64)) g302 t300 t334 from by repeat (first | (with_reducible first | exact HI302.out | apply IsS54.alloc | apply IsS54.drewN | apply IsS54.drew | apply IsS54.set_1 | refine IsS54.far ?_ NB302_314.out _ | refine IsS54.far ?_ NB302_322.out _ | refine IsS54.far ?_ NB302_329.out _ | refine IsS54.far ?_ NB302_335.out _ | refine IsS54.far ?_ NB302_343.out _ | refine IsS54.far ?_ NB302_357.out _) | exact HI302.out)) hb); have n8_ := am_ (blk_below (g := gb314) (o := .cells #[.int .i64 t307, .int .i64 t308, .int .i64 t309, .slice Ao21 t310.length co21] 26 (0, 0)) (by (with_reducible repeat (first | refine blk_drewN ?_ _ | refine blk_drew ?_ | refine blk_alloc ?_ _)); refine blk_far ?_ NB314_357.out _; (with_reducible repeat (first | refine blk_drewN ?_ _ | refine blk_drew ?_ | refine blk_alloc ?_ _)); refine blk_far ?_ NB314_357.out _; (with_reducible repeat (first | refine blk_drewN ?_ _ | refine blk_drew ?_ | refine blk_alloc ?_ _)); refine blk_far ?_ NB314_357.out _; (with_reducible repeat (first | refine blk_drewN ?_ _ | refine blk_drew ?_ | refine blk_alloc ?_ _)); refine blk_far ?_ NB314_357.out _; (with_reducible repeat (first | refine blk_drewN ?_ _ | refine blk_drew ?_ | refine blk_alloc ?_ _)); exact BK314.out) hb); have n9_ := am_ (blk_below (g := gb322) (o := .cells #[.int .i64 t315, .int .i64 t316, .int .i64 t317, .slice Ao27 t318.length co27] 26 (0, 0)) (by (with_reducible repeat (first | refine blk_drewN ?_ _ | refine blk_drew ?_ | refine blk_alloc ?_ _)); refine blk_far ?_ NB322_357.out _; (with_reducible repeat (first | refine blk_drewN ?_ _ | refine blk_drew ?_ | refine blk_alloc ?_ _)); refine blk_far ?_ NB322_357.out _; (with_reducible repeat (first | refine blk_drewN ?_ _ | refine blk_drew ?_ | refine blk_alloc ?_ _)); refine blk_far ?_ NB322_357.out _; (with_reducible repeat (first | refine blk_drewN ?_ _ | refine blk_drew ?_ | refine blk_alloc ?_ _)); refine blk_far ?_ NB322_357.out _; (with_reducible repeat (first | refine blk_drewN ?_ _ | refine blk_drew ?_ | refine blk_alloc ?_ _)); exact BK322.out) hb); have n10_ := am_ (blk_below (g := gb329) (o := .cells #[.int .i64 t323, .int .i64 t324, .int .i64 t325, .slice Ao35 t326.length co35] 26 (0, 0)) (by (with_reducible repeat (first | refine blk_drewN ?_ _ | refine blk_drew ?_ | refine blk_alloc ?_ _)); refine blk_far ?_ NB329_357.out _; (with_reducible repeat (first | refine blk_drewN ?_ _ | refine blk_drew ?_ | refine blk_alloc ?_ _)); refine blk_far ?_ NB329_357.out _; (with_reducible repeat (first | refine blk_drewN ?_ _ | refine blk_drew ?_ | refine blk_alloc ?_ _)); refine blk_far ?_ NB329_357.out _; (with_reducible repeat (first | refine blk_drewN ?_ _ | refine blk_drew ?_ | refine blk_alloc ?_ _)); refine blk_far ?_ NB329_357.out _; (with_reducible repeat (first | refine blk_drewN ?_ _ | refine blk_drew ?_ | refine blk_alloc ?_ _)); exact BK329.out) hb); have n11_ := am_ (blk_below (g := gb335) (o := .cells #[.int .i64 t330, .int .i64 t331, .int .i64 t332, .int .i64 t333] 31 (0, 0)) (by (with_reducible repeat (first | refine blk_drewN ?_ _ | refine blk_drew ?_ | refine blk_alloc ?_ _)); refine blk_far ?_ NB335_357.out _; (with_reducible repeat (first | refine blk_drewN ?_ _ | refine blk_drew ?_ | refine blk_alloc ?_ _)); refine blk_far ?_ NB335_357.out _; (with_reducible repeat (first | refine blk_drewN ?_ _ | refine blk_drew ?_ | refine blk_alloc ?_ _)); refine blk_far ?_ NB335_357.out _; (with_reducible repeat (first | refine blk_drewN ?_ _ | refine blk_drew ?_ | refine blk_alloc ?_ _)); refine blk_far ?_ NB335_357.out _; (with_reducible repeat (first | refine blk_drewN ?_ _ | refine blk_drew ?_ | refine blk_alloc ?_ _)); exact BK335.out) hb); have n12_ := am_ (blk_below (g := gb343) (o := .cells #[.int .i64 t336, .int .i64 t337, .int .i64 t338, .slice Ao53 t339.length co53] 26 (0, 0)) (by (with_reducible repeat (first | refine blk_drewN ?_ _ | refine blk_drew ?_ | refine blk_alloc ?_ _)); refine blk_far ?_ NB343_357.out _; (with_reducible repeat (first | refine blk_drewN ?_ _ | refine blk_drew ?_ | refine blk_alloc ?_ _)); refine blk_far ?_ NB343_357.out _; (with_reducible repeat (first | refine blk_drewN ?_ _ | refine blk_drew ?_ | refine blk_alloc ?_ _)); refine blk_far ?_ NB343_357.out _; (with_reducible repeat (first | refine blk_drewN ?_ _ | refine blk_drew ?_ | refine blk_alloc ?_ _)); refine blk_far ?_ NB343_357.out _; (with_reducible repeat (first | refine blk_drewN ?_ _ | refine blk_drew ?_ | refine blk_alloc ?_ _)); exact BK343.out) hb); have n13_ := am_ (blk_below (g := gb357) (o := .cells #[.int .i64 t350, .int .i64 t351, .int .i64 t352, .slice Ao64 t353.length co64] 26 (0, 0)) (by (with_reducible repeat (first | refine blk_drewN ?_ _ | refine blk_drew ?_ | refine blk_alloc ?_ _)); refine blk_put (cs := #[.int .i64 t350, .int .i64 t351, .int .i64 t352, .slice none 0 0]) ?_ 3 _ rfl; (with_reducible repeat (first | refine blk_drewN ?_ _ | refine blk_drew ?_ | refine blk_alloc ?_ _)); refine blk_put (cs := #[.int .i64 t350, .int .i64 t351, .int .i64 0, .slice none 0 0]) ?_ 2 _ rfl; (with_reducible repeat (first | refine blk_drewN ?_ _ | refine blk_drew ?_ | refine blk_alloc ?_ _)); refine blk_put (cs := #[.int .i64 t350, .int .i64 0, .int .i64 0, .slice none 0 0]) ?_ 1 _ rfl; (with_reducible repeat (first | refine blk_drewN ?_ _ | refine blk_drew ?_ | refine blk_alloc ?_ _)); refine blk_put (cs := #[.int .i64 0, .int .i64 0, .int .i64 0, .slice none 0 0]) ?_ 0 _ rfl; (with_reducible repeat (first | refine blk_drewN ?_ _ | refine blk_drew ?_ | refine blk_alloc ?_ _)); exact BK357.out) hb); have n14_ := am_ (below_step q22_ hb); clear HO312; clear HO320; clear HO328; clear HO341; clear HO349; clear HO355; clear HI302; clear BK314; clear BK322; clear BK329; clear BK335; clear BK343; clear BK357; clear HB; have HO312 := n0_; have HO320 := n1_; have HO328 := n2_; have HO341 := n3_; have HO349 := n4_; have HO355 := n5_; have HO363 := n6_; have HI302 := n7_; have BK314 := n8_; have BK322 := n9_; have BK329 := n10_; have BK335 := n11_; have BK343 := n12_; have BK357 := n13_; have HB := n14_; clear n0_ n1_ n2_ n3_ n4_ n5_ n6_ n7_ n8_ n9_ n10_ n11_ n12_ n13_ n14_; (try clear ho0)) | ((with_reducible refine gate_dst (N := 12) rfl ?_); refine box_event ?hg (N := 12) ?hd (cs := #[.int .i64 0, .int .i64 0, .int .i64 0, .slice none 0 0]) (t := 26) ?hr ?_; (case hd => rfl); (case hg => rfl); (case hr => first | (go_simp; done) | (go_simp; rfl)); intro gb365 hg w69 hbox hb; have n0_ := am_ (Kd.R_below q188_ hb); have n1_ := am_ (Kd.R_below q189_ hb); have n2_ := am_ (Kd.R_below q190_ hb); have n3_ := am_ (Kd.R_below q191_ hb); have n4_ := am_ (Kd.R_below q192_ hb); have n5_ := am_ (Kd.R_below (by (with_reducible repeat (first | apply Kd.R_alloc | apply Kd.R_drewN | apply Kd.R_drew)); exact HO355.out) hb); have n6_ := am_ (Kd.R_below (by (with_reducible repeat (first | apply Kd.R_alloc | apply Kd.R_drewN | apply Kd.R_drew)); exact HO363.out) hb); have n7_ := am_ (IsS54.below q20_ hb); have n8_ := am_ (blk_below (g := gb314) (o := .cells #[.int .i64 t307, .int .i64 t308, .int .i64 t309, .slice Ao21 t310.length co21] 26 (0, 0)) q163_ hb); have n9_ := am_ (blk_below (g := gb322) (o := .cells #[.int .i64 t315, .int .i64 t316, .int .i64 t317, .slice Ao27 t318.length co27] 26 (0, 0)) q164_ hb); have n10_ := am_ (blk_below (g := gb329) (o := .cells #[.int .i64 t323, .int .i64 t324, .int .i64 t325, .slice Ao35 t326.length co35] 26 (0, 0)) q165_ hb); have n11_ := am_ (blk_below (g := gb335) (o := .cells #[.int .i64 t330, .int .i64 t331, .int .i64 t332, .int .i64 t333] 31 (0, 0)) q166_ hb); have n12_ := am_ (blk_below (g := gb343) (o := .cells #[.int .i64 t336, .int .i64 t337, .int .i64 t338, .slice Ao53 t339.length co53] 26 (0, 0)) q167_ hb); have n13_ := am_ (blk_below (g := gb357) (o := .cells #[.int .i64 t350, .int .i64 t351, .int .i64 t352, .slice Ao64 t353.length co64] 26 (0, 0)) q168_ hb); have n14_ := am_ (below_step q22_ hb); have n15_ := am_ (hbox); have n16_ := am_ ((by rw [hg]; exact (below_size q22_) : w.heap.size ≤ gb365)); have n17_ := am_ ((by rw [hg]; exact (below_size q22_) : w.heap.size ≤ gb365)); have n18_ := am_ ((q39_ : gb314 ≠ gb365)); have n19_ := am_ ((q40_ : gb365 ≠ gb314)); have n20_ := am_ ((q41_ : gb322 ≠ gb365)); have n21_ := am_ ((q42_ : gb365 ≠ gb322)); have n22_ := am_ ((q43_ : gb329 ≠ gb365)); have n23_ := am_ ((q44_ : gb365 ≠ gb329)); have n24_ := am_ ((q56_ : gb335 ≠ gb365)); have n25_ := am_ ((q57_ : gb365 ≠ gb335)); have n26_ := am_ ((q45_ : gb343 ≠ gb365)); have n27_ := am_ ((q46_ : gb365 ≠ gb343)); have n28_ := am_ ((by rw [hg]; exact Nat.ne_of_lt (blk_lt (g := gb357) (o := .cells #[.int .i64 t350, .int .i64 t351, .int .i64 t352, .slice Ao64 t353.length co64] 26 (0, 0)) q168_) : gb357 ≠ gb365)); have n29_ := am_ ((by rw [hg]; exact Nat.ne_of_gt (blk_lt (g := gb357) (o := .cells #[.int .i64 t350, .int .i64 t351, .int .i64 t352, .slice Ao64 t353.length co64] 26 (0, 0)) q168_) : gb365 ≠ gb357)); have n30_ := am_ ((by rw [hg]; exact Nat.ne_of_lt (IsS54.lt (show IsS54 w _ g302 t300 t334 from by repeat (first | (with_reducible first | exact HI302.out | apply IsS54.alloc | apply IsS54.drewN | apply IsS54.drew | apply IsS54.set_1 | refine IsS54.far ?_ NB302_314.out _ | refine IsS54.far ?_ NB302_322.out _ | refine IsS54.far ?_ NB302_329.out _ | refine IsS54.far ?_ NB302_335.out _ | refine IsS54.far ?_ NB302_343.out _ | refine IsS54.far ?_ NB302_357.out _) | exact HI302.out))) : g302 ≠ gb365)); have n31_ := am_ ((by rw [hg]; exact Nat.ne_of_gt (IsS54.lt (show IsS54 w _ g302 t300 t334 from by repeat (first | (with_reducible first | exact HI302.out | apply IsS54.alloc | apply IsS54.drewN | apply IsS54.drew | apply IsS54.set_1 | refine IsS54.far ?_ NB302_314.out _ | refine IsS54.far ?_ NB302_322.out _ | refine IsS54.far ?_ NB302_329.out _ | refine IsS54.far ?_ NB302_335.out _ | refine IsS54.far ?_ NB302_343.out _ | refine IsS54.far ?_ NB302_357.out _) | exact HI302.out))) : gb365 ≠ g302)); clear HO312; clear HO320; clear HO328; clear HO341; clear HO349; clear HO355; clear HO363; clear HI302; clear BK314; clear BK322; clear BK329; clear BK335; clear BK343; clear BK357; clear HB; have HO312 := n0_; have HO320 := n1_; have HO328 := n2_; have HO341 := n3_; have HO349 := n4_; have HO355 := n5_; have HO363 := n6_; have HI302 := n7_; have BK314 := n8_; have BK322 := n9_; have BK329 := n10_; have BK335 := n11_; have BK343 := n12_; have BK357 := n13_; have HB := n14_; have BK365 := n15_; have GW365 := n16_; have GE365 := n17_; have NB314_365 := n18_; have NB365_314 := n19_; have NB322_365 := n20_; have NB365_322 := n21_; have NB329_365 := n22_; have NB365_329 := n23_; have NB335_365 := n24_; have NB365_335 := n25_; have NB343_365 := n26_; have NB365_343 := n27_; have NB357_365 := n28_; have NB365_357 := n29_; have NB302_365 := n30_; have NB365_302 := n31_; clear n0_ n1_ n2_ n3_ n4_ n5_ n6_ n7_ n8_ n9_ n10_ n11_ n12_ n13_ n14_ n15_ n16_ n17_ n18_ n19_ n20_ n21_ n22_ n23_ n24_ n25_ n26_ n27_ n28_ n29_ n30_ n31_; clear hb hbox hg; have hnb70 := NB365_314.out; have hnc70 := NB314_365.out; have hnb71 := NB365_322.out; have hnc71 := NB322_365.out; have hnb72 := NB365_329.out; have hnc72 := NB329_365.out; have hnb73 := NB365_335.out; have hnc73 := NB335_365.out; have hnb74 := NB365_343.out; have hnc74 := NB343_365.out; have hnb75 := NB365_357.out; have hnc75 := NB357_365.out; have hnb76 := NB365_302.out; have hnc76 := NB302_365.out; have hcz77_0 : w69.cell? ⟨gb365, 0, none⟩ = some (.int .i64 0) := (blk_cell BK365.out 0).trans rfl; have hcz77_1 : w69.cell? ⟨gb365, 1, none⟩ = some (.int .i64 0) := (blk_cell BK365.out 1).trans rfl; have hcz77_2 : w69.cell? ⟨gb365, 2, none⟩ = some (.int .i64 0) := (blk_cell BK365.out 2).trans rfl; have hcz77_3 : w69.cell? ⟨gb365, 3, none⟩ = some (.slice none 0 0) := (blk_cell BK365.out 3).trans rfl; have hfz77_0 := blk_frozen BK365.out 0; have hfz77_1 := blk_frozen BK365.out 1; have hfz77_2 := blk_frozen BK365.out 2; have hfz77_3 := blk_frozen BK365.out 3; obtain ⟨Ao78, co78, eo78⟩ := Kd.R_slice HO363.out; subst eo78))
 (try simp only [Act.put, List.setIfInBounds_toArray, List.set_cons_zero, List.set_cons_succ])
 go_cut [71] (fun v71 wc => ∃ (kq : Nat) (x71_12 : Bool), v71 = .bool x71_12 ∧ Aside0 (tilefarmlaw4_PlaneShares.j0 kq x71_12 t307 t308 t309 t310 t315 t316 t317 t318 t323 t324 t325 t326 t330 t331 t332 t333 t336 t337 t338 t339 t350 t351 t352 t353 t358 t359 t360 t361 = some r) ∧ Aside0 (kq ≤ k) ∧ Aside0 (Kd.R (Kd.int .i64) 3 wc w.heap.size (fun k_ => some k_ ≠ ((.slice Ao27 t318.length co27) : Value).ownBlock ∧ some k_ ≠ ((.slice Ao35 t326.length co35) : Value).ownBlock ∧ some k_ ≠ ((.slice Ao53 t339.length co53) : Value).ownBlock ∧ some k_ ≠ ((.slice Ao64 t353.length co64) : Value).ownBlock ∧ some k_ ≠ ((.slice Ao78 t361.length co78) : Value).ownBlock) (.slice Ao21 t310.length co21) t310) ∧ Aside0 (Kd.R (Kd.int .i64) 3 wc w.heap.size (fun k_ => some k_ ≠ ((.slice Ao21 t310.length co21) : Value).ownBlock ∧ some k_ ≠ ((.slice Ao35 t326.length co35) : Value).ownBlock ∧ some k_ ≠ ((.slice Ao53 t339.length co53) : Value).ownBlock ∧ some k_ ≠ ((.slice Ao64 t353.length co64) : Value).ownBlock ∧ some k_ ≠ ((.slice Ao78 t361.length co78) : Value).ownBlock) (.slice Ao27 t318.length co27) t318) ∧ Aside0 (Kd.R (Kd.int .i64) 3 wc w.heap.size (fun k_ => some k_ ≠ ((.slice Ao21 t310.length co21) : Value).ownBlock ∧ some k_ ≠ ((.slice Ao27 t318.length co27) : Value).ownBlock ∧ some k_ ≠ ((.slice Ao53 t339.length co53) : Value).ownBlock ∧ some k_ ≠ ((.slice Ao64 t353.length co64) : Value).ownBlock ∧ some k_ ≠ ((.slice Ao78 t361.length co78) : Value).ownBlock) (.slice Ao35 t326.length co35) t326) ∧ Aside0 (Kd.R (Kd.int .i64) 3 wc w.heap.size (fun k_ => some k_ ≠ ((.slice Ao21 t310.length co21) : Value).ownBlock ∧ some k_ ≠ ((.slice Ao27 t318.length co27) : Value).ownBlock ∧ some k_ ≠ ((.slice Ao35 t326.length co35) : Value).ownBlock ∧ some k_ ≠ ((.slice Ao64 t353.length co64) : Value).ownBlock ∧ some k_ ≠ ((.slice Ao78 t361.length co78) : Value).ownBlock) (.slice Ao53 t339.length co53) t339) ∧ Aside0 (Kd.R (Kd.int .i64) 3 wc w.heap.size (fun k_ => some k_ ≠ ((.slice Ao21 t310.length co21) : Value).ownBlock ∧ some k_ ≠ ((.slice Ao27 t318.length co27) : Value).ownBlock ∧ some k_ ≠ ((.slice Ao35 t326.length co35) : Value).ownBlock ∧ some k_ ≠ ((.slice Ao53 t339.length co53) : Value).ownBlock ∧ some k_ ≠ ((.slice Ao78 t361.length co78) : Value).ownBlock) (.slice Ao64 t353.length co64) t353) ∧ Aside0 (Kd.R (Kd.int .i64) 3 wc w.heap.size (fun k_ => some k_ ≠ ((.slice Ao21 t310.length co21) : Value).ownBlock ∧ some k_ ≠ ((.slice Ao27 t318.length co27) : Value).ownBlock ∧ some k_ ≠ ((.slice Ao35 t326.length co35) : Value).ownBlock ∧ some k_ ≠ ((.slice Ao53 t339.length co53) : Value).ownBlock ∧ some k_ ≠ ((.slice Ao64 t353.length co64) : Value).ownBlock) (.slice Ao78 t361.length co78) t361) ∧ Aside0 (wc.heap[gb314]? = some (.cells #[.int .i64 t307, .int .i64 t308, .int .i64 t309, (.slice Ao21 t310.length co21)] 26 (0, 0))) ∧ Aside0 (wc.heap[gb322]? = some (.cells #[.int .i64 t315, .int .i64 t316, .int .i64 t317, (.slice Ao27 t318.length co27)] 26 (0, 0))) ∧ Aside0 (wc.heap[gb329]? = some (.cells #[.int .i64 t323, .int .i64 t324, .int .i64 t325, (.slice Ao35 t326.length co35)] 26 (0, 0))) ∧ Aside0 (wc.heap[gb335]? = some (.cells #[.int .i64 t330, .int .i64 t331, .int .i64 t332, .int .i64 t333] 31 (0, 0))) ∧ Aside0 (wc.heap[gb343]? = some (.cells #[.int .i64 t336, .int .i64 t337, .int .i64 t338, (.slice Ao53 t339.length co53)] 26 (0, 0))) ∧ Aside0 (wc.heap[gb357]? = some (.cells #[.int .i64 t350, .int .i64 t351, .int .i64 t352, (.slice Ao64 t353.length co64)] 26 (0, 0))) ∧ Aside0 (wc.heap[gb365]? = some (.cells #[.int .i64 t358, .int .i64 t359, .int .i64 t360, (.slice Ao78 t361.length co78)] 26 (0, 0))) ∧ Aside0 (Below w.heap.size w wc))
 case first =>
  have H := HC13.out
  clear HC13
  by_cases c79 : t342 = true
  ·subst c79
   have H1 : (if t356 = true then (tilefarmlaw4_PlaneShares.j0 k (!t364) t307 t308 t309 t310 t315 t316 t317 t318 t323 t324 t325 t326 t330 t331 t332 t333 t336 t337 t338 t339 t350 t351 t352 t353 t358 t359 t360 t361) else (tilefarmlaw4_PlaneShares.j0 k true t307 t308 t309 t310 t315 t316 t317 t318 t323 t324 t325 t326 t330 t331 t332 t333 t336 t337 t338 t339 t350 t351 t352 t353 t358 t359 t360 t361)) = some r := by rw [if_pos rfl] at H; exact H
   clear H
   have H := H1
   clear H1
   by_cases c80 : t356 = true
   ·subst c80
    have H1 : (tilefarmlaw4_PlaneShares.j0 k (!t364) t307 t308 t309 t310 t315 t316 t317 t318 t323 t324 t325 t326 t330 t331 t332 t333 t336 t337 t338 t339 t350 t351 t352 t353 t358 t359 t360 t361) = some r := by rw [if_pos rfl] at H; exact H
    clear H
    have H := H1
    clear H1
    have H' := am_ H
    clear H
    go_wp2
    go_meet
    case rel => exact ⟨_, (!t364), q198_, H', ⟨by first | omega | exact Nat.le_refl _⟩, ⟨q8_⟩, ⟨q9_⟩, ⟨q10_⟩, ⟨q11_⟩, ⟨q12_⟩, ⟨q7_⟩, ⟨q1_⟩, ⟨q2_⟩, ⟨q3_⟩, ⟨q4_⟩, ⟨q5_⟩, ⟨q6_⟩, ⟨q0_⟩, ⟨q18_⟩⟩
   ·replace c80 := Bool.eq_false_iff.mpr c80
    subst c80
    have H1 : (tilefarmlaw4_PlaneShares.j0 k true t307 t308 t309 t310 t315 t316 t317 t318 t323 t324 t325 t326 t330 t331 t332 t333 t336 t337 t338 t339 t350 t351 t352 t353 t358 t359 t360 t361) = some r := by rw [if_neg (show ¬ (false = true) by decide)] at H; exact H
    clear H
    have H := H1
    clear H1
    have H' := am_ H
    clear H
    go_wp2
    go_meet
    case rel => exact ⟨_, (true), q198_, H', ⟨by first | omega | exact Nat.le_refl _⟩, ⟨q8_⟩, ⟨q9_⟩, ⟨q10_⟩, ⟨q11_⟩, ⟨q12_⟩, ⟨q7_⟩, ⟨q1_⟩, ⟨q2_⟩, ⟨q3_⟩, ⟨q4_⟩, ⟨q5_⟩, ⟨q6_⟩, ⟨q0_⟩, ⟨q18_⟩⟩
  ·replace c79 := Bool.eq_false_iff.mpr c79
   subst c79
   have H1 : (tilefarmlaw4_PlaneShares.j0 k true t307 t308 t309 t310 t315 t316 t317 t318 t323 t324 t325 t326 t330 t331 t332 t333 t336 t337 t338 t339 t350 t351 t352 t353 t358 t359 t360 t361) = some r := by rw [if_neg (show ¬ (false = true) by decide)] at H; exact H
   clear H
   have H := H1
   clear H1
   have H' := am_ H
   clear H
   go_wp2
   go_meet
   case rel => exact ⟨_, (true), q198_, H', ⟨by first | omega | exact Nat.le_refl _⟩, ⟨q8_⟩, ⟨q9_⟩, ⟨q10_⟩, ⟨q11_⟩, ⟨q12_⟩, ⟨q7_⟩, ⟨q1_⟩, ⟨q2_⟩, ⟨q3_⟩, ⟨q4_⟩, ⟨q5_⟩, ⟨q6_⟩, ⟨q0_⟩, ⟨q18_⟩⟩
 case rest =>
  clear HC13
  try clear c1
  try clear p2
  try clear c6
  try clear c7
  try clear c8
  try clear c11
  try clear c14
  try clear c66
  try clear c70
  try clear c71
  try clear c72
  try clear c73
  try clear c74
  try clear c75
  try clear c76
  try clear c79
  try clear c80
  try clear hcz67_0
  try clear hcz67_1
  try clear hcz67_2
  try clear hcz67_3
  try clear hcz77_0
  try clear hcz77_1
  try clear hcz77_2
  try clear hcz77_3
  try clear hfz67_0
  try clear hfz67_1
  try clear hfz67_2
  try clear hfz67_3
  try clear hfz77_0
  try clear hfz77_1
  try clear hfz77_2
  try clear hfz77_3
  obtain ⟨kq, x71_12, rfl, HA, HJ12, HO_315003, HO_323003, HO_330003, HO_344003, HO_358003, HO_366003, BK314, BK322, BK329, BK335, BK343, BK357, BK365, HB⟩ := hcut
  cases kq with
  | zero => exact absurd HA.out (by simp [tilefarmlaw4_PlaneShares.j0])
  | succ kj12 =>
   have H := HA.out
   clear HA
   simp only [tilefarmlaw4_PlaneShares.j0] at H
   by_cases c81 : x71_12 = true
   ·subst c81
    have H1 : (some false) = some r := by rw [if_pos rfl] at H; exact H
    clear H
    have H := H1
    clear H1
    exact absurd ((Option.some.inj H).trans HT.out) (by decide)
   ·replace c81 := Bool.eq_false_iff.mpr c81
    subst c81
    have H1 : (tilefarmlaw4_PlaneShares.l0 kj12 0 t307 t308 t309 t310 t315 t316 t317 t318 t323 t324 t325 t326 t330 t331 t332 t333 t336 t337 t338 t339 t350 t351 t352 t353 t358 t359 t360 t361) = some r := by rw [if_neg (show ¬ (false = true) by decide)] at H; exact H
    clear H
    have H := H1
    clear H1
    have H' := am_ H
    clear H
    go_wp2
    go_loopg [14] kj12 (fun kq v14 w' => ∃ (x14_2 : Int) (x315003_2 : List Int) (x323003_2 : List Int) (x330003_2 : List Int) (x344003_2 : List Int) (x358003_2 : List Int) (x366003_2 : List Int) (u315003 : Value) (u323003 : Value) (u330003 : Value) (u344003 : Value) (u358003 : Value) (u366003 : Value), v14 = .int .i64 x14_2 ∧ Aside0 (tilefarmlaw4_PlaneShares.l0 kq x14_2 t307 t308 t309 x315003_2 t315 t316 t317 x323003_2 t323 t324 t325 x330003_2 t330 t331 t332 t333 t336 t337 t338 x344003_2 t350 t351 t352 x358003_2 t358 t359 t360 x366003_2 = some r) ∧ Aside0 (kq ≤ kj12) ∧ Aside0 (Kd.R (Kd.int .i64) 3 w' w.heap.size (fun k_ => some k_ ≠ (u323003 : Value).ownBlock ∧ some k_ ≠ (u330003 : Value).ownBlock ∧ some k_ ≠ (u344003 : Value).ownBlock ∧ some k_ ≠ (u358003 : Value).ownBlock ∧ some k_ ≠ (u366003 : Value).ownBlock) u315003 x315003_2) ∧ Aside0 (Kd.R (Kd.int .i64) 3 w' w.heap.size (fun k_ => some k_ ≠ (u315003 : Value).ownBlock ∧ some k_ ≠ (u330003 : Value).ownBlock ∧ some k_ ≠ (u344003 : Value).ownBlock ∧ some k_ ≠ (u358003 : Value).ownBlock ∧ some k_ ≠ (u366003 : Value).ownBlock) u323003 x323003_2) ∧ Aside0 (Kd.R (Kd.int .i64) 3 w' w.heap.size (fun k_ => some k_ ≠ (u315003 : Value).ownBlock ∧ some k_ ≠ (u323003 : Value).ownBlock ∧ some k_ ≠ (u344003 : Value).ownBlock ∧ some k_ ≠ (u358003 : Value).ownBlock ∧ some k_ ≠ (u366003 : Value).ownBlock) u330003 x330003_2) ∧ Aside0 (Kd.R (Kd.int .i64) 3 w' w.heap.size (fun k_ => some k_ ≠ (u315003 : Value).ownBlock ∧ some k_ ≠ (u323003 : Value).ownBlock ∧ some k_ ≠ (u330003 : Value).ownBlock ∧ some k_ ≠ (u358003 : Value).ownBlock ∧ some k_ ≠ (u366003 : Value).ownBlock) u344003 x344003_2) ∧ Aside0 (Kd.R (Kd.int .i64) 3 w' w.heap.size (fun k_ => some k_ ≠ (u315003 : Value).ownBlock ∧ some k_ ≠ (u323003 : Value).ownBlock ∧ some k_ ≠ (u330003 : Value).ownBlock ∧ some k_ ≠ (u344003 : Value).ownBlock ∧ some k_ ≠ (u366003 : Value).ownBlock) u358003 x358003_2) ∧ Aside0 (Kd.R (Kd.int .i64) 3 w' w.heap.size (fun k_ => some k_ ≠ (u315003 : Value).ownBlock ∧ some k_ ≠ (u323003 : Value).ownBlock ∧ some k_ ≠ (u330003 : Value).ownBlock ∧ some k_ ≠ (u344003 : Value).ownBlock ∧ some k_ ≠ (u358003 : Value).ownBlock) u366003 x366003_2) ∧ Aside0 (w'.heap[gb314]? = some (.cells #[.int .i64 t307, .int .i64 t308, .int .i64 t309, u315003] 26 (0, 0))) ∧ Aside0 (w'.heap[gb322]? = some (.cells #[.int .i64 t315, .int .i64 t316, .int .i64 t317, u323003] 26 (0, 0))) ∧ Aside0 (w'.heap[gb329]? = some (.cells #[.int .i64 t323, .int .i64 t324, .int .i64 t325, u330003] 26 (0, 0))) ∧ Aside0 (w'.heap[gb335]? = some (.cells #[.int .i64 t330, .int .i64 t331, .int .i64 t332, .int .i64 t333] 31 (0, 0))) ∧ Aside0 (w'.heap[gb343]? = some (.cells #[.int .i64 t336, .int .i64 t337, .int .i64 t338, u344003] 26 (0, 0))) ∧ Aside0 (w'.heap[gb357]? = some (.cells #[.int .i64 t350, .int .i64 t351, .int .i64 t352, u358003] 26 (0, 0))) ∧ Aside0 (w'.heap[gb365]? = some (.cells #[.int .i64 t358, .int .i64 t359, .int .i64 t360, u366003] 26 (0, 0))) ∧ Aside0 (Below w.heap.size w w'))
    case atStart => exact ⟨(0), (t310), (t318), (t326), (t339), (t353), (t361), (.slice Ao21 t310.length co21), (.slice Ao27 t318.length co27), (.slice Ao35 t326.length co35), (.slice Ao53 t339.length co53), (.slice Ao64 t353.length co64), (.slice Ao78 t361.length co78), q198_, H', ⟨Nat.le_refl _⟩, ⟨q172_⟩, ⟨q173_⟩, ⟨q174_⟩, ⟨q175_⟩, ⟨q176_⟩, ⟨q177_⟩, ⟨q163_⟩, ⟨q164_⟩, ⟨q165_⟩, ⟨q166_⟩, ⟨q167_⟩, ⟨q168_⟩, ⟨q169_⟩, ⟨q23_⟩⟩
    case round =>
     clear H'
     try clear c1
     try clear p2
     try clear c6
     try clear c7
     try clear c8
     try clear c11
     try clear c14
     try clear c66
     try clear c70
     try clear c71
     try clear c72
     try clear c73
     try clear c74
     try clear c75
     try clear c76
     try clear c79
     try clear c80
     try clear c81
     try clear hcz67_0
     try clear hcz67_1
     try clear hcz67_2
     try clear hcz67_3
     try clear hcz77_0
     try clear hcz77_1
     try clear hcz77_2
     try clear hcz77_3
     try clear hfz67_0
     try clear hfz67_1
     try clear hfz67_2
     try clear hfz67_3
     try clear hfz77_0
     try clear hfz77_1
     try clear hfz77_2
     try clear hfz77_3
     try clear p2
     obtain ⟨x14_2, x315003_2, x323003_2, x330003_2, x344003_2, x358003_2, x366003_2, u315003, u323003, u330003, u344003, u358003, u366003, rfl, HA, HK2, HO_315003, HO_323003, HO_330003, HO_344003, HO_358003, HO_366003, BK314, BK322, BK329, BK335, BK343, BK357, BK365, HB⟩ := hrel
     cases gk with
     | zero => exact absurd HA.out (by simp [tilefarmlaw4_PlaneShares.l0])
     | succ k2 =>
      have H := HA.out
      clear HA
      simp only [tilefarmlaw4_PlaneShares.l0] at H
      by_cases c82 : x14_2 < (x344003_2.length : Int)
      ·rw [if_pos c82] at H
       have c82b0 : decide (x14_2 < (x344003_2.length : Int)) = true := decide_eq_true c82
       clear c82
       by_cases c83 : 0 ≤ x14_2
       ·rw [if_pos c83] at H
        have c83b0 : decide (0 ≤ x14_2) = true := decide_eq_true c83
        clear c83
        obtain ⟨y366, hy366⟩ : ∃ y_ : List Int, y_ = (x344003_2.set (x14_2 : Int).toNat (-1)) := ⟨_, rfl⟩
        replace H : (tilefarmlaw4_PlaneShares.l0 k2 (wrap64 (x14_2 + 1)) t307 t308 t309 x315003_2 t315 t316 t317 x323003_2 t323 t324 t325 x330003_2 t330 t331 t332 t333 t336 t337 t338 y366 t350 t351 t352 x358003_2 t358 t359 t360 x366003_2) = some r := by first | (rw [hy366]; with_reducible exact H) | (have H2_ := (Option.bind_some _ _).symm.trans H; rw [hy366]; with_reducible exact H2_) | (have H2_ := (Option.bind_some _ _).symm.trans H; with_reducible exact H2_) | with_reducible exact H | (rw [hy366]; exact H) | exact H
        have Ny366 := am_ hy366
        clear hy366
        have H' := am_ H
        clear H
        have hnb85 := NB343_314.out
        have hnc85 := NB314_343.out
        have hnb86 := NB343_322.out
        have hnc86 := NB322_343.out
        have hnb87 := NB343_329.out
        have hnc87 := NB329_343.out
        have hnb88 := NB343_335.out
        have hnc88 := NB335_343.out
        have hnb89 := NB343_357.out
        have hnc89 := NB357_343.out
        have hnb90 := NB343_365.out
        have hnc90 := NB365_343.out
        have hcz91_0 : wr.cell? ⟨gb343, 0, none⟩ = some (.int .i64 t336) := (blk_cell BK343.out 0).trans rfl
        have hcz91_1 : wr.cell? ⟨gb343, 1, none⟩ = some (.int .i64 t337) := (blk_cell BK343.out 1).trans rfl
        have hcz91_2 : wr.cell? ⟨gb343, 2, none⟩ = some (.int .i64 t338) := (blk_cell BK343.out 2).trans rfl
        have hcz91_3 : wr.cell? ⟨gb343, 3, none⟩ = some (u344003) := (blk_cell BK343.out 3).trans rfl
        have hfz91_0 := blk_frozen BK343.out 0
        have hfz91_1 := blk_frozen BK343.out 1
        have hfz91_2 := blk_frozen BK343.out 2
        have hfz91_3 := blk_frozen BK343.out 3
        obtain ⟨Ao92, co92, eo92⟩ := Kd.R_slice HO_344003.out
        subst eo92
        have p84 : 0 ≤ (x14_2 : Int) := of_decide_eq_true q197_
        have q84 : (x14_2 : Int) < ((x344003_2.length : Int) : Int) := of_decide_eq_true q197_
        obtain ⟨go84, co84, eo84, gb84, gl84, cl84, HG84⟩ := Kd.R_form HO_344003.out (by omega)
        (first | cases eo84 | (injection eo84 with ea_ en_ ec_; (first | subst ea_ | (injection ea_ with ea_; subst ea_)); subst ec_; clear en_))
        have GB84 := am_ gb84
        have GG84 := am_ HG84
        clear gb84 gl84 HG84
        obtain ⟨hx84_0, hf84_0⟩ := Kd.R_celln 0 HO_344003.out (x14_2 : Int) p84 q84
        replace p84 := eq_true p84
        replace q84 := eq_true q84
        have HP93 := Kd.R_putg HO_344003.out (x14_2 : Int) (-1)
        go_wp2_with (first | ((with_reducible refine gate_store (t := 3) (p := 82) rfl ?_); refine store_event (t := 3) (p := 82) (v := ?vo_w94) (w1 := (wr.setCell ⟨go84, (x14_2 : Int).toNat, none⟩ (.int .i64 (-1)))) ?hg ?ho ?hn ?hr ?_; (case ho => rfl); (case hg => rfl); (case hn => rfl); (case hr => first | (go_simp; done) | (go_simp; rfl)); intro w94 hw; have hg : wr.grownBy w94 (some go84) := (by rw [hw]; exact HP93.2); have hp_ : Kd.R (Kd.int .i64) 3 w94 w.heap.size (fun k_ => some k_ ≠ (u315003 : Value).ownBlock ∧ some k_ ≠ (u323003 : Value).ownBlock ∧ some k_ ≠ (u330003 : Value).ownBlock ∧ some k_ ≠ (u358003 : Value).ownBlock ∧ some k_ ≠ (u366003 : Value).ownBlock) (.slice (some ⟨go84, 0, none⟩) x344003_2.length co92) y366 := (by rw [hw, Ny366.out]; exact HP93.1); clear HP93; have n0_ := am_ (Kd.R_after (v := (.slice (some ⟨go84, 0, none⟩) x344003_2.length co92)) (v1 := (.slice (some ⟨go84, 0, none⟩) x344003_2.length co92)) (ok := (fun k_ => some k_ ≠ (u323003 : Value).ownBlock ∧ some k_ ≠ (u330003 : Value).ownBlock ∧ some k_ ≠ (u358003 : Value).ownBlock ∧ some k_ ≠ (u366003 : Value).ownBlock)) (by (with_reducible repeat (first | apply Kd.R_alloc | apply Kd.R_drewN | apply Kd.R_drew)); exact Kd.R_mono HO_315003.out (fun _ hk => ⟨⟨hk.1, ⟨hk.2.1, ⟨hk.2.2.2.1, hk.2.2.2.2⟩⟩⟩, hk.2.2.1⟩)) hg (.inl rfl)); have n1_ := am_ (Kd.R_after (v := (.slice (some ⟨go84, 0, none⟩) x344003_2.length co92)) (v1 := (.slice (some ⟨go84, 0, none⟩) x344003_2.length co92)) (ok := (fun k_ => some k_ ≠ (u315003 : Value).ownBlock ∧ some k_ ≠ (u330003 : Value).ownBlock ∧ some k_ ≠ (u358003 : Value).ownBlock ∧ some k_ ≠ (u366003 : Value).ownBlock)) (by (with_reducible repeat (first | apply Kd.R_alloc | apply Kd.R_drewN | apply Kd.R_drew)); exact Kd.R_mono HO_323003.out (fun _ hk => ⟨⟨hk.1, ⟨hk.2.1, ⟨hk.2.2.2.1, hk.2.2.2.2⟩⟩⟩, hk.2.2.1⟩)) hg (.inl rfl)); have n2_ := am_ (Kd.R_after (v := (.slice (some ⟨go84, 0, none⟩) x344003_2.length co92)) (v1 := (.slice (some ⟨go84, 0, none⟩) x344003_2.length co92)) (ok := (fun k_ => some k_ ≠ (u315003 : Value).ownBlock ∧ some k_ ≠ (u323003 : Value).ownBlock ∧ some k_ ≠ (u358003 : Value).ownBlock ∧ some k_ ≠ (u366003 : Value).ownBlock)) (by (with_reducible repeat (first | apply Kd.R_alloc | apply Kd.R_drewN | apply Kd.R_drew)); exact Kd.R_mono HO_330003.out (fun _ hk => ⟨⟨hk.1, ⟨hk.2.1, ⟨hk.2.2.2.1, hk.2.2.2.2⟩⟩⟩, hk.2.2.1⟩)) hg (.inl rfl)); have n3_ := am_ (hp_); have n4_ := am_ (Kd.R_after (v := (.slice (some ⟨go84, 0, none⟩) x344003_2.length co92)) (v1 := (.slice (some ⟨go84, 0, none⟩) x344003_2.length co92)) (ok := (fun k_ => some k_ ≠ (u315003 : Value).ownBlock ∧ some k_ ≠ (u323003 : Value).ownBlock ∧ some k_ ≠ (u330003 : Value).ownBlock ∧ some k_ ≠ (u366003 : Value).ownBlock)) (by (with_reducible repeat (first | apply Kd.R_alloc | apply Kd.R_drewN | apply Kd.R_drew)); exact Kd.R_mono HO_358003.out (fun _ hk => ⟨⟨hk.1, ⟨hk.2.1, ⟨hk.2.2.1, hk.2.2.2.2⟩⟩⟩, hk.2.2.2.1⟩)) hg (.inl rfl)); have n5_ := am_ (Kd.R_after (v := (.slice (some ⟨go84, 0, none⟩) x344003_2.length co92)) (v1 := (.slice (some ⟨go84, 0, none⟩) x344003_2.length co92)) (ok := (fun k_ => some k_ ≠ (u315003 : Value).ownBlock ∧ some k_ ≠ (u323003 : Value).ownBlock ∧ some k_ ≠ (u330003 : Value).ownBlock ∧ some k_ ≠ (u358003 : Value).ownBlock)) (by (with_reducible repeat (first | apply Kd.R_alloc | apply Kd.R_drewN | apply Kd.R_drew)); exact Kd.R_mono HO_366003.out (fun _ hk => ⟨⟨hk.1, ⟨hk.2.1, ⟨hk.2.2.1, hk.2.2.2.2⟩⟩⟩, hk.2.2.2.1⟩)) hg (.inl rfl)); have n6_ := am_ (blk_grown (g := gb314) (o := .cells #[.int .i64 t307, .int .i64 t308, .int .i64 t309, u315003] 26 (0, 0)) q163_ hg (Kd.R_ne HO_344003.out BK314.out (by decide))); have n7_ := am_ (blk_grown (g := gb322) (o := .cells #[.int .i64 t315, .int .i64 t316, .int .i64 t317, u323003] 26 (0, 0)) q164_ hg (Kd.R_ne HO_344003.out BK322.out (by decide))); have n8_ := am_ (blk_grown (g := gb329) (o := .cells #[.int .i64 t323, .int .i64 t324, .int .i64 t325, u330003] 26 (0, 0)) q165_ hg (Kd.R_ne HO_344003.out BK329.out (by decide))); have n9_ := am_ (blk_grown (g := gb335) (o := .cells #[.int .i64 t330, .int .i64 t331, .int .i64 t332, .int .i64 t333] 31 (0, 0)) q166_ hg (Kd.R_ne HO_344003.out BK335.out (by decide))); have n10_ := am_ (blk_grown (g := gb343) (o := .cells #[.int .i64 t336, .int .i64 t337, .int .i64 t338, .slice (some ⟨go84, 0, none⟩) x344003_2.length co92] 26 (0, 0)) q167_ hg (Kd.R_ne HO_344003.out BK343.out (by decide))); have n11_ := am_ (blk_grown (g := gb357) (o := .cells #[.int .i64 t350, .int .i64 t351, .int .i64 t352, u358003] 26 (0, 0)) q168_ hg (Kd.R_ne HO_344003.out BK357.out (by decide))); have n12_ := am_ (blk_grown (g := gb365) (o := .cells #[.int .i64 t358, .int .i64 t359, .int .i64 t360, u366003] 26 (0, 0)) q169_ hg (Kd.R_ne HO_344003.out BK365.out (by decide))); have n13_ := am_ ((by rw [hw]; exact below_set (HB.out) GB84.out : Below w.heap.size w w94)); clear HO_315003; clear HO_323003; clear HO_330003; clear HO_344003; clear HO_358003; clear HO_366003; clear BK314; clear BK322; clear BK329; clear BK335; clear BK343; clear BK357; clear BK365; clear HB; have HO_315003 := n0_; have HO_323003 := n1_; have HO_330003 := n2_; have HO_344003 := n3_; have HO_358003 := n4_; have HO_366003 := n5_; have BK314 := n6_; have BK322 := n7_; have BK329 := n8_; have BK335 := n9_; have BK343 := n10_; have BK357 := n11_; have BK365 := n12_; have HB := n13_; clear n0_ n1_ n2_ n3_ n4_ n5_ n6_ n7_ n8_ n9_ n10_ n11_ n12_ n13_; clear hg hw hp_))
        go_roundg k2
        case measure => have := HJ12.out; have := HK2.out; omega
        case rel => exact ⟨(wrap64 (x14_2 + 1)), (x315003_2), (x323003_2), (x330003_2), (y366), (x358003_2), (x366003_2), (u315003), (u323003), (u330003), (.slice (some ⟨go84, 0, none⟩) x344003_2.length co92), (u358003), (u366003), q198_, H', ⟨by have := HJ12.out; have := HK2.out; omega⟩, ⟨by (with_reducible repeat (first | apply Kd.R_alloc | apply Kd.R_drewN | apply Kd.R_drew)); exact Kd.R_mono HO_315003.out (fun _ hk => ⟨hk.1.1, ⟨hk.1.2.1, ⟨hk.2, ⟨hk.1.2.2.1, hk.1.2.2.2⟩⟩⟩⟩)⟩, ⟨by (with_reducible repeat (first | apply Kd.R_alloc | apply Kd.R_drewN | apply Kd.R_drew)); exact Kd.R_mono HO_323003.out (fun _ hk => ⟨hk.1.1, ⟨hk.1.2.1, ⟨hk.2, ⟨hk.1.2.2.1, hk.1.2.2.2⟩⟩⟩⟩)⟩, ⟨by (with_reducible repeat (first | apply Kd.R_alloc | apply Kd.R_drewN | apply Kd.R_drew)); exact Kd.R_mono HO_330003.out (fun _ hk => ⟨hk.1.1, ⟨hk.1.2.1, ⟨hk.2, ⟨hk.1.2.2.1, hk.1.2.2.2⟩⟩⟩⟩)⟩, ⟨q175_⟩, ⟨by (with_reducible repeat (first | apply Kd.R_alloc | apply Kd.R_drewN | apply Kd.R_drew)); exact Kd.R_mono HO_358003.out (fun _ hk => ⟨hk.1.1, ⟨hk.1.2.1, ⟨hk.1.2.2.1, ⟨hk.2, hk.1.2.2.2⟩⟩⟩⟩)⟩, ⟨by (with_reducible repeat (first | apply Kd.R_alloc | apply Kd.R_drewN | apply Kd.R_drew)); exact Kd.R_mono HO_366003.out (fun _ hk => ⟨hk.1.1, ⟨hk.1.2.1, ⟨hk.1.2.2.1, ⟨hk.2, hk.1.2.2.2⟩⟩⟩⟩)⟩, ⟨q163_⟩, ⟨q164_⟩, ⟨q165_⟩, ⟨q166_⟩, ⟨q167_⟩, ⟨q168_⟩, ⟨q169_⟩, ⟨q23_⟩⟩
       ·rw [if_neg c83] at H
        exact absurd H (by simp)
      ·rw [if_neg c82] at H
       have c82b0 : decide (x14_2 < (x344003_2.length : Int)) = false := decide_eq_false c82
       clear c82
       have H' := am_ H
       clear H
       have hnb95 := NB343_314.out
       have hnc95 := NB314_343.out
       have hnb96 := NB343_322.out
       have hnc96 := NB322_343.out
       have hnb97 := NB343_329.out
       have hnc97 := NB329_343.out
       have hnb98 := NB343_335.out
       have hnc98 := NB335_343.out
       have hnb99 := NB343_357.out
       have hnc99 := NB357_343.out
       have hnb100 := NB343_365.out
       have hnc100 := NB365_343.out
       have hcz101_0 : wr.cell? ⟨gb343, 0, none⟩ = some (.int .i64 t336) := (blk_cell BK343.out 0).trans rfl
       have hcz101_1 : wr.cell? ⟨gb343, 1, none⟩ = some (.int .i64 t337) := (blk_cell BK343.out 1).trans rfl
       have hcz101_2 : wr.cell? ⟨gb343, 2, none⟩ = some (.int .i64 t338) := (blk_cell BK343.out 2).trans rfl
       have hcz101_3 : wr.cell? ⟨gb343, 3, none⟩ = some (u344003) := (blk_cell BK343.out 3).trans rfl
       have hfz101_0 := blk_frozen BK343.out 0
       have hfz101_1 := blk_frozen BK343.out 1
       have hfz101_2 := blk_frozen BK343.out 2
       have hfz101_3 := blk_frozen BK343.out 3
       obtain ⟨Ao102, co102, eo102⟩ := Kd.R_slice HO_344003.out
       subst eo102
       go_wp2
       go_loopg [15] k2 (fun kq v15 w' => ∃ (x15_3 : Int) (x315003_3 : List Int) (x323003_3 : List Int) (x330003_3 : List Int) (x344003_3 : List Int) (x358003_3 : List Int) (x366003_3 : List Int) (u315003 : Value) (u323003 : Value) (u330003 : Value) (u344003 : Value) (u358003 : Value) (u366003 : Value), v15 = .int .i64 x15_3 ∧ Aside0 (tilefarmlaw4_PlaneShares.l1 kq x15_3 t307 t308 t309 x315003_3 t315 t316 t317 x323003_3 t323 t324 t325 x330003_3 t330 t331 t332 t333 t350 t351 t352 x358003_3 t358 t359 t360 x366003_3 = some r) ∧ Aside0 (kq ≤ k2) ∧ Aside0 (Kd.R (Kd.int .i64) 3 w' w.heap.size (fun k_ => some k_ ≠ (u323003 : Value).ownBlock ∧ some k_ ≠ (u330003 : Value).ownBlock ∧ some k_ ≠ (u344003 : Value).ownBlock ∧ some k_ ≠ (u358003 : Value).ownBlock ∧ some k_ ≠ (u366003 : Value).ownBlock) u315003 x315003_3) ∧ Aside0 (Kd.R (Kd.int .i64) 3 w' w.heap.size (fun k_ => some k_ ≠ (u315003 : Value).ownBlock ∧ some k_ ≠ (u330003 : Value).ownBlock ∧ some k_ ≠ (u344003 : Value).ownBlock ∧ some k_ ≠ (u358003 : Value).ownBlock ∧ some k_ ≠ (u366003 : Value).ownBlock) u323003 x323003_3) ∧ Aside0 (Kd.R (Kd.int .i64) 3 w' w.heap.size (fun k_ => some k_ ≠ (u315003 : Value).ownBlock ∧ some k_ ≠ (u323003 : Value).ownBlock ∧ some k_ ≠ (u344003 : Value).ownBlock ∧ some k_ ≠ (u358003 : Value).ownBlock ∧ some k_ ≠ (u366003 : Value).ownBlock) u330003 x330003_3) ∧ Aside0 (Kd.R (Kd.int .i64) 3 w' w.heap.size (fun k_ => some k_ ≠ (u315003 : Value).ownBlock ∧ some k_ ≠ (u323003 : Value).ownBlock ∧ some k_ ≠ (u330003 : Value).ownBlock ∧ some k_ ≠ (u358003 : Value).ownBlock ∧ some k_ ≠ (u366003 : Value).ownBlock) u344003 x344003_3) ∧ Aside0 (Kd.R (Kd.int .i64) 3 w' w.heap.size (fun k_ => some k_ ≠ (u315003 : Value).ownBlock ∧ some k_ ≠ (u323003 : Value).ownBlock ∧ some k_ ≠ (u330003 : Value).ownBlock ∧ some k_ ≠ (u344003 : Value).ownBlock ∧ some k_ ≠ (u366003 : Value).ownBlock) u358003 x358003_3) ∧ Aside0 (Kd.R (Kd.int .i64) 3 w' w.heap.size (fun k_ => some k_ ≠ (u315003 : Value).ownBlock ∧ some k_ ≠ (u323003 : Value).ownBlock ∧ some k_ ≠ (u330003 : Value).ownBlock ∧ some k_ ≠ (u344003 : Value).ownBlock ∧ some k_ ≠ (u358003 : Value).ownBlock) u366003 x366003_3) ∧ Aside0 (w'.heap[gb314]? = some (.cells #[.int .i64 t307, .int .i64 t308, .int .i64 t309, u315003] 26 (0, 0))) ∧ Aside0 (w'.heap[gb322]? = some (.cells #[.int .i64 t315, .int .i64 t316, .int .i64 t317, u323003] 26 (0, 0))) ∧ Aside0 (w'.heap[gb329]? = some (.cells #[.int .i64 t323, .int .i64 t324, .int .i64 t325, u330003] 26 (0, 0))) ∧ Aside0 (w'.heap[gb335]? = some (.cells #[.int .i64 t330, .int .i64 t331, .int .i64 t332, .int .i64 t333] 31 (0, 0))) ∧ Aside0 (w'.heap[gb343]? = some (.cells #[.int .i64 t336, .int .i64 t337, .int .i64 t338, u344003] 26 (0, 0))) ∧ Aside0 (w'.heap[gb357]? = some (.cells #[.int .i64 t350, .int .i64 t351, .int .i64 t352, u358003] 26 (0, 0))) ∧ Aside0 (w'.heap[gb365]? = some (.cells #[.int .i64 t358, .int .i64 t359, .int .i64 t360, u366003] 26 (0, 0))) ∧ Aside0 (Below w.heap.size w w'))
       case atStart => exact ⟨(0), (x315003_2), (x323003_2), (x330003_2), (x344003_2), (x358003_2), (x366003_2), (u315003), (u323003), (u330003), (.slice Ao102 x344003_2.length co102), (u358003), (u366003), q198_, H', ⟨Nat.le_refl _⟩, ⟨q172_⟩, ⟨q173_⟩, ⟨q174_⟩, ⟨q175_⟩, ⟨q176_⟩, ⟨q177_⟩, ⟨q163_⟩, ⟨q164_⟩, ⟨q165_⟩, ⟨q166_⟩, ⟨q167_⟩, ⟨q168_⟩, ⟨q169_⟩, ⟨q23_⟩⟩
       case round =>
        clear H'
        try clear c1
        try clear p2
        try clear c6
        try clear p6
        try clear c7
        try clear c8
        try clear p8
        try clear q8
        try clear hx8
        try clear hf8
        try clear c9
        try clear c10
        try clear c11
        try clear c14
        try clear p64
        try clear c66
        try clear c70
        try clear c71
        try clear c72
        try clear c73
        try clear c74
        try clear c75
        try clear c76
        try clear c79
        try clear c80
        try clear c81
        try clear c82
        try clear c82b0
        try clear c83
        try clear c83b0
        try clear p84
        try clear q84
        try clear hx84
        try clear hf84
        try clear c85
        try clear c86
        try clear c87
        try clear c88
        try clear c89
        try clear c90
        try clear c95
        try clear c96
        try clear c97
        try clear c98
        try clear c99
        try clear c100
        try clear hcz101_0
        try clear hcz101_1
        try clear hcz101_2
        try clear hcz101_3
        try clear hcz67_0
        try clear hcz67_1
        try clear hcz67_2
        try clear hcz67_3
        try clear hcz77_0
        try clear hcz77_1
        try clear hcz77_2
        try clear hcz77_3
        try clear hcz91_0
        try clear hcz91_1
        try clear hcz91_2
        try clear hcz91_3
        try clear hfz101_0
        try clear hfz101_1
        try clear hfz101_2
        try clear hfz101_3
        try clear hfz67_0
        try clear hfz67_1
        try clear hfz67_2
        try clear hfz67_3
        try clear hfz77_0
        try clear hfz77_1
        try clear hfz77_2
        try clear hfz77_3
        try clear hfz91_0
        try clear hfz91_1
        try clear hfz91_2
        try clear hfz91_3
        try clear hx84_0
        try clear p2
        try clear p84
        try clear q84
        obtain ⟨x15_3, x315003_3, x323003_3, x330003_3, x344003_3, x358003_3, x366003_3, u315003, u323003, u330003, u344003, u358003, u366003, rfl, HA, HK3, HO_315003, HO_323003, HO_330003, HO_344003, HO_358003, HO_366003, BK314, BK322, BK329, BK335, BK343, BK357, BK365, HB⟩ := hrel
        cases gk with
        | zero => exact absurd HA.out (by simp [tilefarmlaw4_PlaneShares.l1])
        | succ k3 =>
         have H := HA.out
         clear HA
         simp only [tilefarmlaw4_PlaneShares.l1] at H
         by_cases c103 : x15_3 < (x358003_3.length : Int)
         ·rw [if_pos c103] at H
          have c103b0 : decide (x15_3 < (x358003_3.length : Int)) = true := decide_eq_true c103
          clear c103
          by_cases c104 : 0 ≤ x15_3
          ·rw [if_pos c104] at H
           have c104b0 : decide (0 ≤ x15_3) = true := decide_eq_true c104
           clear c104
           obtain ⟨y367, hy367⟩ : ∃ y_ : List Int, y_ = (x358003_3.set (x15_3 : Int).toNat (-1)) := ⟨_, rfl⟩
           replace H : (tilefarmlaw4_PlaneShares.l1 k3 (wrap64 (x15_3 + 1)) t307 t308 t309 x315003_3 t315 t316 t317 x323003_3 t323 t324 t325 x330003_3 t330 t331 t332 t333 t350 t351 t352 y367 t358 t359 t360 x366003_3) = some r := by first | (rw [hy367]; with_reducible exact H) | (have H2_ := (Option.bind_some _ _).symm.trans H; rw [hy367]; with_reducible exact H2_) | (have H2_ := (Option.bind_some _ _).symm.trans H; with_reducible exact H2_) | with_reducible exact H | (rw [hy367]; exact H) | exact H
           have Ny367 := am_ hy367
           clear hy367
           have H' := am_ H
           clear H
           have hnb106 := NB357_314.out
           have hnc106 := NB314_357.out
           have hnb107 := NB357_322.out
           have hnc107 := NB322_357.out
           have hnb108 := NB357_329.out
           have hnc108 := NB329_357.out
           have hnb109 := NB357_335.out
           have hnc109 := NB335_357.out
           have hnb110 := NB357_343.out
           have hnc110 := NB343_357.out
           have hnb111 := NB357_365.out
           have hnc111 := NB365_357.out
           have hcz112_0 : wr.cell? ⟨gb357, 0, none⟩ = some (.int .i64 t350) := (blk_cell BK357.out 0).trans rfl
           have hcz112_1 : wr.cell? ⟨gb357, 1, none⟩ = some (.int .i64 t351) := (blk_cell BK357.out 1).trans rfl
           have hcz112_2 : wr.cell? ⟨gb357, 2, none⟩ = some (.int .i64 t352) := (blk_cell BK357.out 2).trans rfl
           have hcz112_3 : wr.cell? ⟨gb357, 3, none⟩ = some (u358003) := (blk_cell BK357.out 3).trans rfl
           have hfz112_0 := blk_frozen BK357.out 0
           have hfz112_1 := blk_frozen BK357.out 1
           have hfz112_2 := blk_frozen BK357.out 2
           have hfz112_3 := blk_frozen BK357.out 3
           obtain ⟨Ao113, co113, eo113⟩ := Kd.R_slice HO_358003.out
           subst eo113
           have p105 : 0 ≤ (x15_3 : Int) := of_decide_eq_true q197_
           have q105 : (x15_3 : Int) < ((x358003_3.length : Int) : Int) := of_decide_eq_true q197_
           obtain ⟨go105, co105, eo105, gb105, gl105, cl105, HG105⟩ := Kd.R_form HO_358003.out (by omega)
           (first | cases eo105 | (injection eo105 with ea_ en_ ec_; (first | subst ea_ | (injection ea_ with ea_; subst ea_)); subst ec_; clear en_))
           have GB105 := am_ gb105
           have GG105 := am_ HG105
           clear gb105 gl105 HG105
           obtain ⟨hx105_0, hf105_0⟩ := Kd.R_celln 0 HO_358003.out (x15_3 : Int) p105 q105
           replace p105 := eq_true p105
           replace q105 := eq_true q105
           have HP114 := Kd.R_putg HO_358003.out (x15_3 : Int) (-1)
           go_wp2_with (first | ((with_reducible refine gate_store (t := 3) (p := 93) rfl ?_); refine store_event (t := 3) (p := 93) (v := ?vo_w115) (w1 := (wr.setCell ⟨go105, (x15_3 : Int).toNat, none⟩ (.int .i64 (-1)))) ?hg ?ho ?hn ?hr ?_; (case ho => rfl); (case hg => rfl); (case hn => rfl); (case hr => first | (go_simp; done) | (go_simp; rfl)); intro w115 hw; have hg : wr.grownBy w115 (some go105) := (by rw [hw]; exact HP114.2); have hp_ : Kd.R (Kd.int .i64) 3 w115 w.heap.size (fun k_ => some k_ ≠ (u315003 : Value).ownBlock ∧ some k_ ≠ (u323003 : Value).ownBlock ∧ some k_ ≠ (u330003 : Value).ownBlock ∧ some k_ ≠ (u344003 : Value).ownBlock ∧ some k_ ≠ (u366003 : Value).ownBlock) (.slice (some ⟨go105, 0, none⟩) x358003_3.length co113) y367 := (by rw [hw, Ny367.out]; exact HP114.1); clear HP114; have n0_ := am_ (Kd.R_after (v := (.slice (some ⟨go105, 0, none⟩) x358003_3.length co113)) (v1 := (.slice (some ⟨go105, 0, none⟩) x358003_3.length co113)) (ok := (fun k_ => some k_ ≠ (u323003 : Value).ownBlock ∧ some k_ ≠ (u330003 : Value).ownBlock ∧ some k_ ≠ (u344003 : Value).ownBlock ∧ some k_ ≠ (u366003 : Value).ownBlock)) (by (with_reducible repeat (first | apply Kd.R_alloc | apply Kd.R_drewN | apply Kd.R_drew)); exact Kd.R_mono HO_315003.out (fun _ hk => ⟨⟨hk.1, ⟨hk.2.1, ⟨hk.2.2.1, hk.2.2.2.2⟩⟩⟩, hk.2.2.2.1⟩)) hg (.inl rfl)); have n1_ := am_ (Kd.R_after (v := (.slice (some ⟨go105, 0, none⟩) x358003_3.length co113)) (v1 := (.slice (some ⟨go105, 0, none⟩) x358003_3.length co113)) (ok := (fun k_ => some k_ ≠ (u315003 : Value).ownBlock ∧ some k_ ≠ (u330003 : Value).ownBlock ∧ some k_ ≠ (u344003 : Value).ownBlock ∧ some k_ ≠ (u366003 : Value).ownBlock)) (by (with_reducible repeat (first | apply Kd.R_alloc | apply Kd.R_drewN | apply Kd.R_drew)); exact Kd.R_mono HO_323003.out (fun _ hk => ⟨⟨hk.1, ⟨hk.2.1, ⟨hk.2.2.1, hk.2.2.2.2⟩⟩⟩, hk.2.2.2.1⟩)) hg (.inl rfl)); have n2_ := am_ (Kd.R_after (v := (.slice (some ⟨go105, 0, none⟩) x358003_3.length co113)) (v1 := (.slice (some ⟨go105, 0, none⟩) x358003_3.length co113)) (ok := (fun k_ => some k_ ≠ (u315003 : Value).ownBlock ∧ some k_ ≠ (u323003 : Value).ownBlock ∧ some k_ ≠ (u344003 : Value).ownBlock ∧ some k_ ≠ (u366003 : Value).ownBlock)) (by (with_reducible repeat (first | apply Kd.R_alloc | apply Kd.R_drewN | apply Kd.R_drew)); exact Kd.R_mono HO_330003.out (fun _ hk => ⟨⟨hk.1, ⟨hk.2.1, ⟨hk.2.2.1, hk.2.2.2.2⟩⟩⟩, hk.2.2.2.1⟩)) hg (.inl rfl)); have n3_ := am_ (Kd.R_after (v := (.slice (some ⟨go105, 0, none⟩) x358003_3.length co113)) (v1 := (.slice (some ⟨go105, 0, none⟩) x358003_3.length co113)) (ok := (fun k_ => some k_ ≠ (u315003 : Value).ownBlock ∧ some k_ ≠ (u323003 : Value).ownBlock ∧ some k_ ≠ (u330003 : Value).ownBlock ∧ some k_ ≠ (u366003 : Value).ownBlock)) (by (with_reducible repeat (first | apply Kd.R_alloc | apply Kd.R_drewN | apply Kd.R_drew)); exact Kd.R_mono HO_344003.out (fun _ hk => ⟨⟨hk.1, ⟨hk.2.1, ⟨hk.2.2.1, hk.2.2.2.2⟩⟩⟩, hk.2.2.2.1⟩)) hg (.inl rfl)); have n4_ := am_ (hp_); have n5_ := am_ (Kd.R_after (v := (.slice (some ⟨go105, 0, none⟩) x358003_3.length co113)) (v1 := (.slice (some ⟨go105, 0, none⟩) x358003_3.length co113)) (ok := (fun k_ => some k_ ≠ (u315003 : Value).ownBlock ∧ some k_ ≠ (u323003 : Value).ownBlock ∧ some k_ ≠ (u330003 : Value).ownBlock ∧ some k_ ≠ (u344003 : Value).ownBlock)) (by (with_reducible repeat (first | apply Kd.R_alloc | apply Kd.R_drewN | apply Kd.R_drew)); exact Kd.R_mono HO_366003.out (fun _ hk => ⟨⟨hk.1, ⟨hk.2.1, ⟨hk.2.2.1, hk.2.2.2.1⟩⟩⟩, hk.2.2.2.2⟩)) hg (.inl rfl)); have n6_ := am_ (blk_grown (g := gb314) (o := .cells #[.int .i64 t307, .int .i64 t308, .int .i64 t309, u315003] 26 (0, 0)) q163_ hg (Kd.R_ne HO_358003.out BK314.out (by decide))); have n7_ := am_ (blk_grown (g := gb322) (o := .cells #[.int .i64 t315, .int .i64 t316, .int .i64 t317, u323003] 26 (0, 0)) q164_ hg (Kd.R_ne HO_358003.out BK322.out (by decide))); have n8_ := am_ (blk_grown (g := gb329) (o := .cells #[.int .i64 t323, .int .i64 t324, .int .i64 t325, u330003] 26 (0, 0)) q165_ hg (Kd.R_ne HO_358003.out BK329.out (by decide))); have n9_ := am_ (blk_grown (g := gb335) (o := .cells #[.int .i64 t330, .int .i64 t331, .int .i64 t332, .int .i64 t333] 31 (0, 0)) q166_ hg (Kd.R_ne HO_358003.out BK335.out (by decide))); have n10_ := am_ (blk_grown (g := gb343) (o := .cells #[.int .i64 t336, .int .i64 t337, .int .i64 t338, u344003] 26 (0, 0)) q167_ hg (Kd.R_ne HO_358003.out BK343.out (by decide))); have n11_ := am_ (blk_grown (g := gb357) (o := .cells #[.int .i64 t350, .int .i64 t351, .int .i64 t352, .slice (some ⟨go105, 0, none⟩) x358003_3.length co113] 26 (0, 0)) q168_ hg (Kd.R_ne HO_358003.out BK357.out (by decide))); have n12_ := am_ (blk_grown (g := gb365) (o := .cells #[.int .i64 t358, .int .i64 t359, .int .i64 t360, u366003] 26 (0, 0)) q169_ hg (Kd.R_ne HO_358003.out BK365.out (by decide))); have n13_ := am_ ((by rw [hw]; exact below_set (HB.out) GB105.out : Below w.heap.size w w115)); clear HO_315003; clear HO_323003; clear HO_330003; clear HO_344003; clear HO_358003; clear HO_366003; clear BK314; clear BK322; clear BK329; clear BK335; clear BK343; clear BK357; clear BK365; clear HB; have HO_315003 := n0_; have HO_323003 := n1_; have HO_330003 := n2_; have HO_344003 := n3_; have HO_358003 := n4_; have HO_366003 := n5_; have BK314 := n6_; have BK322 := n7_; have BK329 := n8_; have BK335 := n9_; have BK343 := n10_; have BK357 := n11_; have BK365 := n12_; have HB := n13_; clear n0_ n1_ n2_ n3_ n4_ n5_ n6_ n7_ n8_ n9_ n10_ n11_ n12_ n13_; clear hg hw hp_))
           go_roundg k3
           case measure => have := HJ12.out; have := HK2.out; have := HK3.out; omega
           case rel => exact ⟨(wrap64 (x15_3 + 1)), (x315003_3), (x323003_3), (x330003_3), (x344003_3), (y367), (x366003_3), (u315003), (u323003), (u330003), (u344003), (.slice (some ⟨go105, 0, none⟩) x358003_3.length co113), (u366003), q198_, H', ⟨by have := HJ12.out; have := HK2.out; have := HK3.out; omega⟩, ⟨by (with_reducible repeat (first | apply Kd.R_alloc | apply Kd.R_drewN | apply Kd.R_drew)); exact Kd.R_mono HO_315003.out (fun _ hk => ⟨hk.1.1, ⟨hk.1.2.1, ⟨hk.1.2.2.1, ⟨hk.2, hk.1.2.2.2⟩⟩⟩⟩)⟩, ⟨by (with_reducible repeat (first | apply Kd.R_alloc | apply Kd.R_drewN | apply Kd.R_drew)); exact Kd.R_mono HO_323003.out (fun _ hk => ⟨hk.1.1, ⟨hk.1.2.1, ⟨hk.1.2.2.1, ⟨hk.2, hk.1.2.2.2⟩⟩⟩⟩)⟩, ⟨by (with_reducible repeat (first | apply Kd.R_alloc | apply Kd.R_drewN | apply Kd.R_drew)); exact Kd.R_mono HO_330003.out (fun _ hk => ⟨hk.1.1, ⟨hk.1.2.1, ⟨hk.1.2.2.1, ⟨hk.2, hk.1.2.2.2⟩⟩⟩⟩)⟩, ⟨by (with_reducible repeat (first | apply Kd.R_alloc | apply Kd.R_drewN | apply Kd.R_drew)); exact Kd.R_mono HO_344003.out (fun _ hk => ⟨hk.1.1, ⟨hk.1.2.1, ⟨hk.1.2.2.1, ⟨hk.2, hk.1.2.2.2⟩⟩⟩⟩)⟩, ⟨q176_⟩, ⟨by (with_reducible repeat (first | apply Kd.R_alloc | apply Kd.R_drewN | apply Kd.R_drew)); exact Kd.R_mono HO_366003.out (fun _ hk => ⟨hk.1.1, ⟨hk.1.2.1, ⟨hk.1.2.2.1, ⟨hk.1.2.2.2, hk.2⟩⟩⟩⟩)⟩, ⟨q163_⟩, ⟨q164_⟩, ⟨q165_⟩, ⟨q166_⟩, ⟨q167_⟩, ⟨q168_⟩, ⟨q169_⟩, ⟨q23_⟩⟩
          ·rw [if_neg c104] at H
           exact absurd H (by simp)
         ·rw [if_neg c103] at H
          have c103b0 : decide (x15_3 < (x358003_3.length : Int)) = false := decide_eq_false c103
          clear c103
          have H' := am_ H
          clear H
          have hnb116 := NB357_314.out
          have hnc116 := NB314_357.out
          have hnb117 := NB357_322.out
          have hnc117 := NB322_357.out
          have hnb118 := NB357_329.out
          have hnc118 := NB329_357.out
          have hnb119 := NB357_335.out
          have hnc119 := NB335_357.out
          have hnb120 := NB357_343.out
          have hnc120 := NB343_357.out
          have hnb121 := NB357_365.out
          have hnc121 := NB365_357.out
          have hcz122_0 : wr.cell? ⟨gb357, 0, none⟩ = some (.int .i64 t350) := (blk_cell BK357.out 0).trans rfl
          have hcz122_1 : wr.cell? ⟨gb357, 1, none⟩ = some (.int .i64 t351) := (blk_cell BK357.out 1).trans rfl
          have hcz122_2 : wr.cell? ⟨gb357, 2, none⟩ = some (.int .i64 t352) := (blk_cell BK357.out 2).trans rfl
          have hcz122_3 : wr.cell? ⟨gb357, 3, none⟩ = some (u358003) := (blk_cell BK357.out 3).trans rfl
          have hfz122_0 := blk_frozen BK357.out 0
          have hfz122_1 := blk_frozen BK357.out 1
          have hfz122_2 := blk_frozen BK357.out 2
          have hfz122_3 := blk_frozen BK357.out 3
          obtain ⟨Ao123, co123, eo123⟩ := Kd.R_slice HO_358003.out
          subst eo123
          go_wp2
          go_loopg [16] k3 (fun kq v16 w' => ∃ (x16_4 : Int) (x315003_4 : List Int) (x323003_4 : List Int) (x330003_4 : List Int) (x344003_4 : List Int) (x358003_4 : List Int) (x366003_4 : List Int) (u315003 : Value) (u323003 : Value) (u330003 : Value) (u344003 : Value) (u358003 : Value) (u366003 : Value), v16 = .int .i64 x16_4 ∧ Aside0 (tilefarmlaw4_PlaneShares.l2 kq x16_4 t307 t308 t309 x315003_4 t315 t316 t317 x323003_4 t323 t324 t325 x330003_4 t330 t331 t332 t333 t358 t359 t360 x366003_4 = some r) ∧ Aside0 (kq ≤ k3) ∧ Aside0 (Kd.R (Kd.int .i64) 3 w' w.heap.size (fun k_ => some k_ ≠ (u323003 : Value).ownBlock ∧ some k_ ≠ (u330003 : Value).ownBlock ∧ some k_ ≠ (u344003 : Value).ownBlock ∧ some k_ ≠ (u358003 : Value).ownBlock ∧ some k_ ≠ (u366003 : Value).ownBlock) u315003 x315003_4) ∧ Aside0 (Kd.R (Kd.int .i64) 3 w' w.heap.size (fun k_ => some k_ ≠ (u315003 : Value).ownBlock ∧ some k_ ≠ (u330003 : Value).ownBlock ∧ some k_ ≠ (u344003 : Value).ownBlock ∧ some k_ ≠ (u358003 : Value).ownBlock ∧ some k_ ≠ (u366003 : Value).ownBlock) u323003 x323003_4) ∧ Aside0 (Kd.R (Kd.int .i64) 3 w' w.heap.size (fun k_ => some k_ ≠ (u315003 : Value).ownBlock ∧ some k_ ≠ (u323003 : Value).ownBlock ∧ some k_ ≠ (u344003 : Value).ownBlock ∧ some k_ ≠ (u358003 : Value).ownBlock ∧ some k_ ≠ (u366003 : Value).ownBlock) u330003 x330003_4) ∧ Aside0 (Kd.R (Kd.int .i64) 3 w' w.heap.size (fun k_ => some k_ ≠ (u315003 : Value).ownBlock ∧ some k_ ≠ (u323003 : Value).ownBlock ∧ some k_ ≠ (u330003 : Value).ownBlock ∧ some k_ ≠ (u358003 : Value).ownBlock ∧ some k_ ≠ (u366003 : Value).ownBlock) u344003 x344003_4) ∧ Aside0 (Kd.R (Kd.int .i64) 3 w' w.heap.size (fun k_ => some k_ ≠ (u315003 : Value).ownBlock ∧ some k_ ≠ (u323003 : Value).ownBlock ∧ some k_ ≠ (u330003 : Value).ownBlock ∧ some k_ ≠ (u344003 : Value).ownBlock ∧ some k_ ≠ (u366003 : Value).ownBlock) u358003 x358003_4) ∧ Aside0 (Kd.R (Kd.int .i64) 3 w' w.heap.size (fun k_ => some k_ ≠ (u315003 : Value).ownBlock ∧ some k_ ≠ (u323003 : Value).ownBlock ∧ some k_ ≠ (u330003 : Value).ownBlock ∧ some k_ ≠ (u344003 : Value).ownBlock ∧ some k_ ≠ (u358003 : Value).ownBlock) u366003 x366003_4) ∧ Aside0 (w'.heap[gb314]? = some (.cells #[.int .i64 t307, .int .i64 t308, .int .i64 t309, u315003] 26 (0, 0))) ∧ Aside0 (w'.heap[gb322]? = some (.cells #[.int .i64 t315, .int .i64 t316, .int .i64 t317, u323003] 26 (0, 0))) ∧ Aside0 (w'.heap[gb329]? = some (.cells #[.int .i64 t323, .int .i64 t324, .int .i64 t325, u330003] 26 (0, 0))) ∧ Aside0 (w'.heap[gb335]? = some (.cells #[.int .i64 t330, .int .i64 t331, .int .i64 t332, .int .i64 t333] 31 (0, 0))) ∧ Aside0 (w'.heap[gb343]? = some (.cells #[.int .i64 t336, .int .i64 t337, .int .i64 t338, u344003] 26 (0, 0))) ∧ Aside0 (w'.heap[gb357]? = some (.cells #[.int .i64 t350, .int .i64 t351, .int .i64 t352, u358003] 26 (0, 0))) ∧ Aside0 (w'.heap[gb365]? = some (.cells #[.int .i64 t358, .int .i64 t359, .int .i64 t360, u366003] 26 (0, 0))) ∧ Aside0 (Below w.heap.size w w'))
          case atStart => exact ⟨(0), (x315003_3), (x323003_3), (x330003_3), (x344003_3), (x358003_3), (x366003_3), (u315003), (u323003), (u330003), (u344003), (.slice Ao123 x358003_3.length co123), (u366003), q198_, H', ⟨Nat.le_refl _⟩, ⟨q172_⟩, ⟨q173_⟩, ⟨q174_⟩, ⟨q175_⟩, ⟨q176_⟩, ⟨q177_⟩, ⟨q163_⟩, ⟨q164_⟩, ⟨q165_⟩, ⟨q166_⟩, ⟨q167_⟩, ⟨q168_⟩, ⟨q169_⟩, ⟨q23_⟩⟩
          case round =>
           clear H'
           try clear c1
           try clear p1
           try clear q1
           try clear hx1
           try clear hf1
           try clear p2
           try clear c6
           try clear p6
           try clear c7
           try clear c8
           try clear p8
           try clear q8
           try clear hx8
           try clear hf8
           try clear c9
           try clear c10
           try clear p10
           try clear q10
           try clear hx10
           try clear hf10
           try clear c11
           try clear c12
           try clear c14
           try clear p64
           try clear c66
           try clear c70
           try clear c71
           try clear c72
           try clear c73
           try clear c74
           try clear c75
           try clear c76
           try clear c79
           try clear c80
           try clear c81
           try clear c82
           try clear c82b0
           try clear c83
           try clear c83b0
           try clear p84
           try clear q84
           try clear hx84
           try clear hf84
           try clear c85
           try clear c86
           try clear c87
           try clear c88
           try clear c89
           try clear c90
           try clear c95
           try clear c96
           try clear c97
           try clear c98
           try clear c99
           try clear c100
           try clear c103
           try clear c103b0
           try clear c104
           try clear c104b0
           try clear p105
           try clear q105
           try clear hx105
           try clear hf105
           try clear c106
           try clear c107
           try clear c108
           try clear c109
           try clear c110
           try clear c111
           try clear c116
           try clear c117
           try clear c118
           try clear c119
           try clear c120
           try clear c121
           try clear hcz101_0
           try clear hcz101_1
           try clear hcz101_2
           try clear hcz101_3
           try clear hcz112_0
           try clear hcz112_1
           try clear hcz112_2
           try clear hcz112_3
           try clear hcz122_0
           try clear hcz122_1
           try clear hcz122_2
           try clear hcz122_3
           try clear hcz67_0
           try clear hcz67_1
           try clear hcz67_2
           try clear hcz67_3
           try clear hcz77_0
           try clear hcz77_1
           try clear hcz77_2
           try clear hcz77_3
           try clear hcz91_0
           try clear hcz91_1
           try clear hcz91_2
           try clear hcz91_3
           try clear hfz101_0
           try clear hfz101_1
           try clear hfz101_2
           try clear hfz101_3
           try clear hfz112_0
           try clear hfz112_1
           try clear hfz112_2
           try clear hfz112_3
           try clear hfz122_0
           try clear hfz122_1
           try clear hfz122_2
           try clear hfz122_3
           try clear hfz67_0
           try clear hfz67_1
           try clear hfz67_2
           try clear hfz67_3
           try clear hfz77_0
           try clear hfz77_1
           try clear hfz77_2
           try clear hfz77_3
           try clear hfz91_0
           try clear hfz91_1
           try clear hfz91_2
           try clear hfz91_3
           try clear hx105_0
           try clear hx84_0
           try clear p105
           try clear p2
           try clear p6
           try clear p64
           try clear p8
           try clear p84
           try clear q105
           try clear q8
           try clear q84
           obtain ⟨x16_4, x315003_4, x323003_4, x330003_4, x344003_4, x358003_4, x366003_4, u315003, u323003, u330003, u344003, u358003, u366003, rfl, HA, HK4, HO_315003, HO_323003, HO_330003, HO_344003, HO_358003, HO_366003, BK314, BK322, BK329, BK335, BK343, BK357, BK365, HB⟩ := hrel
           cases gk with
           | zero => exact absurd HA.out (by simp [tilefarmlaw4_PlaneShares.l2])
           | succ k4 =>
            have H := HA.out
            clear HA
            simp only [tilefarmlaw4_PlaneShares.l2] at H
            by_cases c124 : x16_4 < (x366003_4.length : Int)
            ·rw [if_pos c124] at H
             have c124b0 : decide (x16_4 < (x366003_4.length : Int)) = true := decide_eq_true c124
             clear c124
             by_cases c125 : 0 ≤ x16_4
             ·rw [if_pos c125] at H
              have c125b0 : decide (0 ≤ x16_4) = true := decide_eq_true c125
              clear c125
              obtain ⟨y368, hy368⟩ : ∃ y_ : List Int, y_ = (x366003_4.set (x16_4 : Int).toNat (-1)) := ⟨_, rfl⟩
              replace H : (tilefarmlaw4_PlaneShares.l2 k4 (wrap64 (x16_4 + 1)) t307 t308 t309 x315003_4 t315 t316 t317 x323003_4 t323 t324 t325 x330003_4 t330 t331 t332 t333 t358 t359 t360 y368) = some r := by first | (rw [hy368]; with_reducible exact H) | (have H2_ := (Option.bind_some _ _).symm.trans H; rw [hy368]; with_reducible exact H2_) | (have H2_ := (Option.bind_some _ _).symm.trans H; with_reducible exact H2_) | with_reducible exact H | (rw [hy368]; exact H) | exact H
              have Ny368 := am_ hy368
              clear hy368
              have H' := am_ H
              clear H
              have hnb127 := NB365_314.out
              have hnc127 := NB314_365.out
              have hnb128 := NB365_322.out
              have hnc128 := NB322_365.out
              have hnb129 := NB365_329.out
              have hnc129 := NB329_365.out
              have hnb130 := NB365_335.out
              have hnc130 := NB335_365.out
              have hnb131 := NB365_343.out
              have hnc131 := NB343_365.out
              have hnb132 := NB365_357.out
              have hnc132 := NB357_365.out
              have hcz133_0 : wr.cell? ⟨gb365, 0, none⟩ = some (.int .i64 t358) := (blk_cell BK365.out 0).trans rfl
              have hcz133_1 : wr.cell? ⟨gb365, 1, none⟩ = some (.int .i64 t359) := (blk_cell BK365.out 1).trans rfl
              have hcz133_2 : wr.cell? ⟨gb365, 2, none⟩ = some (.int .i64 t360) := (blk_cell BK365.out 2).trans rfl
              have hcz133_3 : wr.cell? ⟨gb365, 3, none⟩ = some (u366003) := (blk_cell BK365.out 3).trans rfl
              have hfz133_0 := blk_frozen BK365.out 0
              have hfz133_1 := blk_frozen BK365.out 1
              have hfz133_2 := blk_frozen BK365.out 2
              have hfz133_3 := blk_frozen BK365.out 3
              obtain ⟨Ao134, co134, eo134⟩ := Kd.R_slice HO_366003.out
              subst eo134
              have p126 : 0 ≤ (x16_4 : Int) := of_decide_eq_true q197_
              have q126 : (x16_4 : Int) < ((x366003_4.length : Int) : Int) := of_decide_eq_true q197_
              obtain ⟨go126, co126, eo126, gb126, gl126, cl126, HG126⟩ := Kd.R_form HO_366003.out (by omega)
              (first | cases eo126 | (injection eo126 with ea_ en_ ec_; (first | subst ea_ | (injection ea_ with ea_; subst ea_)); subst ec_; clear en_))
              have GB126 := am_ gb126
              have GG126 := am_ HG126
              clear gb126 gl126 HG126
              obtain ⟨hx126_0, hf126_0⟩ := Kd.R_celln 0 HO_366003.out (x16_4 : Int) p126 q126
              replace p126 := eq_true p126
              replace q126 := eq_true q126
              have HP135 := Kd.R_putg HO_366003.out (x16_4 : Int) (-1)
              go_wp2_with (first | ((with_reducible refine gate_store (t := 3) (p := 104) rfl ?_); refine store_event (t := 3) (p := 104) (v := ?vo_w136) (w1 := (wr.setCell ⟨go126, (x16_4 : Int).toNat, none⟩ (.int .i64 (-1)))) ?hg ?ho ?hn ?hr ?_; (case ho => rfl); (case hg => rfl); (case hn => rfl); (case hr => first | (go_simp; done) | (go_simp; rfl)); intro w136 hw; have hg : wr.grownBy w136 (some go126) := (by rw [hw]; exact HP135.2); have hp_ : Kd.R (Kd.int .i64) 3 w136 w.heap.size (fun k_ => some k_ ≠ (u315003 : Value).ownBlock ∧ some k_ ≠ (u323003 : Value).ownBlock ∧ some k_ ≠ (u330003 : Value).ownBlock ∧ some k_ ≠ (u344003 : Value).ownBlock ∧ some k_ ≠ (u358003 : Value).ownBlock) (.slice (some ⟨go126, 0, none⟩) x366003_4.length co134) y368 := (by rw [hw, Ny368.out]; exact HP135.1); clear HP135; have n0_ := am_ (Kd.R_after (v := (.slice (some ⟨go126, 0, none⟩) x366003_4.length co134)) (v1 := (.slice (some ⟨go126, 0, none⟩) x366003_4.length co134)) (ok := (fun k_ => some k_ ≠ (u323003 : Value).ownBlock ∧ some k_ ≠ (u330003 : Value).ownBlock ∧ some k_ ≠ (u344003 : Value).ownBlock ∧ some k_ ≠ (u358003 : Value).ownBlock)) (by (with_reducible repeat (first | apply Kd.R_alloc | apply Kd.R_drewN | apply Kd.R_drew)); exact Kd.R_mono HO_315003.out (fun _ hk => ⟨⟨hk.1, ⟨hk.2.1, ⟨hk.2.2.1, hk.2.2.2.1⟩⟩⟩, hk.2.2.2.2⟩)) hg (.inl rfl)); have n1_ := am_ (Kd.R_after (v := (.slice (some ⟨go126, 0, none⟩) x366003_4.length co134)) (v1 := (.slice (some ⟨go126, 0, none⟩) x366003_4.length co134)) (ok := (fun k_ => some k_ ≠ (u315003 : Value).ownBlock ∧ some k_ ≠ (u330003 : Value).ownBlock ∧ some k_ ≠ (u344003 : Value).ownBlock ∧ some k_ ≠ (u358003 : Value).ownBlock)) (by (with_reducible repeat (first | apply Kd.R_alloc | apply Kd.R_drewN | apply Kd.R_drew)); exact Kd.R_mono HO_323003.out (fun _ hk => ⟨⟨hk.1, ⟨hk.2.1, ⟨hk.2.2.1, hk.2.2.2.1⟩⟩⟩, hk.2.2.2.2⟩)) hg (.inl rfl)); have n2_ := am_ (Kd.R_after (v := (.slice (some ⟨go126, 0, none⟩) x366003_4.length co134)) (v1 := (.slice (some ⟨go126, 0, none⟩) x366003_4.length co134)) (ok := (fun k_ => some k_ ≠ (u315003 : Value).ownBlock ∧ some k_ ≠ (u323003 : Value).ownBlock ∧ some k_ ≠ (u344003 : Value).ownBlock ∧ some k_ ≠ (u358003 : Value).ownBlock)) (by (with_reducible repeat (first | apply Kd.R_alloc | apply Kd.R_drewN | apply Kd.R_drew)); exact Kd.R_mono HO_330003.out (fun _ hk => ⟨⟨hk.1, ⟨hk.2.1, ⟨hk.2.2.1, hk.2.2.2.1⟩⟩⟩, hk.2.2.2.2⟩)) hg (.inl rfl)); have n3_ := am_ (Kd.R_after (v := (.slice (some ⟨go126, 0, none⟩) x366003_4.length co134)) (v1 := (.slice (some ⟨go126, 0, none⟩) x366003_4.length co134)) (ok := (fun k_ => some k_ ≠ (u315003 : Value).ownBlock ∧ some k_ ≠ (u323003 : Value).ownBlock ∧ some k_ ≠ (u330003 : Value).ownBlock ∧ some k_ ≠ (u358003 : Value).ownBlock)) (by (with_reducible repeat (first | apply Kd.R_alloc | apply Kd.R_drewN | apply Kd.R_drew)); exact Kd.R_mono HO_344003.out (fun _ hk => ⟨⟨hk.1, ⟨hk.2.1, ⟨hk.2.2.1, hk.2.2.2.1⟩⟩⟩, hk.2.2.2.2⟩)) hg (.inl rfl)); have n4_ := am_ (Kd.R_after (v := (.slice (some ⟨go126, 0, none⟩) x366003_4.length co134)) (v1 := (.slice (some ⟨go126, 0, none⟩) x366003_4.length co134)) (ok := (fun k_ => some k_ ≠ (u315003 : Value).ownBlock ∧ some k_ ≠ (u323003 : Value).ownBlock ∧ some k_ ≠ (u330003 : Value).ownBlock ∧ some k_ ≠ (u344003 : Value).ownBlock)) (by (with_reducible repeat (first | apply Kd.R_alloc | apply Kd.R_drewN | apply Kd.R_drew)); exact Kd.R_mono HO_358003.out (fun _ hk => ⟨⟨hk.1, ⟨hk.2.1, ⟨hk.2.2.1, hk.2.2.2.1⟩⟩⟩, hk.2.2.2.2⟩)) hg (.inl rfl)); have n5_ := am_ (hp_); have n6_ := am_ (blk_grown (g := gb314) (o := .cells #[.int .i64 t307, .int .i64 t308, .int .i64 t309, u315003] 26 (0, 0)) q163_ hg (Kd.R_ne HO_366003.out BK314.out (by decide))); have n7_ := am_ (blk_grown (g := gb322) (o := .cells #[.int .i64 t315, .int .i64 t316, .int .i64 t317, u323003] 26 (0, 0)) q164_ hg (Kd.R_ne HO_366003.out BK322.out (by decide))); have n8_ := am_ (blk_grown (g := gb329) (o := .cells #[.int .i64 t323, .int .i64 t324, .int .i64 t325, u330003] 26 (0, 0)) q165_ hg (Kd.R_ne HO_366003.out BK329.out (by decide))); have n9_ := am_ (blk_grown (g := gb335) (o := .cells #[.int .i64 t330, .int .i64 t331, .int .i64 t332, .int .i64 t333] 31 (0, 0)) q166_ hg (Kd.R_ne HO_366003.out BK335.out (by decide))); have n10_ := am_ (blk_grown (g := gb343) (o := .cells #[.int .i64 t336, .int .i64 t337, .int .i64 t338, u344003] 26 (0, 0)) q167_ hg (Kd.R_ne HO_366003.out BK343.out (by decide))); have n11_ := am_ (blk_grown (g := gb357) (o := .cells #[.int .i64 t350, .int .i64 t351, .int .i64 t352, u358003] 26 (0, 0)) q168_ hg (Kd.R_ne HO_366003.out BK357.out (by decide))); have n12_ := am_ (blk_grown (g := gb365) (o := .cells #[.int .i64 t358, .int .i64 t359, .int .i64 t360, .slice (some ⟨go126, 0, none⟩) x366003_4.length co134] 26 (0, 0)) q169_ hg (Kd.R_ne HO_366003.out BK365.out (by decide))); have n13_ := am_ ((by rw [hw]; exact below_set (HB.out) GB126.out : Below w.heap.size w w136)); clear HO_315003; clear HO_323003; clear HO_330003; clear HO_344003; clear HO_358003; clear HO_366003; clear BK314; clear BK322; clear BK329; clear BK335; clear BK343; clear BK357; clear BK365; clear HB; have HO_315003 := n0_; have HO_323003 := n1_; have HO_330003 := n2_; have HO_344003 := n3_; have HO_358003 := n4_; have HO_366003 := n5_; have BK314 := n6_; have BK322 := n7_; have BK329 := n8_; have BK335 := n9_; have BK343 := n10_; have BK357 := n11_; have BK365 := n12_; have HB := n13_; clear n0_ n1_ n2_ n3_ n4_ n5_ n6_ n7_ n8_ n9_ n10_ n11_ n12_ n13_; clear hg hw hp_))
              go_roundg k4
              case measure => have := HJ12.out; have := HK2.out; have := HK3.out; have := HK4.out; omega
              case rel => exact ⟨(wrap64 (x16_4 + 1)), (x315003_4), (x323003_4), (x330003_4), (x344003_4), (x358003_4), (y368), (u315003), (u323003), (u330003), (u344003), (u358003), (.slice (some ⟨go126, 0, none⟩) x366003_4.length co134), q198_, H', ⟨by have := HJ12.out; have := HK2.out; have := HK3.out; have := HK4.out; omega⟩, ⟨by (with_reducible repeat (first | apply Kd.R_alloc | apply Kd.R_drewN | apply Kd.R_drew)); exact Kd.R_mono HO_315003.out (fun _ hk => ⟨hk.1.1, ⟨hk.1.2.1, ⟨hk.1.2.2.1, ⟨hk.1.2.2.2, hk.2⟩⟩⟩⟩)⟩, ⟨by (with_reducible repeat (first | apply Kd.R_alloc | apply Kd.R_drewN | apply Kd.R_drew)); exact Kd.R_mono HO_323003.out (fun _ hk => ⟨hk.1.1, ⟨hk.1.2.1, ⟨hk.1.2.2.1, ⟨hk.1.2.2.2, hk.2⟩⟩⟩⟩)⟩, ⟨by (with_reducible repeat (first | apply Kd.R_alloc | apply Kd.R_drewN | apply Kd.R_drew)); exact Kd.R_mono HO_330003.out (fun _ hk => ⟨hk.1.1, ⟨hk.1.2.1, ⟨hk.1.2.2.1, ⟨hk.1.2.2.2, hk.2⟩⟩⟩⟩)⟩, ⟨by (with_reducible repeat (first | apply Kd.R_alloc | apply Kd.R_drewN | apply Kd.R_drew)); exact Kd.R_mono HO_344003.out (fun _ hk => ⟨hk.1.1, ⟨hk.1.2.1, ⟨hk.1.2.2.1, ⟨hk.1.2.2.2, hk.2⟩⟩⟩⟩)⟩, ⟨by (with_reducible repeat (first | apply Kd.R_alloc | apply Kd.R_drewN | apply Kd.R_drew)); exact Kd.R_mono HO_358003.out (fun _ hk => ⟨hk.1.1, ⟨hk.1.2.1, ⟨hk.1.2.2.1, ⟨hk.1.2.2.2, hk.2⟩⟩⟩⟩)⟩, ⟨q177_⟩, ⟨q163_⟩, ⟨q164_⟩, ⟨q165_⟩, ⟨q166_⟩, ⟨q167_⟩, ⟨q168_⟩, ⟨q169_⟩, ⟨q23_⟩⟩
             ·rw [if_neg c125] at H
              exact absurd H (by simp)
            ·rw [if_neg c124] at H
             have c124b0 : decide (x16_4 < (x366003_4.length : Int)) = false := decide_eq_false c124
             clear c124
             replace H := Option.bind_eq_some_iff.mp H
             obtain ⟨⟨t369, t370, t371, t372, t375⟩, A1370, H⟩ := H
             replace H : ((plane_Equal.f k4 t307 t308 t309 x315003_4 t323 t324 t325 x330003_4).bind fun t377 => (if t377 = true then ((tilefarmref4_Valid.f k4 t315 t316 t317 x323003_4).bind fun t378 => (if t378 = true then (if t375 = true then ((plane_Valid.f k4 t369 t370 t371 t372).bind fun t379 => (if t379 = true then ((tilefarmlaw4_sane.f k4).bind fun t380 => (some t380)) else (some false))) else (some false)) else (some false))) else (some false))) = some r := H
             have A137 := am_ A1370
             clear A1370
             replace H := Option.bind_eq_some_iff.mp H
             obtain ⟨t377, A1380, H⟩ := H
             replace H : (if t377 = true then ((tilefarmref4_Valid.f k4 t315 t316 t317 x323003_4).bind fun t378 => (if t378 = true then (if t375 = true then ((plane_Valid.f k4 t369 t370 t371 t372).bind fun t379 => (if t379 = true then ((tilefarmlaw4_sane.f k4).bind fun t380 => (some t380)) else (some false))) else (some false)) else (some false))) else (some false)) = some r := H
             have A138 := am_ A1380
             clear A1380
             by_cases c139 : t377 = true
             ·subst c139
              have H1 : ((tilefarmref4_Valid.f k4 t315 t316 t317 x323003_4).bind fun t378 => (if t378 = true then (if t375 = true then ((plane_Valid.f k4 t369 t370 t371 t372).bind fun t379 => (if t379 = true then ((tilefarmlaw4_sane.f k4).bind fun t380 => (some t380)) else (some false))) else (some false)) else (some false))) = some r := by rw [if_pos rfl] at H; exact H
              clear H
              have H := H1
              clear H1
              replace H := Option.bind_eq_some_iff.mp H
              obtain ⟨t378, A1400, H⟩ := H
              replace H : (if t378 = true then (if t375 = true then ((plane_Valid.f k4 t369 t370 t371 t372).bind fun t379 => (if t379 = true then ((tilefarmlaw4_sane.f k4).bind fun t380 => (some t380)) else (some false))) else (some false)) else (some false)) = some r := H
              have A140 := am_ A1400
              clear A1400
              by_cases c141 : t378 = true
              ·subst c141
               have H1 : (if t375 = true then ((plane_Valid.f k4 t369 t370 t371 t372).bind fun t379 => (if t379 = true then ((tilefarmlaw4_sane.f k4).bind fun t380 => (some t380)) else (some false))) else (some false)) = some r := by rw [if_pos rfl] at H; exact H
               clear H
               have H := H1
               clear H1
               by_cases c142 : t375 = true
               ·subst c142
                have H1 : ((plane_Valid.f k4 t369 t370 t371 t372).bind fun t379 => (if t379 = true then ((tilefarmlaw4_sane.f k4).bind fun t380 => (some t380)) else (some false))) = some r := by rw [if_pos rfl] at H; exact H
                clear H
                have H := H1
                clear H1
                replace H := Option.bind_eq_some_iff.mp H
                obtain ⟨t379, A1430, H⟩ := H
                replace H : (if t379 = true then ((tilefarmlaw4_sane.f k4).bind fun t380 => (some t380)) else (some false)) = some r := H
                have A143 := am_ A1430
                clear A1430
                by_cases c144 : t379 = true
                ·subst c144
                 have H1 : ((tilefarmlaw4_sane.f k4).bind fun t380 => (some t380)) = some r := by rw [if_pos rfl] at H; exact H
                 clear H
                 have H := H1
                 clear H1
                 replace H := Option.bind_eq_some_iff.mp H
                 obtain ⟨t380, A1450, H⟩ := H
                 replace H : (some t380) = some r := H
                 have A145 := am_ A1450
                 clear A1450
                 obtain rfl := Option.some.inj H
                 have hnb146 := NB365_314.out
                 have hnc146 := NB314_365.out
                 have hnb147 := NB365_322.out
                 have hnc147 := NB322_365.out
                 have hnb148 := NB365_329.out
                 have hnc148 := NB329_365.out
                 have hnb149 := NB365_335.out
                 have hnc149 := NB335_365.out
                 have hnb150 := NB365_343.out
                 have hnc150 := NB343_365.out
                 have hnb151 := NB365_357.out
                 have hnc151 := NB357_365.out
                 have hcz152_0 : wr.cell? ⟨gb365, 0, none⟩ = some (.int .i64 t358) := (blk_cell BK365.out 0).trans rfl
                 have hcz152_1 : wr.cell? ⟨gb365, 1, none⟩ = some (.int .i64 t359) := (blk_cell BK365.out 1).trans rfl
                 have hcz152_2 : wr.cell? ⟨gb365, 2, none⟩ = some (.int .i64 t360) := (blk_cell BK365.out 2).trans rfl
                 have hcz152_3 : wr.cell? ⟨gb365, 3, none⟩ = some (u366003) := (blk_cell BK365.out 3).trans rfl
                 have hfz152_0 := blk_frozen BK365.out 0
                 have hfz152_1 := blk_frozen BK365.out 1
                 have hfz152_2 := blk_frozen BK365.out 2
                 have hfz152_3 := blk_frozen BK365.out 3
                 obtain ⟨Ao153, co153, eo153⟩ := Kd.R_slice HO_366003.out
                 subst eo153
                 have hnb154 := NB314_322.out
                 have hnc154 := NB322_314.out
                 have hnb155 := NB314_329.out
                 have hnc155 := NB329_314.out
                 have hnb156 := NB314_335.out
                 have hnc156 := NB335_314.out
                 have hnb157 := NB314_343.out
                 have hnc157 := NB343_314.out
                 have hnb158 := NB314_357.out
                 have hnc158 := NB357_314.out
                 have hcz159_0 : wr.cell? ⟨gb314, 0, none⟩ = some (.int .i64 t307) := (blk_cell BK314.out 0).trans rfl
                 have hcz159_1 : wr.cell? ⟨gb314, 1, none⟩ = some (.int .i64 t308) := (blk_cell BK314.out 1).trans rfl
                 have hcz159_2 : wr.cell? ⟨gb314, 2, none⟩ = some (.int .i64 t309) := (blk_cell BK314.out 2).trans rfl
                 have hcz159_3 : wr.cell? ⟨gb314, 3, none⟩ = some (u315003) := (blk_cell BK314.out 3).trans rfl
                 have hfz159_0 := blk_frozen BK314.out 0
                 have hfz159_1 := blk_frozen BK314.out 1
                 have hfz159_2 := blk_frozen BK314.out 2
                 have hfz159_3 := blk_frozen BK314.out 3
                 have hnb160 := NB335_322.out
                 have hnc160 := NB322_335.out
                 have hnb161 := NB335_329.out
                 have hnc161 := NB329_335.out
                 have hnb162 := NB335_343.out
                 have hnc162 := NB343_335.out
                 have hnb163 := NB335_357.out
                 have hnc163 := NB357_335.out
                 have hcz164_0 : wr.cell? ⟨gb335, 0, none⟩ = some (.int .i64 t330) := (blk_cell BK335.out 0).trans rfl
                 have hcz164_1 : wr.cell? ⟨gb335, 1, none⟩ = some (.int .i64 t331) := (blk_cell BK335.out 1).trans rfl
                 have hcz164_2 : wr.cell? ⟨gb335, 2, none⟩ = some (.int .i64 t332) := (blk_cell BK335.out 2).trans rfl
                 have hcz164_3 : wr.cell? ⟨gb335, 3, none⟩ = some (.int .i64 t333) := (blk_cell BK335.out 3).trans rfl
                 have hfz164_0 := blk_frozen BK335.out 0
                 have hfz164_1 := blk_frozen BK335.out 1
                 have hfz164_2 := blk_frozen BK335.out 2
                 have hfz164_3 := blk_frozen BK335.out 3
                 obtain ⟨Ao165, co165, eo165⟩ := Kd.R_slice HO_315003.out
                 subst eo165
                 go_wp2_with (first | ((with_reducible refine gate_callee (f := 13) rfl ?_); refine goesL_ (some 108) rfl rfl Try.func13 (by kernel_rfl) rfl #[.agg #[.int .i64 t307, .int .i64 t308, .int .i64 t309, .slice Ao165 x315003_4.length co165], .agg #[.int .i64 t330, .int .i64 t331, .int .i64 t332, .int .i64 t333]] rfl q130_ ?_; (with_reducible refine (plane_Crop.calls k4 t307 t308 t309 _ _ x315003_4 t330 t331 t332 t333 t369 t370 t371 t372 true _ ?side1 ?side2 A137.out).mono ?_); (case side1 => repeat (first | exact (Kd.R_reads' HO_315003.out).2.2 | (with_reducible refine Kd.C_alloc ?_ _) | (with_reducible refine Kd.C_drewN ?_ _) | (with_reducible refine Kd.C_drew ?_))); (case side2 => exact (Kd.R_reads' HO_315003.out).2.1); rintro e w166 ⟨v373, rfl, ho0, hb⟩; refine ⟨_, rfl, ?_⟩; have n0_ := am_ (Kd.R_elder' q172_ (Kd.R_base ho0) hb); have n1_ := am_ (Kd.R_elder' q173_ (Kd.R_base ho0) hb); have n2_ := am_ (Kd.R_elder' q174_ (Kd.R_base ho0) hb); have n3_ := am_ (Kd.R_elder' q175_ (Kd.R_base ho0) hb); have n4_ := am_ (Kd.R_elder' q176_ (Kd.R_base ho0) hb); have n5_ := am_ (Kd.R_elder' q177_ (Kd.R_base ho0) hb); have n6_ := am_ (Kd.R_lower (Kd.R_new' (Kd.R_new' (Kd.R_new' (Kd.R_new' (Kd.R_new' (Kd.R_new' ho0 (Kd.R_lt q172_)) (Kd.R_lt q173_)) (Kd.R_lt q174_)) (Kd.R_lt q175_)) (Kd.R_lt q176_)) (Kd.R_lt q177_)) (below_size q23_)); have n7_ := am_ (blk_below (g := gb314) (o := .cells #[.int .i64 t307, .int .i64 t308, .int .i64 t309, .slice Ao165 x315003_4.length co165] 26 (0, 0)) q163_ hb); have n8_ := am_ (blk_below (g := gb322) (o := .cells #[.int .i64 t315, .int .i64 t316, .int .i64 t317, u323003] 26 (0, 0)) q164_ hb); have n9_ := am_ (blk_below (g := gb329) (o := .cells #[.int .i64 t323, .int .i64 t324, .int .i64 t325, u330003] 26 (0, 0)) q165_ hb); have n10_ := am_ (blk_below (g := gb335) (o := .cells #[.int .i64 t330, .int .i64 t331, .int .i64 t332, .int .i64 t333] 31 (0, 0)) q166_ hb); have n11_ := am_ (blk_below (g := gb343) (o := .cells #[.int .i64 t336, .int .i64 t337, .int .i64 t338, u344003] 26 (0, 0)) q167_ hb); have n12_ := am_ (blk_below (g := gb357) (o := .cells #[.int .i64 t350, .int .i64 t351, .int .i64 t352, u358003] 26 (0, 0)) q168_ hb); have n13_ := am_ (blk_below (g := gb365) (o := .cells #[.int .i64 t358, .int .i64 t359, .int .i64 t360, .slice Ao153 x366003_4.length co153] 26 (0, 0)) q169_ hb); have n14_ := am_ (below_step q23_ hb); clear HO_315003; clear HO_323003; clear HO_330003; clear HO_344003; clear HO_358003; clear HO_366003; clear BK314; clear BK322; clear BK329; clear BK335; clear BK343; clear BK357; clear BK365; clear HB; have HO_315003 := n0_; have HO_323003 := n1_; have HO_330003 := n2_; have HO_344003 := n3_; have HO_358003 := n4_; have HO_366003 := n5_; have HO374 := n6_; have BK314 := n7_; have BK322 := n8_; have BK329 := n9_; have BK335 := n10_; have BK343 := n11_; have BK357 := n12_; have BK365 := n13_; have HB := n14_; clear n0_ n1_ n2_ n3_ n4_ n5_ n6_ n7_ n8_ n9_ n10_ n11_ n12_ n13_ n14_; (try clear ho0)) | ((with_reducible refine gate_dst (N := 17) rfl ?_); refine box_event ?hg (N := 17) ?hd (cs := #[.int .i64 0, .int .i64 0, .int .i64 0, .slice none 0 0]) (t := 26) ?hr ?_; (case hd => rfl); (case hg => rfl); (case hr => first | (go_simp; done) | (go_simp; rfl)); intro gb376 hg w167 hbox hb; have n0_ := am_ (Kd.R_below q172_ hb); have n1_ := am_ (Kd.R_below q173_ hb); have n2_ := am_ (Kd.R_below q174_ hb); have n3_ := am_ (Kd.R_below q175_ hb); have n4_ := am_ (Kd.R_below q176_ hb); have n5_ := am_ (Kd.R_below q177_ hb); have n6_ := am_ (Kd.R_below q193_ hb); have n7_ := am_ (blk_below (g := gb314) (o := .cells #[.int .i64 t307, .int .i64 t308, .int .i64 t309, .slice Ao165 x315003_4.length co165] 26 (0, 0)) q163_ hb); have n8_ := am_ (blk_below (g := gb322) (o := .cells #[.int .i64 t315, .int .i64 t316, .int .i64 t317, u323003] 26 (0, 0)) q164_ hb); have n9_ := am_ (blk_below (g := gb329) (o := .cells #[.int .i64 t323, .int .i64 t324, .int .i64 t325, u330003] 26 (0, 0)) q165_ hb); have n10_ := am_ (blk_below (g := gb335) (o := .cells #[.int .i64 t330, .int .i64 t331, .int .i64 t332, .int .i64 t333] 31 (0, 0)) q166_ hb); have n11_ := am_ (blk_below (g := gb343) (o := .cells #[.int .i64 t336, .int .i64 t337, .int .i64 t338, u344003] 26 (0, 0)) q167_ hb); have n12_ := am_ (blk_below (g := gb357) (o := .cells #[.int .i64 t350, .int .i64 t351, .int .i64 t352, u358003] 26 (0, 0)) q168_ hb); have n13_ := am_ (blk_below (g := gb365) (o := .cells #[.int .i64 t358, .int .i64 t359, .int .i64 t360, .slice Ao153 x366003_4.length co153] 26 (0, 0)) q169_ hb); have n14_ := am_ (below_step q23_ hb); have n15_ := am_ (hbox); have n16_ := am_ ((by rw [hg]; exact (below_size q23_) : w.heap.size ≤ gb376)); have n17_ := am_ ((by rw [hg]; exact (below_size q23_) : w.heap.size ≤ gb376)); have n18_ := am_ ((by rw [hg]; exact Nat.ne_of_lt (blk_lt (g := gb314) (o := .cells #[.int .i64 t307, .int .i64 t308, .int .i64 t309, .slice Ao165 x315003_4.length co165] 26 (0, 0)) q163_) : gb314 ≠ gb376)); have n19_ := am_ ((by rw [hg]; exact Nat.ne_of_gt (blk_lt (g := gb314) (o := .cells #[.int .i64 t307, .int .i64 t308, .int .i64 t309, .slice Ao165 x315003_4.length co165] 26 (0, 0)) q163_) : gb376 ≠ gb314)); have n20_ := am_ ((by rw [hg]; exact Nat.ne_of_lt (blk_lt (g := gb322) (o := .cells #[.int .i64 t315, .int .i64 t316, .int .i64 t317, u323003] 26 (0, 0)) q164_) : gb322 ≠ gb376)); have n21_ := am_ ((by rw [hg]; exact Nat.ne_of_gt (blk_lt (g := gb322) (o := .cells #[.int .i64 t315, .int .i64 t316, .int .i64 t317, u323003] 26 (0, 0)) q164_) : gb376 ≠ gb322)); have n22_ := am_ ((by rw [hg]; exact Nat.ne_of_lt (blk_lt (g := gb329) (o := .cells #[.int .i64 t323, .int .i64 t324, .int .i64 t325, u330003] 26 (0, 0)) q165_) : gb329 ≠ gb376)); have n23_ := am_ ((by rw [hg]; exact Nat.ne_of_gt (blk_lt (g := gb329) (o := .cells #[.int .i64 t323, .int .i64 t324, .int .i64 t325, u330003] 26 (0, 0)) q165_) : gb376 ≠ gb329)); have n24_ := am_ ((q56_ : gb335 ≠ gb376)); have n25_ := am_ ((q57_ : gb376 ≠ gb335)); have n26_ := am_ ((by rw [hg]; exact Nat.ne_of_lt (blk_lt (g := gb343) (o := .cells #[.int .i64 t336, .int .i64 t337, .int .i64 t338, u344003] 26 (0, 0)) q167_) : gb343 ≠ gb376)); have n27_ := am_ ((by rw [hg]; exact Nat.ne_of_gt (blk_lt (g := gb343) (o := .cells #[.int .i64 t336, .int .i64 t337, .int .i64 t338, u344003] 26 (0, 0)) q167_) : gb376 ≠ gb343)); have n28_ := am_ ((by rw [hg]; exact Nat.ne_of_lt (blk_lt (g := gb357) (o := .cells #[.int .i64 t350, .int .i64 t351, .int .i64 t352, u358003] 26 (0, 0)) q168_) : gb357 ≠ gb376)); have n29_ := am_ ((by rw [hg]; exact Nat.ne_of_gt (blk_lt (g := gb357) (o := .cells #[.int .i64 t350, .int .i64 t351, .int .i64 t352, u358003] 26 (0, 0)) q168_) : gb376 ≠ gb357)); have n30_ := am_ ((by rw [hg]; exact Nat.ne_of_lt (blk_lt (g := gb365) (o := .cells #[.int .i64 t358, .int .i64 t359, .int .i64 t360, .slice Ao153 x366003_4.length co153] 26 (0, 0)) q169_) : gb365 ≠ gb376)); have n31_ := am_ ((by rw [hg]; exact Nat.ne_of_gt (blk_lt (g := gb365) (o := .cells #[.int .i64 t358, .int .i64 t359, .int .i64 t360, .slice Ao153 x366003_4.length co153] 26 (0, 0)) q169_) : gb376 ≠ gb365)); clear HO_315003; clear HO_323003; clear HO_330003; clear HO_344003; clear HO_358003; clear HO_366003; clear HO374; clear BK314; clear BK322; clear BK329; clear BK335; clear BK343; clear BK357; clear BK365; clear HB; have HO_315003 := n0_; have HO_323003 := n1_; have HO_330003 := n2_; have HO_344003 := n3_; have HO_358003 := n4_; have HO_366003 := n5_; have HO374 := n6_; have BK314 := n7_; have BK322 := n8_; have BK329 := n9_; have BK335 := n10_; have BK343 := n11_; have BK357 := n12_; have BK365 := n13_; have HB := n14_; have BK376 := n15_; have GW376 := n16_; have GE376 := n17_; have NB314_376 := n18_; have NB376_314 := n19_; have NB322_376 := n20_; have NB376_322 := n21_; have NB329_376 := n22_; have NB376_329 := n23_; have NB335_376 := n24_; have NB376_335 := n25_; have NB343_376 := n26_; have NB376_343 := n27_; have NB357_376 := n28_; have NB376_357 := n29_; have NB365_376 := n30_; have NB376_365 := n31_; clear n0_ n1_ n2_ n3_ n4_ n5_ n6_ n7_ n8_ n9_ n10_ n11_ n12_ n13_ n14_ n15_ n16_ n17_ n18_ n19_ n20_ n21_ n22_ n23_ n24_ n25_ n26_ n27_ n28_ n29_ n30_ n31_; clear hb hbox hg; have hnb168 := NB376_314.out; have hnc168 := NB314_376.out; have hnb169 := NB376_322.out; have hnc169 := NB322_376.out; have hnb170 := NB376_329.out; have hnc170 := NB329_376.out; have hnb171 := NB376_335.out; have hnc171 := NB335_376.out; have hnb172 := NB376_343.out; have hnc172 := NB343_376.out; have hnb173 := NB376_357.out; have hnc173 := NB357_376.out; have hnb174 := NB376_365.out; have hnc174 := NB365_376.out; have hcz175_0 : w167.cell? ⟨gb376, 0, none⟩ = some (.int .i64 0) := (blk_cell BK376.out 0).trans rfl; have hcz175_1 : w167.cell? ⟨gb376, 1, none⟩ = some (.int .i64 0) := (blk_cell BK376.out 1).trans rfl; have hcz175_2 : w167.cell? ⟨gb376, 2, none⟩ = some (.int .i64 0) := (blk_cell BK376.out 2).trans rfl; have hcz175_3 : w167.cell? ⟨gb376, 3, none⟩ = some (.slice none 0 0) := (blk_cell BK376.out 3).trans rfl; have hfz175_0 := blk_frozen BK376.out 0; have hfz175_1 := blk_frozen BK376.out 1; have hfz175_2 := blk_frozen BK376.out 2; have hfz175_3 := blk_frozen BK376.out 3; obtain ⟨Ao176, co176, eo176⟩ := Kd.R_slice HO374.out; subst eo176; have hcz177_0 : w167.cell? ⟨gb314, 0, none⟩ = some (.int .i64 t307) := (blk_cell BK314.out 0).trans rfl; have hcz177_1 : w167.cell? ⟨gb314, 1, none⟩ = some (.int .i64 t308) := (blk_cell BK314.out 1).trans rfl; have hcz177_2 : w167.cell? ⟨gb314, 2, none⟩ = some (.int .i64 t309) := (blk_cell BK314.out 2).trans rfl; have hcz177_3 : w167.cell? ⟨gb314, 3, none⟩ = some (.slice Ao165 x315003_4.length co165) := (blk_cell BK314.out 3).trans rfl; have hfz177_0 := blk_frozen BK314.out 0; have hfz177_1 := blk_frozen BK314.out 1; have hfz177_2 := blk_frozen BK314.out 2; have hfz177_3 := blk_frozen BK314.out 3; have hnb178 := NB329_322.out; have hnc178 := NB322_329.out; have hnb179 := NB329_343.out; have hnc179 := NB343_329.out; have hnb180 := NB329_357.out; have hnc180 := NB357_329.out; have hcz181_0 : w167.cell? ⟨gb329, 0, none⟩ = some (.int .i64 t323) := (blk_cell BK329.out 0).trans rfl; have hcz181_1 : w167.cell? ⟨gb329, 1, none⟩ = some (.int .i64 t324) := (blk_cell BK329.out 1).trans rfl; have hcz181_2 : w167.cell? ⟨gb329, 2, none⟩ = some (.int .i64 t325) := (blk_cell BK329.out 2).trans rfl; have hcz181_3 : w167.cell? ⟨gb329, 3, none⟩ = some (u330003) := (blk_cell BK329.out 3).trans rfl; have hfz181_0 := blk_frozen BK329.out 0; have hfz181_1 := blk_frozen BK329.out 1; have hfz181_2 := blk_frozen BK329.out 2; have hfz181_3 := blk_frozen BK329.out 3; obtain ⟨Ao182, co182, eo182⟩ := Kd.R_slice HO_330003.out; subst eo182) | ((with_reducible refine gate_callee (f := 15) rfl ?_); refine goesL_ (some 113) rfl rfl Try.func15 (by kernel_rfl) rfl #[.agg #[.int .i64 t307, .int .i64 t308, .int .i64 t309, .slice Ao165 x315003_4.length co165], .agg #[.int .i64 t323, .int .i64 t324, .int .i64 t325, .slice Ao182 x330003_4.length co182]] rfl q130_ ?_; (with_reducible refine (plane_Equal.calls k4 t307 t308 t309 _ _ x315003_4 t323 t324 t325 _ _ x330003_4 true _ ?side1 ?side2 ?side3 ?side4 A138.out).mono ?_); (case side1 => refine (Kd.R_reads' (e := 3) (base := w.heap.size) (ok := fun k_ => ((some k_ ≠ (u323003 : Value).ownBlock ∧ (some k_ ≠ (.slice Ao182 x330003_4.length co182 : Value).ownBlock ∧ (some k_ ≠ (u344003 : Value).ownBlock ∧ (some k_ ≠ (u358003 : Value).ownBlock ∧ some k_ ≠ (.slice Ao153 x366003_4.length co153 : Value).ownBlock)))) ∧ some k_ ≠ (.slice Ao176 t372.length co176 : Value).ownBlock)) (n := x315003_4.length) (c := co165) ?_).2.2; exact (by (with_reducible repeat (first | apply Kd.R_alloc | apply Kd.R_drewN | apply Kd.R_drew)); exact (Kd.R_mono (Kd.R_far (p := ⟨gb376, 3, none⟩) (Kd.R_far (p := ⟨gb376, 2, none⟩) (Kd.R_far (p := ⟨gb376, 1, none⟩) (Kd.R_far (p := ⟨gb376, 0, none⟩) (Kd.R_types HO_315003.out BK376.out (by decide)) (fun _ hk => hk.2) (.int .i64 t369)) (fun _ hk => hk.2) (.int .i64 t370)) (fun _ hk => hk.2) (.int .i64 t371)) (fun _ hk => hk.2) (.slice Ao176 t372.length co176)) (fun _ h_ => h_.1)))); (case side2 => exact (Kd.R_reads' HO_315003.out).2.1); (case side3 => refine (Kd.R_reads' (e := 3) (base := w.heap.size) (ok := fun k_ => ((some k_ ≠ (.slice Ao165 x315003_4.length co165 : Value).ownBlock ∧ (some k_ ≠ (u323003 : Value).ownBlock ∧ (some k_ ≠ (u344003 : Value).ownBlock ∧ (some k_ ≠ (u358003 : Value).ownBlock ∧ some k_ ≠ (.slice Ao153 x366003_4.length co153 : Value).ownBlock)))) ∧ some k_ ≠ (.slice Ao176 t372.length co176 : Value).ownBlock)) (n := x330003_4.length) (c := co182) ?_).2.2; exact (by (with_reducible repeat (first | apply Kd.R_alloc | apply Kd.R_drewN | apply Kd.R_drew)); exact (Kd.R_mono (Kd.R_far (p := ⟨gb376, 3, none⟩) (Kd.R_far (p := ⟨gb376, 2, none⟩) (Kd.R_far (p := ⟨gb376, 1, none⟩) (Kd.R_far (p := ⟨gb376, 0, none⟩) (Kd.R_types HO_330003.out BK376.out (by decide)) (fun _ hk => hk.2) (.int .i64 t369)) (fun _ hk => hk.2) (.int .i64 t370)) (fun _ hk => hk.2) (.int .i64 t371)) (fun _ hk => hk.2) (.slice Ao176 t372.length co176)) (fun _ h_ => h_.1)))); (case side4 => exact (Kd.R_reads' HO_330003.out).2.1); rintro e w183 ⟨rfl, hb⟩; refine ⟨_, rfl, ?_⟩; have n0_ := am_ (Kd.R_below (by (with_reducible repeat (first | apply Kd.R_alloc | apply Kd.R_drewN | apply Kd.R_drew)); exact (Kd.R_mono (Kd.R_far (p := ⟨gb376, 3, none⟩) (Kd.R_far (p := ⟨gb376, 2, none⟩) (Kd.R_far (p := ⟨gb376, 1, none⟩) (Kd.R_far (p := ⟨gb376, 0, none⟩) (Kd.R_types HO_315003.out BK376.out (by decide)) (fun _ hk => hk.2) (.int .i64 t369)) (fun _ hk => hk.2) (.int .i64 t370)) (fun _ hk => hk.2) (.int .i64 t371)) (fun _ hk => hk.2) (.slice Ao176 t372.length co176)) (fun _ h_ => h_.1))) hb); have n1_ := am_ (Kd.R_below (by (with_reducible repeat (first | apply Kd.R_alloc | apply Kd.R_drewN | apply Kd.R_drew)); exact (Kd.R_mono (Kd.R_far (p := ⟨gb376, 3, none⟩) (Kd.R_far (p := ⟨gb376, 2, none⟩) (Kd.R_far (p := ⟨gb376, 1, none⟩) (Kd.R_far (p := ⟨gb376, 0, none⟩) (Kd.R_types HO_323003.out BK376.out (by decide)) (fun _ hk => hk.2) (.int .i64 t369)) (fun _ hk => hk.2) (.int .i64 t370)) (fun _ hk => hk.2) (.int .i64 t371)) (fun _ hk => hk.2) (.slice Ao176 t372.length co176)) (fun _ h_ => h_.1))) hb); have n2_ := am_ (Kd.R_below (by (with_reducible repeat (first | apply Kd.R_alloc | apply Kd.R_drewN | apply Kd.R_drew)); exact (Kd.R_mono (Kd.R_far (p := ⟨gb376, 3, none⟩) (Kd.R_far (p := ⟨gb376, 2, none⟩) (Kd.R_far (p := ⟨gb376, 1, none⟩) (Kd.R_far (p := ⟨gb376, 0, none⟩) (Kd.R_types HO_330003.out BK376.out (by decide)) (fun _ hk => hk.2) (.int .i64 t369)) (fun _ hk => hk.2) (.int .i64 t370)) (fun _ hk => hk.2) (.int .i64 t371)) (fun _ hk => hk.2) (.slice Ao176 t372.length co176)) (fun _ h_ => h_.1))) hb); have n3_ := am_ (Kd.R_below (by (with_reducible repeat (first | apply Kd.R_alloc | apply Kd.R_drewN | apply Kd.R_drew)); exact (Kd.R_mono (Kd.R_far (p := ⟨gb376, 3, none⟩) (Kd.R_far (p := ⟨gb376, 2, none⟩) (Kd.R_far (p := ⟨gb376, 1, none⟩) (Kd.R_far (p := ⟨gb376, 0, none⟩) (Kd.R_types HO_344003.out BK376.out (by decide)) (fun _ hk => hk.2) (.int .i64 t369)) (fun _ hk => hk.2) (.int .i64 t370)) (fun _ hk => hk.2) (.int .i64 t371)) (fun _ hk => hk.2) (.slice Ao176 t372.length co176)) (fun _ h_ => h_.1))) hb); have n4_ := am_ (Kd.R_below (by (with_reducible repeat (first | apply Kd.R_alloc | apply Kd.R_drewN | apply Kd.R_drew)); exact (Kd.R_mono (Kd.R_far (p := ⟨gb376, 3, none⟩) (Kd.R_far (p := ⟨gb376, 2, none⟩) (Kd.R_far (p := ⟨gb376, 1, none⟩) (Kd.R_far (p := ⟨gb376, 0, none⟩) (Kd.R_types HO_358003.out BK376.out (by decide)) (fun _ hk => hk.2) (.int .i64 t369)) (fun _ hk => hk.2) (.int .i64 t370)) (fun _ hk => hk.2) (.int .i64 t371)) (fun _ hk => hk.2) (.slice Ao176 t372.length co176)) (fun _ h_ => h_.1))) hb); have n5_ := am_ (Kd.R_below (by (with_reducible repeat (first | apply Kd.R_alloc | apply Kd.R_drewN | apply Kd.R_drew)); exact (Kd.R_mono (Kd.R_far (p := ⟨gb376, 3, none⟩) (Kd.R_far (p := ⟨gb376, 2, none⟩) (Kd.R_far (p := ⟨gb376, 1, none⟩) (Kd.R_far (p := ⟨gb376, 0, none⟩) (Kd.R_types HO_366003.out BK376.out (by decide)) (fun _ hk => hk.2) (.int .i64 t369)) (fun _ hk => hk.2) (.int .i64 t370)) (fun _ hk => hk.2) (.int .i64 t371)) (fun _ hk => hk.2) (.slice Ao176 t372.length co176)) (fun _ h_ => h_.1))) hb); have n6_ := am_ (Kd.R_below (by (with_reducible repeat (first | apply Kd.R_alloc | apply Kd.R_drewN | apply Kd.R_drew)); exact (Kd.R_mono (Kd.R_far (p := ⟨gb376, 3, none⟩) (Kd.R_far (p := ⟨gb376, 2, none⟩) (Kd.R_far (p := ⟨gb376, 1, none⟩) (Kd.R_far (p := ⟨gb376, 0, none⟩) (Kd.R_types HO374.out BK376.out (by decide)) (fun _ hk => hk.2) (.int .i64 t369)) (fun _ hk => hk.2) (.int .i64 t370)) (fun _ hk => hk.2) (.int .i64 t371)) (fun _ hk => hk.2) (.slice Ao176 t372.length co176)) (fun _ h_ => h_.1))) hb); have n7_ := am_ (blk_below (g := gb314) (o := .cells #[.int .i64 t307, .int .i64 t308, .int .i64 t309, .slice Ao165 x315003_4.length co165] 26 (0, 0)) (by (with_reducible repeat (first | refine blk_drewN ?_ _ | refine blk_drew ?_ | refine blk_alloc ?_ _)); refine blk_far ?_ NB314_376.out _; (with_reducible repeat (first | refine blk_drewN ?_ _ | refine blk_drew ?_ | refine blk_alloc ?_ _)); refine blk_far ?_ NB314_376.out _; (with_reducible repeat (first | refine blk_drewN ?_ _ | refine blk_drew ?_ | refine blk_alloc ?_ _)); refine blk_far ?_ NB314_376.out _; (with_reducible repeat (first | refine blk_drewN ?_ _ | refine blk_drew ?_ | refine blk_alloc ?_ _)); refine blk_far ?_ NB314_376.out _; (with_reducible repeat (first | refine blk_drewN ?_ _ | refine blk_drew ?_ | refine blk_alloc ?_ _)); exact BK314.out) hb); have n8_ := am_ (blk_below (g := gb322) (o := .cells #[.int .i64 t315, .int .i64 t316, .int .i64 t317, u323003] 26 (0, 0)) (by (with_reducible repeat (first | refine blk_drewN ?_ _ | refine blk_drew ?_ | refine blk_alloc ?_ _)); refine blk_far ?_ NB322_376.out _; (with_reducible repeat (first | refine blk_drewN ?_ _ | refine blk_drew ?_ | refine blk_alloc ?_ _)); refine blk_far ?_ NB322_376.out _; (with_reducible repeat (first | refine blk_drewN ?_ _ | refine blk_drew ?_ | refine blk_alloc ?_ _)); refine blk_far ?_ NB322_376.out _; (with_reducible repeat (first | refine blk_drewN ?_ _ | refine blk_drew ?_ | refine blk_alloc ?_ _)); refine blk_far ?_ NB322_376.out _; (with_reducible repeat (first | refine blk_drewN ?_ _ | refine blk_drew ?_ | refine blk_alloc ?_ _)); exact BK322.out) hb); have n9_ := am_ (blk_below (g := gb329) (o := .cells #[.int .i64 t323, .int .i64 t324, .int .i64 t325, .slice Ao182 x330003_4.length co182] 26 (0, 0)) (by (with_reducible repeat (first | refine blk_drewN ?_ _ | refine blk_drew ?_ | refine blk_alloc ?_ _)); refine blk_far ?_ NB329_376.out _; (with_reducible repeat (first | refine blk_drewN ?_ _ | refine blk_drew ?_ | refine blk_alloc ?_ _)); refine blk_far ?_ NB329_376.out _; (with_reducible repeat (first | refine blk_drewN ?_ _ | refine blk_drew ?_ | refine blk_alloc ?_ _)); refine blk_far ?_ NB329_376.out _; (with_reducible repeat (first | refine blk_drewN ?_ _ | refine blk_drew ?_ | refine blk_alloc ?_ _)); refine blk_far ?_ NB329_376.out _; (with_reducible repeat (first | refine blk_drewN ?_ _ | refine blk_drew ?_ | refine blk_alloc ?_ _)); exact BK329.out) hb); have n10_ := am_ (blk_below (g := gb335) (o := .cells #[.int .i64 t330, .int .i64 t331, .int .i64 t332, .int .i64 t333] 31 (0, 0)) (by (with_reducible repeat (first | refine blk_drewN ?_ _ | refine blk_drew ?_ | refine blk_alloc ?_ _)); refine blk_far ?_ NB335_376.out _; (with_reducible repeat (first | refine blk_drewN ?_ _ | refine blk_drew ?_ | refine blk_alloc ?_ _)); refine blk_far ?_ NB335_376.out _; (with_reducible repeat (first | refine blk_drewN ?_ _ | refine blk_drew ?_ | refine blk_alloc ?_ _)); refine blk_far ?_ NB335_376.out _; (with_reducible repeat (first | refine blk_drewN ?_ _ | refine blk_drew ?_ | refine blk_alloc ?_ _)); refine blk_far ?_ NB335_376.out _; (with_reducible repeat (first | refine blk_drewN ?_ _ | refine blk_drew ?_ | refine blk_alloc ?_ _)); exact BK335.out) hb); have n11_ := am_ (blk_below (g := gb343) (o := .cells #[.int .i64 t336, .int .i64 t337, .int .i64 t338, u344003] 26 (0, 0)) (by (with_reducible repeat (first | refine blk_drewN ?_ _ | refine blk_drew ?_ | refine blk_alloc ?_ _)); refine blk_far ?_ NB343_376.out _; (with_reducible repeat (first | refine blk_drewN ?_ _ | refine blk_drew ?_ | refine blk_alloc ?_ _)); refine blk_far ?_ NB343_376.out _; (with_reducible repeat (first | refine blk_drewN ?_ _ | refine blk_drew ?_ | refine blk_alloc ?_ _)); refine blk_far ?_ NB343_376.out _; (with_reducible repeat (first | refine blk_drewN ?_ _ | refine blk_drew ?_ | refine blk_alloc ?_ _)); refine blk_far ?_ NB343_376.out _; (with_reducible repeat (first | refine blk_drewN ?_ _ | refine blk_drew ?_ | refine blk_alloc ?_ _)); exact BK343.out) hb); have n12_ := am_ (blk_below (g := gb357) (o := .cells #[.int .i64 t350, .int .i64 t351, .int .i64 t352, u358003] 26 (0, 0)) (by (with_reducible repeat (first | refine blk_drewN ?_ _ | refine blk_drew ?_ | refine blk_alloc ?_ _)); refine blk_far ?_ NB357_376.out _; (with_reducible repeat (first | refine blk_drewN ?_ _ | refine blk_drew ?_ | refine blk_alloc ?_ _)); refine blk_far ?_ NB357_376.out _; (with_reducible repeat (first | refine blk_drewN ?_ _ | refine blk_drew ?_ | refine blk_alloc ?_ _)); refine blk_far ?_ NB357_376.out _; (with_reducible repeat (first | refine blk_drewN ?_ _ | refine blk_drew ?_ | refine blk_alloc ?_ _)); refine blk_far ?_ NB357_376.out _; (with_reducible repeat (first | refine blk_drewN ?_ _ | refine blk_drew ?_ | refine blk_alloc ?_ _)); exact BK357.out) hb); have n13_ := am_ (blk_below (g := gb365) (o := .cells #[.int .i64 t358, .int .i64 t359, .int .i64 t360, .slice Ao153 x366003_4.length co153] 26 (0, 0)) (by (with_reducible repeat (first | refine blk_drewN ?_ _ | refine blk_drew ?_ | refine blk_alloc ?_ _)); refine blk_far ?_ NB365_376.out _; (with_reducible repeat (first | refine blk_drewN ?_ _ | refine blk_drew ?_ | refine blk_alloc ?_ _)); refine blk_far ?_ NB365_376.out _; (with_reducible repeat (first | refine blk_drewN ?_ _ | refine blk_drew ?_ | refine blk_alloc ?_ _)); refine blk_far ?_ NB365_376.out _; (with_reducible repeat (first | refine blk_drewN ?_ _ | refine blk_drew ?_ | refine blk_alloc ?_ _)); refine blk_far ?_ NB365_376.out _; (with_reducible repeat (first | refine blk_drewN ?_ _ | refine blk_drew ?_ | refine blk_alloc ?_ _)); exact BK365.out) hb); have n14_ := am_ (blk_below (g := gb376) (o := .cells #[.int .i64 t369, .int .i64 t370, .int .i64 t371, .slice Ao176 t372.length co176] 26 (0, 0)) (by (with_reducible repeat (first | refine blk_drewN ?_ _ | refine blk_drew ?_ | refine blk_alloc ?_ _)); refine blk_put (cs := #[.int .i64 t369, .int .i64 t370, .int .i64 t371, .slice none 0 0]) ?_ 3 _ rfl; (with_reducible repeat (first | refine blk_drewN ?_ _ | refine blk_drew ?_ | refine blk_alloc ?_ _)); refine blk_put (cs := #[.int .i64 t369, .int .i64 t370, .int .i64 0, .slice none 0 0]) ?_ 2 _ rfl; (with_reducible repeat (first | refine blk_drewN ?_ _ | refine blk_drew ?_ | refine blk_alloc ?_ _)); refine blk_put (cs := #[.int .i64 t369, .int .i64 0, .int .i64 0, .slice none 0 0]) ?_ 1 _ rfl; (with_reducible repeat (first | refine blk_drewN ?_ _ | refine blk_drew ?_ | refine blk_alloc ?_ _)); refine blk_put (cs := #[.int .i64 0, .int .i64 0, .int .i64 0, .slice none 0 0]) ?_ 0 _ rfl; (with_reducible repeat (first | refine blk_drewN ?_ _ | refine blk_drew ?_ | refine blk_alloc ?_ _)); exact BK376.out) hb); have n15_ := am_ (below_step q19_ hb); clear HO_315003; clear HO_323003; clear HO_330003; clear HO_344003; clear HO_358003; clear HO_366003; clear HO374; clear BK314; clear BK322; clear BK329; clear BK335; clear BK343; clear BK357; clear BK365; clear BK376; clear HB; have HO_315003 := n0_; have HO_323003 := n1_; have HO_330003 := n2_; have HO_344003 := n3_; have HO_358003 := n4_; have HO_366003 := n5_; have HO374 := n6_; have BK314 := n7_; have BK322 := n8_; have BK329 := n9_; have BK335 := n10_; have BK343 := n11_; have BK357 := n12_; have BK365 := n13_; have BK376 := n14_; have HB := n15_; clear n0_ n1_ n2_ n3_ n4_ n5_ n6_ n7_ n8_ n9_ n10_ n11_ n12_ n13_ n14_ n15_; have hnb184 := NB322_343.out; have hnc184 := NB343_322.out; have hnb185 := NB322_357.out; have hnc185 := NB357_322.out; have hcz186_0 : w183.cell? ⟨gb322, 0, none⟩ = some (.int .i64 t315) := (blk_cell BK322.out 0).trans rfl; have hcz186_1 : w183.cell? ⟨gb322, 1, none⟩ = some (.int .i64 t316) := (blk_cell BK322.out 1).trans rfl; have hcz186_2 : w183.cell? ⟨gb322, 2, none⟩ = some (.int .i64 t317) := (blk_cell BK322.out 2).trans rfl; have hcz186_3 : w183.cell? ⟨gb322, 3, none⟩ = some (u323003) := (blk_cell BK322.out 3).trans rfl; have hfz186_0 := blk_frozen BK322.out 0; have hfz186_1 := blk_frozen BK322.out 1; have hfz186_2 := blk_frozen BK322.out 2; have hfz186_3 := blk_frozen BK322.out 3; obtain ⟨Ao187, co187, eo187⟩ := Kd.R_slice HO_323003.out; subst eo187) | (go_at_call 16; (with_reducible refine (tilefarmref4_Valid.calls k4 t315 t316 t317 _ _ x323003_4 true _ ?side1 ?side2 A140.out).mono ?_); (case side1 => repeat (first | exact (Kd.R_reads' HO_323003.out).2.2 | (with_reducible refine Kd.C_alloc ?_ _) | (with_reducible refine Kd.C_drewN ?_ _) | (with_reducible refine Kd.C_drew ?_))); (case side2 => exact (Kd.R_reads' HO_323003.out).2.1); rintro e w188 ⟨rfl, hb⟩; have n0_ := am_ (Kd.R_below q172_ hb); have n1_ := am_ (Kd.R_below q173_ hb); have n2_ := am_ (Kd.R_below q174_ hb); have n3_ := am_ (Kd.R_below q175_ hb); have n4_ := am_ (Kd.R_below q176_ hb); have n5_ := am_ (Kd.R_below q177_ hb); have n6_ := am_ (Kd.R_below q193_ hb); have n7_ := am_ (blk_below (g := gb314) (o := .cells #[.int .i64 t307, .int .i64 t308, .int .i64 t309, .slice Ao165 x315003_4.length co165] 26 (0, 0)) q163_ hb); have n8_ := am_ (blk_below (g := gb322) (o := .cells #[.int .i64 t315, .int .i64 t316, .int .i64 t317, .slice Ao187 x323003_4.length co187] 26 (0, 0)) q164_ hb); have n9_ := am_ (blk_below (g := gb329) (o := .cells #[.int .i64 t323, .int .i64 t324, .int .i64 t325, .slice Ao182 x330003_4.length co182] 26 (0, 0)) q165_ hb); have n10_ := am_ (blk_below (g := gb335) (o := .cells #[.int .i64 t330, .int .i64 t331, .int .i64 t332, .int .i64 t333] 31 (0, 0)) q166_ hb); have n11_ := am_ (blk_below (g := gb343) (o := .cells #[.int .i64 t336, .int .i64 t337, .int .i64 t338, u344003] 26 (0, 0)) q167_ hb); have n12_ := am_ (blk_below (g := gb357) (o := .cells #[.int .i64 t350, .int .i64 t351, .int .i64 t352, u358003] 26 (0, 0)) q168_ hb); have n13_ := am_ (blk_below (g := gb365) (o := .cells #[.int .i64 t358, .int .i64 t359, .int .i64 t360, .slice Ao153 x366003_4.length co153] 26 (0, 0)) q169_ hb); have n14_ := am_ (blk_below (g := gb376) (o := .cells #[.int .i64 t369, .int .i64 t370, .int .i64 t371, .slice Ao176 t372.length co176] 26 (0, 0)) q170_ hb); have n15_ := am_ (below_step q19_ hb); clear HO_315003; clear HO_323003; clear HO_330003; clear HO_344003; clear HO_358003; clear HO_366003; clear HO374; clear BK314; clear BK322; clear BK329; clear BK335; clear BK343; clear BK357; clear BK365; clear BK376; clear HB; have HO_315003 := n0_; have HO_323003 := n1_; have HO_330003 := n2_; have HO_344003 := n3_; have HO_358003 := n4_; have HO_366003 := n5_; have HO374 := n6_; have BK314 := n7_; have BK322 := n8_; have BK329 := n9_; have BK335 := n10_; have BK343 := n11_; have BK357 := n12_; have BK365 := n13_; have BK376 := n14_; have HB := n15_; clear n0_ n1_ n2_ n3_ n4_ n5_ n6_ n7_ n8_ n9_ n10_ n11_ n12_ n13_ n14_ n15_; have hcz189_0 : w188.cell? ⟨gb376, 0, none⟩ = some (.int .i64 t369) := (blk_cell BK376.out 0).trans rfl; have hcz189_1 : w188.cell? ⟨gb376, 1, none⟩ = some (.int .i64 t370) := (blk_cell BK376.out 1).trans rfl; have hcz189_2 : w188.cell? ⟨gb376, 2, none⟩ = some (.int .i64 t371) := (blk_cell BK376.out 2).trans rfl; have hcz189_3 : w188.cell? ⟨gb376, 3, none⟩ = some (.slice Ao176 t372.length co176) := (blk_cell BK376.out 3).trans rfl; have hfz189_0 := blk_frozen BK376.out 0; have hfz189_1 := blk_frozen BK376.out 1; have hfz189_2 := blk_frozen BK376.out 2; have hfz189_3 := blk_frozen BK376.out 3) | (go_at_call 17; (with_reducible refine (plane_Valid.calls k4 t369 t370 t371 _ _ t372 true _ ?side1 ?side2 A143.out).mono ?_); (case side1 => repeat (first | exact (Kd.R_reads' HO374.out).2.2 | (with_reducible refine Kd.C_alloc ?_ _) | (with_reducible refine Kd.C_drewN ?_ _) | (with_reducible refine Kd.C_drew ?_))); (case side2 => exact (Kd.R_reads' HO374.out).2.1); rintro e w190 ⟨rfl, hb⟩; have n0_ := am_ (Kd.R_below q172_ hb); have n1_ := am_ (Kd.R_below q173_ hb); have n2_ := am_ (Kd.R_below q174_ hb); have n3_ := am_ (Kd.R_below q175_ hb); have n4_ := am_ (Kd.R_below q176_ hb); have n5_ := am_ (Kd.R_below q177_ hb); have n6_ := am_ (Kd.R_below q193_ hb); have n7_ := am_ (blk_below (g := gb314) (o := .cells #[.int .i64 t307, .int .i64 t308, .int .i64 t309, .slice Ao165 x315003_4.length co165] 26 (0, 0)) q163_ hb); have n8_ := am_ (blk_below (g := gb322) (o := .cells #[.int .i64 t315, .int .i64 t316, .int .i64 t317, .slice Ao187 x323003_4.length co187] 26 (0, 0)) q164_ hb); have n9_ := am_ (blk_below (g := gb329) (o := .cells #[.int .i64 t323, .int .i64 t324, .int .i64 t325, .slice Ao182 x330003_4.length co182] 26 (0, 0)) q165_ hb); have n10_ := am_ (blk_below (g := gb335) (o := .cells #[.int .i64 t330, .int .i64 t331, .int .i64 t332, .int .i64 t333] 31 (0, 0)) q166_ hb); have n11_ := am_ (blk_below (g := gb343) (o := .cells #[.int .i64 t336, .int .i64 t337, .int .i64 t338, u344003] 26 (0, 0)) q167_ hb); have n12_ := am_ (blk_below (g := gb357) (o := .cells #[.int .i64 t350, .int .i64 t351, .int .i64 t352, u358003] 26 (0, 0)) q168_ hb); have n13_ := am_ (blk_below (g := gb365) (o := .cells #[.int .i64 t358, .int .i64 t359, .int .i64 t360, .slice Ao153 x366003_4.length co153] 26 (0, 0)) q169_ hb); have n14_ := am_ (blk_below (g := gb376) (o := .cells #[.int .i64 t369, .int .i64 t370, .int .i64 t371, .slice Ao176 t372.length co176] 26 (0, 0)) q170_ hb); have n15_ := am_ (below_step q19_ hb); clear HO_315003; clear HO_323003; clear HO_330003; clear HO_344003; clear HO_358003; clear HO_366003; clear HO374; clear BK314; clear BK322; clear BK329; clear BK335; clear BK343; clear BK357; clear BK365; clear BK376; clear HB; have HO_315003 := n0_; have HO_323003 := n1_; have HO_330003 := n2_; have HO_344003 := n3_; have HO_358003 := n4_; have HO_366003 := n5_; have HO374 := n6_; have BK314 := n7_; have BK322 := n8_; have BK329 := n9_; have BK335 := n10_; have BK343 := n11_; have BK357 := n12_; have BK365 := n13_; have BK376 := n14_; have HB := n15_; clear n0_ n1_ n2_ n3_ n4_ n5_ n6_ n7_ n8_ n9_ n10_ n11_ n12_ n13_ n14_ n15_) | (go_at_call 18; (with_reducible refine (tilefarmlaw4_sane.calls k4  t380 _ A145.out).mono ?_); rintro e w191 ⟨rfl, hb⟩; have n0_ := am_ (Kd.R_below q172_ hb); have n1_ := am_ (Kd.R_below q173_ hb); have n2_ := am_ (Kd.R_below q174_ hb); have n3_ := am_ (Kd.R_below q175_ hb); have n4_ := am_ (Kd.R_below q176_ hb); have n5_ := am_ (Kd.R_below q177_ hb); have n6_ := am_ (Kd.R_below q193_ hb); have n7_ := am_ (blk_below (g := gb314) (o := .cells #[.int .i64 t307, .int .i64 t308, .int .i64 t309, .slice Ao165 x315003_4.length co165] 26 (0, 0)) q163_ hb); have n8_ := am_ (blk_below (g := gb322) (o := .cells #[.int .i64 t315, .int .i64 t316, .int .i64 t317, .slice Ao187 x323003_4.length co187] 26 (0, 0)) q164_ hb); have n9_ := am_ (blk_below (g := gb329) (o := .cells #[.int .i64 t323, .int .i64 t324, .int .i64 t325, .slice Ao182 x330003_4.length co182] 26 (0, 0)) q165_ hb); have n10_ := am_ (blk_below (g := gb335) (o := .cells #[.int .i64 t330, .int .i64 t331, .int .i64 t332, .int .i64 t333] 31 (0, 0)) q166_ hb); have n11_ := am_ (blk_below (g := gb343) (o := .cells #[.int .i64 t336, .int .i64 t337, .int .i64 t338, u344003] 26 (0, 0)) q167_ hb); have n12_ := am_ (blk_below (g := gb357) (o := .cells #[.int .i64 t350, .int .i64 t351, .int .i64 t352, u358003] 26 (0, 0)) q168_ hb); have n13_ := am_ (blk_below (g := gb365) (o := .cells #[.int .i64 t358, .int .i64 t359, .int .i64 t360, .slice Ao153 x366003_4.length co153] 26 (0, 0)) q169_ hb); have n14_ := am_ (blk_below (g := gb376) (o := .cells #[.int .i64 t369, .int .i64 t370, .int .i64 t371, .slice Ao176 t372.length co176] 26 (0, 0)) q170_ hb); have n15_ := am_ (below_step q19_ hb); clear HO_315003; clear HO_323003; clear HO_330003; clear HO_344003; clear HO_358003; clear HO_366003; clear HO374; clear BK314; clear BK322; clear BK329; clear BK335; clear BK343; clear BK357; clear BK365; clear BK376; clear HB; have HO_315003 := n0_; have HO_323003 := n1_; have HO_330003 := n2_; have HO_344003 := n3_; have HO_358003 := n4_; have HO_366003 := n5_; have HO374 := n6_; have BK314 := n7_; have BK322 := n8_; have BK329 := n9_; have BK335 := n10_; have BK343 := n11_; have BK357 := n12_; have BK365 := n13_; have BK376 := n14_; have HB := n15_; clear n0_ n1_ n2_ n3_ n4_ n5_ n6_ n7_ n8_ n9_ n10_ n11_ n12_ n13_ n14_ n15_))
                 go_ret
                 exact ⟨q195_, q19_⟩
                ·replace c144 := Bool.eq_false_iff.mpr c144
                 subst c144
                 have H1 : (some false) = some r := by rw [if_neg (show ¬ (false = true) by decide)] at H; exact H
                 clear H
                 have H := H1
                 clear H1
                 exact absurd ((Option.some.inj H).trans HT.out) (by decide)
               ·replace c142 := Bool.eq_false_iff.mpr c142
                subst c142
                have H1 : (some false) = some r := by rw [if_neg (show ¬ (false = true) by decide)] at H; exact H
                clear H
                have H := H1
                clear H1
                exact absurd ((Option.some.inj H).trans HT.out) (by decide)
              ·replace c141 := Bool.eq_false_iff.mpr c141
               subst c141
               have H1 : (some false) = some r := by rw [if_neg (show ¬ (false = true) by decide)] at H; exact H
               clear H
               have H := H1
               clear H1
               exact absurd ((Option.some.inj H).trans HT.out) (by decide)
             ·replace c139 := Bool.eq_false_iff.mpr c139
              subst c139
              have H1 : (some false) = some r := by rw [if_neg (show ¬ (false = true) by decide)] at H; exact H
              clear H
              have H := H1
              clear H1
              exact absurd ((Option.some.inj H).trans HT.out) (by decide)


def tilefarmlaw4_PlaneShares.Pure : Prop := ∀ (l0 : List Int), l0.length ≤ maxLen → l0.length * 8 ≤ 140737488351232 → (∀ x ∈ l0, (Lit.int .i64 x).wf = true) → ∃ k, tilefarmlaw4_PlaneShares.f k l0 = some true
theorem tilefarmlaw4_PlaneShares.walk (P : tilefarmlaw4_PlaneShares.Pure) (a0 : Option Addr) (len0 cap0 : Nat) (z0 : List Int) (w : World) (w0 : (a0 = none ∧ len0 = 0 ∧ cap0 = 0 ∧ z0 = []) ∨ ∃ x, a0 = some x ∧ len0 ≤ cap0 ∧ cap0 ≤ maxLen ∧ z0.length = cap0 ∧ (∀ i, i < z0.length → w.cell? (x.add i) = some (.int .i64 (z0.getD i 0))) ∧ ∀ n ∈ z0, (Lit.int .i64 n).wf = true) (y0 : len0 * 8 ≤ 140737488351232) :
  Calls Try.prog 3 #[.slice a0 len0 cap0] w fun e w' => e = .returned (.bool true) ∧ Below w.heap.size w w' := by
 obtain ⟨l0, rfl, hr0, hm0, hw0, hc0⟩ := ReadsInt.ofRowC w0
 obtain ⟨k, h⟩ := P l0 hm0 y0 hw0
 refine (tilefarmlaw4_PlaneShares.calls k _ _ l0 true w (Kd.C_of_reads (d := (0 : Int)) (h1 := fun _ => rfl) hr0) hc0 h).mono ?_
 rintro e w' ⟨rfl, hd⟩
 exact ⟨rfl, hd⟩

end Go.Proofs.Ytgkccacenlcebaa.PPlaneShares
