-- Written by a program of the session (wip/tools/pack.py): the printed texts, pruned; checked by Lean.
import Derived.Test.YtkipnpgcpohlcaaKIntegralMonotonea
import Derived.Test.YtkipnpgcpohlcaaKIntegralMonotonex0
import Derived.Test.YtkipnpgcpohlcaaKIntegralMonotonex2
import Derived.Test.YtkipnpgcpohlcaaKIntegralMonotonex4
import Derived.Test.YtkipnpgcpohlcaaKIntegralMonotonex8
import Derived.Test.YtkipnpgcpohlcaaKIntegralMonotonex9
namespace Go.Proofs.Ytkipnpgcpohlcaa.PIntegralMonotone
open Go.RowKit Go.Proofs.YtkipnpgcpohlcaaW.PrintWords Go.Proofs.YtkipnpgcpohlcaaW.PrintLast Go.Proofs.YtkipnpgcpohlcaaW.PrintMore
attribute [local go_sem] max2_int min2_int max_two min_two max_three min_three max_four min_four   -- for this text's walks alone
set_option linter.unusedVariables false
set_option linter.unusedSimpArgs false
mutual
def tilefarmlaw13_IntegralMonotone.j0 : Nat → Bool → List Int → Int → Int → Int → Int → List Int → Int → Int → Int → List Int → Option (Bool)
 | 0, _, _, _, _, _, _, _, _, _, _, _ => none
 | k + 1, x38, x284000, x284001, x292000, x292001, x292002, x292003, x300000, x300001, x300002, x300003 => if x38 = true then (some false) else (tilefarmlaw13_IntegralMonotone.l0 k 0 0 x284000 x284001 x292000 x292001 x292002 x292003 x300000 x300001 x300002 x300003)
def tilefarmlaw13_IntegralMonotone.l0 : Nat → Int → Int → List Int → Int → Int → Int → Int → List Int → Int → Int → Int → List Int → Option (Bool)
 | 0, _, _, _, _, _, _, _, _, _, _, _, _ => none
 | k + 1, x7, x8, x284000, x284001, x292000, x292001, x292002, x292003, x300000, x300001, x300002, x300003 => if x8 < (x292003.length : Int) then (if 0 ≤ x8 then (if x292000 = 0 then (none) else (if (Int.tmod x8 x292000) > 0 then (if x8 < (x300003.length : Int) then (if 0 ≤ (wrap64 (x8 - 1)) then (if (wrap64 (x8 - 1)) < (x300003.length : Int) then (if (rd x300003 x8) < (rd x300003 (wrap64 (x8 - 1))) then (some false) else (if x8 ≥ x292000 then (if 0 ≤ (wrap64 (x8 - x292000)) then (if (wrap64 (x8 - x292000)) < (x300003.length : Int) then (if (rd x300003 x8) < (rd x300003 (wrap64 (x8 - x292000))) then (some false) else (tilefarmlaw13_IntegralMonotone.l0 k (wrap64 (x7 + (rd x292003 x8))) (wrap64 (x8 + 1)) x284000 x284001 x292000 x292001 x292002 x292003 x300000 x300001 x300002 x300003)) else (none)) else (none)) else (tilefarmlaw13_IntegralMonotone.l0 k (wrap64 (x7 + (rd x292003 x8))) (wrap64 (x8 + 1)) x284000 x284001 x292000 x292001 x292002 x292003 x300000 x300001 x300002 x300003))) else (none)) else (none)) else (none)) else (if x8 ≥ x292000 then (if x8 < (x300003.length : Int) then (if 0 ≤ (wrap64 (x8 - x292000)) then (if (wrap64 (x8 - x292000)) < (x300003.length : Int) then (if (rd x300003 x8) < (rd x300003 (wrap64 (x8 - x292000))) then (some false) else (tilefarmlaw13_IntegralMonotone.l0 k (wrap64 (x7 + (rd x292003 x8))) (wrap64 (x8 + 1)) x284000 x284001 x292000 x292001 x292002 x292003 x300000 x300001 x300002 x300003)) else (none)) else (none)) else (none)) else (tilefarmlaw13_IntegralMonotone.l0 k (wrap64 (x7 + (rd x292003 x8))) (wrap64 (x8 + 1)) x284000 x284001 x292000 x292001 x292002 x292003 x300000 x300001 x300002 x300003)))) else (none)) else ((tilefarmgen_Tape_Within.f x284000 x284001 x292000 x292001).bind fun bt307 => ((tilefarmgen_Tape_Next.f x284000 bt307.2.2.2.2 (wrap64 (bt307.2.2.1 - bt307.1))).bind fun bt313 => ((integral_Sum.f k x300000 x300001 x300002 x300003 bt307.1 bt307.2.1 bt307.2.2.1 bt307.2.2.2.1).bind fun bt315 => (if bt315.2 = 0 then (if 0 ≤ (wrap64 ((x300003.length : Int) - 1)) then (if (wrap64 ((x300003.length : Int) - 1)) < (x300003.length : Int) then (tilefarmlaw13_IntegralMonotone.j2 k (wrap64 (bt307.1 + bt313.1)) bt315.1 ((rd x300003 (wrap64 ((x300003.length : Int) - 1))) != x7) x300000 x300001 x300002 x300003 bt307.1 bt307.2.1 bt307.2.2.1 bt307.2.2.2.1) else (none)) else (none)) else (tilefarmlaw13_IntegralMonotone.j2 k (wrap64 (bt307.1 + bt313.1)) bt315.1 true x300000 x300001 x300002 x300003 bt307.1 bt307.2.1 bt307.2.2.1 bt307.2.2.2.1)))))
def tilefarmlaw13_IntegralMonotone.j2 : Nat → Int → Int → Bool → Int → Int → Int → List Int → Int → Int → Int → Int → Option (Bool)
 | 0, _, _, _, _, _, _, _, _, _, _, _ => none
 | k + 1, x10, x11, x129, x300000, x300001, x300002, x300003, x313000, x313001, x313002, x313003 => if x129 = true then (some false) else (if x10 = x313000 then ((tilefarmlaw13_sane.f k).bind fun t318 => (some t318)) else ((integral_Sum.f k x300000 x300001 x300002 x300003 x313000 x313001 x10 x313003).bind fun bt319 => ((integral_Sum.f k x300000 x300001 x300002 x300003 x10 x313001 x313002 x313003).bind fun bt321 => (if bt319.2 = 0 then (if bt321.2 = 0 then (if (wrap64 (bt319.1 + bt321.1)) = x11 then ((tilefarmlaw13_sane.f k).bind fun t323 => (some t323)) else (some false)) else (some false)) else (some false)))))
end
def tilefarmlaw13_IntegralMonotone.f (k : Nat) (l0 : List Int) : Option (Bool) := (tilefarmgen_New.f l0).bind fun bt281 => ((tilefarmgen_Tape_Plane.f k bt281.1 bt281.2).bind fun bt284 => ((integral_Whole.f k bt284.1 bt284.2.1 bt284.2.2.1 bt284.2.2.2.1).bind fun bt292 => (if bt292.2.2.2.2 = 0 then (tilefarmlaw13_IntegralMonotone.j0 k ((bt292.2.2.2.1.length : Int) != (wrap64 (bt284.1 * bt284.2.1))) bt281.1 bt284.2.2.2.2 bt284.1 bt284.2.1 bt284.2.2.1 bt284.2.2.2.1 bt292.1 bt292.2.1 bt292.2.2.1 bt292.2.2.2.1) else (tilefarmlaw13_IntegralMonotone.j0 k true bt281.1 bt284.2.2.2.2 bt284.1 bt284.2.1 bt284.2.2.1 bt284.2.2.2.1 bt292.1 bt292.2.1 bt292.2.2.1 bt292.2.2.2.1))))
theorem tilefarmlaw13_IntegralMonotone.mono_l : ∀ k, (∀ y0 y1 y2 y3 y4 y5 y6 y7 y8 y9 y10, LeO (tilefarmlaw13_IntegralMonotone.j0 k y0 y1 y2 y3 y4 y5 y6 y7 y8 y9 y10) (tilefarmlaw13_IntegralMonotone.j0 (k + 1) y0 y1 y2 y3 y4 y5 y6 y7 y8 y9 y10)) ∧ (∀ y0 y1 y2 y3 y4 y5 y6 y7 y8 y9 y10 y11, LeO (tilefarmlaw13_IntegralMonotone.l0 k y0 y1 y2 y3 y4 y5 y6 y7 y8 y9 y10 y11) (tilefarmlaw13_IntegralMonotone.l0 (k + 1) y0 y1 y2 y3 y4 y5 y6 y7 y8 y9 y10 y11)) ∧ (∀ y0 y1 y2 y3 y4 y5 y6 y7 y8 y9 y10, LeO (tilefarmlaw13_IntegralMonotone.j2 k y0 y1 y2 y3 y4 y5 y6 y7 y8 y9 y10) (tilefarmlaw13_IntegralMonotone.j2 (k + 1) y0 y1 y2 y3 y4 y5 y6 y7 y8 y9 y10))
 | 0 => ⟨fun _ _ _ _ _ _ _ _ _ _ _ r h => by simp [tilefarmlaw13_IntegralMonotone.j0] at h, fun _ _ _ _ _ _ _ _ _ _ _ _ r h => by simp [tilefarmlaw13_IntegralMonotone.l0] at h, fun _ _ _ _ _ _ _ _ _ _ _ r h => by simp [tilefarmlaw13_IntegralMonotone.j2] at h⟩
 | k + 1 => by
  obtain ⟨ih0, ih1, ih2⟩ := tilefarmlaw13_IntegralMonotone.mono_l k
  refine ⟨?_, ?_, ?_⟩
  ·intro y0 y1 y2 y3 y4 y5 y6 y7 y8 y9 y10
   unfold tilefarmlaw13_IntegralMonotone.j0
   repeat' first
   | (with_reducible exact ih0 _ _ _ _ _ _ _ _ _ _ _)
   | (with_reducible exact ih1 _ _ _ _ _ _ _ _ _ _ _ _)
   | (with_reducible exact ih2 _ _ _ _ _ _ _ _ _ _ _)
   | (with_reducible exact integral_Sum.mono _ _ _ _ _ _ _ _ _)
   | (with_reducible exact integral_Whole.mono _ _ _ _ _)
   | (with_reducible exact tilefarmgen_Tape_Plane.mono _ _ _)
   | (with_reducible exact tilefarmlaw13_sane.mono _)
   | (with_reducible exact LeO.refl _)
   | (with_reducible exact LeO.none _)
   | (with_reducible refine LeO.ite ?_ ?_)
   | (with_reducible refine LeO.bind ?_ (fun _ => ?_))
   | exact ih0 _ _ _ _ _ _ _ _ _ _ _
   | exact ih1 _ _ _ _ _ _ _ _ _ _ _ _
   | exact ih2 _ _ _ _ _ _ _ _ _ _ _
   | exact integral_Sum.mono _ _ _ _ _ _ _ _ _
   | exact integral_Whole.mono _ _ _ _ _
   | exact tilefarmgen_Tape_Plane.mono _ _ _
   | exact tilefarmlaw13_sane.mono _
   | exact LeO.none _
   | refine LeO.ite ?_ ?_
   | refine LeO.bind ?_ (fun _ => ?_)
  ·intro y0 y1 y2 y3 y4 y5 y6 y7 y8 y9 y10 y11
   unfold tilefarmlaw13_IntegralMonotone.l0
   repeat' first
   | (with_reducible exact ih0 _ _ _ _ _ _ _ _ _ _ _)
   | (with_reducible exact ih1 _ _ _ _ _ _ _ _ _ _ _ _)
   | (with_reducible exact ih2 _ _ _ _ _ _ _ _ _ _ _)
   | (with_reducible exact integral_Sum.mono _ _ _ _ _ _ _ _ _)
   | (with_reducible exact integral_Whole.mono _ _ _ _ _)
   | (with_reducible exact tilefarmgen_Tape_Plane.mono _ _ _)
   | (with_reducible exact tilefarmlaw13_sane.mono _)
   | (with_reducible exact LeO.refl _)
   | (with_reducible exact LeO.none _)
   | (with_reducible refine LeO.ite ?_ ?_)
   | (with_reducible refine LeO.bind ?_ (fun _ => ?_))
   | exact ih0 _ _ _ _ _ _ _ _ _ _ _
   | exact ih1 _ _ _ _ _ _ _ _ _ _ _ _
   | exact ih2 _ _ _ _ _ _ _ _ _ _ _
   | exact integral_Sum.mono _ _ _ _ _ _ _ _ _
   | exact integral_Whole.mono _ _ _ _ _
   | exact tilefarmgen_Tape_Plane.mono _ _ _
   | exact tilefarmlaw13_sane.mono _
   | exact LeO.none _
   | refine LeO.ite ?_ ?_
   | refine LeO.bind ?_ (fun _ => ?_)
  ·intro y0 y1 y2 y3 y4 y5 y6 y7 y8 y9 y10
   unfold tilefarmlaw13_IntegralMonotone.j2
   repeat' first
   | (with_reducible exact ih0 _ _ _ _ _ _ _ _ _ _ _)
   | (with_reducible exact ih1 _ _ _ _ _ _ _ _ _ _ _ _)
   | (with_reducible exact ih2 _ _ _ _ _ _ _ _ _ _ _)
   | (with_reducible exact integral_Sum.mono _ _ _ _ _ _ _ _ _)
   | (with_reducible exact integral_Whole.mono _ _ _ _ _)
   | (with_reducible exact tilefarmgen_Tape_Plane.mono _ _ _)
   | (with_reducible exact tilefarmlaw13_sane.mono _)
   | (with_reducible exact LeO.refl _)
   | (with_reducible exact LeO.none _)
   | (with_reducible refine LeO.ite ?_ ?_)
   | (with_reducible refine LeO.bind ?_ (fun _ => ?_))
   | exact ih0 _ _ _ _ _ _ _ _ _ _ _
   | exact ih1 _ _ _ _ _ _ _ _ _ _ _ _
   | exact ih2 _ _ _ _ _ _ _ _ _ _ _
   | exact integral_Sum.mono _ _ _ _ _ _ _ _ _
   | exact integral_Whole.mono _ _ _ _ _
   | exact tilefarmgen_Tape_Plane.mono _ _ _
   | exact tilefarmlaw13_sane.mono _
   | exact LeO.none _
   | refine LeO.ite ?_ ?_
   | refine LeO.bind ?_ (fun _ => ?_)
theorem tilefarmlaw13_IntegralMonotone.mono : ∀ a0 k, LeO (tilefarmlaw13_IntegralMonotone.f k a0) (tilefarmlaw13_IntegralMonotone.f (k + 1) a0) := by
 intro a0 k
 obtain ⟨ih0, ih1, ih2⟩ := tilefarmlaw13_IntegralMonotone.mono_l k
 unfold tilefarmlaw13_IntegralMonotone.f
 repeat' first
   | (with_reducible exact ih0 _ _ _ _ _ _ _ _ _ _ _)
   | (with_reducible exact ih1 _ _ _ _ _ _ _ _ _ _ _ _)
   | (with_reducible exact ih2 _ _ _ _ _ _ _ _ _ _ _)
   | (with_reducible exact integral_Sum.mono _ _ _ _ _ _ _ _ _)
   | (with_reducible exact integral_Whole.mono _ _ _ _ _)
   | (with_reducible exact tilefarmgen_Tape_Plane.mono _ _ _)
   | (with_reducible exact tilefarmlaw13_sane.mono _)
   | (with_reducible exact LeO.refl _)
   | (with_reducible exact LeO.none _)
   | (with_reducible refine LeO.ite ?_ ?_)
   | (with_reducible refine LeO.bind ?_ (fun _ => ?_))
   | exact ih0 _ _ _ _ _ _ _ _ _ _ _
   | exact ih1 _ _ _ _ _ _ _ _ _ _ _ _
   | exact ih2 _ _ _ _ _ _ _ _ _ _ _
   | exact integral_Sum.mono _ _ _ _ _ _ _ _ _
   | exact integral_Whole.mono _ _ _ _ _
   | exact tilefarmgen_Tape_Plane.mono _ _ _
   | exact tilefarmlaw13_sane.mono _
   | exact LeO.none _
   | refine LeO.ite ?_ ?_
   | refine LeO.bind ?_ (fun _ => ?_)
def tilefarmlaw13_IntegralMonotone.T11 : Bool × List (List Nat × List Nat) := (true, [([], []), ([], []), ([1], [1]), ([0, 2], [0, 2]), ([3], [3]), ([4], [4]), ([5], [5]), ([6, 5], [5, 6]), ([5], [5]), ([7, 8, 5], [5, 7, 8]), ([9, 5], [5, 9]), ([5], [5]), ([11, 5], [5, 11]), ([5], [5]), ([13, 5], [5, 13]), ([12, 14, 5], [5, 12, 14]), ([15, 5], [5, 15]), ([10, 16, 5], [5, 10, 16]), ([5, 17], [5, 17]), ([18, 5], [18]), ([19], [19]), ([19], [19]), ([21, 19], [19, 21]), ([20, 22, 19], [19, 20, 22]), ([23, 19, 19], [19, 23]), ([24], [24]), ([25, 24], [24, 25]), ([24], [24]), ([26, 27, 24], [24, 26, 27]), ([28, 24], [24, 28]), ([24], [24]), ([30, 24], [24, 30]), ([24], [24]), ([24], [24]), ([33, 24], [24, 33]), ([32, 34, 24], [24, 32, 34]), ([31, 35, 24], [24, 31, 35]), ([36, 24], [24, 36]), ([29, 37, 24], [24, 29, 37]), ([24, 38, 19], [19, 24, 38]), ([19, 39], [19, 39])])
def tilefarmlaw13_IntegralMonotone.B11 : List Nat := [0, 0, 2, 7, 15, 31, 63, 127, 63, 511, 1023, 63, 2111, 63, 8255, 30783, 63551, 131071, 262143, 524287, 1048575, 1048575, 3145727, 8388607, 16777215, 33554431, 67108863, 33554431, 268435455, 536870911, 33554431, 1107296255, 33554431, 33554431, 8623489023, 30098325503, 67679289343, 136398766079, 274877906943, 549755813887, 1099511627775]
theorem tilefarmlaw13_IntegralMonotone.tab11 : rtab .any (opsOf Try.f3 11) = tilefarmlaw13_IntegralMonotone.T11 := by kernel_rfl
theorem tilefarmlaw13_IntegralMonotone.bits11 : waitsOk tilefarmlaw13_IntegralMonotone.T11.2 tilefarmlaw13_IntegralMonotone.B11 = true := by kernel_rfl
def tilefarmlaw13_IntegralMonotone.T14 : Bool × List (List Nat × List Nat) := (true, [([], []), ([0], [0]), ([], []), ([], []), ([3], [3]), ([], []), ([5], [5]), ([4, 6], [4, 6]), ([2, 7], [2, 7]), ([1, 8], [1, 8]), ([9, 8, 0, 1, 2, 3, 4, 5, 6, 7, 8, 9], [9])])
def tilefarmlaw13_IntegralMonotone.B14 : List Nat := [0, 1, 0, 0, 8, 0, 32, 120, 252, 511, 1023]
theorem tilefarmlaw13_IntegralMonotone.tab14 : rtab .any (opsOf Try.f3 14) = tilefarmlaw13_IntegralMonotone.T14 := by kernel_rfl
theorem tilefarmlaw13_IntegralMonotone.bits14 : waitsOk tilefarmlaw13_IntegralMonotone.T14.2 tilefarmlaw13_IntegralMonotone.B14 = true := by kernel_rfl
set_option maxHeartbeats 8000000 in
set_option maxRecDepth 100000 in
theorem tilefarmlaw13_IntegralMonotone.calls (k : Nat) (A0 : Option Addr) (c0 : Nat) (l0 : List Int) (r : Bool) (w : World) (hr0 : Kd.C (Kd.int .i64) w A0 l0.length l0) (hc0 : l0.length ≤ c0) (h : tilefarmlaw13_IntegralMonotone.f k l0 = some r) (hT : r = true := by first | rfl | assumption | exact HT.out) :
  Calls Try.prog 3 #[.slice A0 l0.length c0] w fun e w' => e = .returned (.bool r) ∧ Below w.heap.size w w' := by
 have HT := am_ hT
 clear hT
 have hu26 := Try.underlying26
 have hu32 := Try.underlying32
 have HR0 := am_ hr0
 have HC0 := am_ hc0
 clear hr0 hc0
 have HB := am_ (Below.refl w.heap.size w)
 have H : ((tilefarmgen_New.f l0).bind fun bt281 => ((tilefarmgen_Tape_Plane.f k bt281.1 bt281.2).bind fun bt284 => ((integral_Whole.f k bt284.1 bt284.2.1 bt284.2.2.1 bt284.2.2.2.1).bind fun bt292 => (if bt292.2.2.2.2 = 0 then (tilefarmlaw13_IntegralMonotone.j0 k ((bt292.2.2.2.1.length : Int) != (wrap64 (bt284.1 * bt284.2.1))) bt281.1 bt284.2.2.2.2 bt284.1 bt284.2.1 bt284.2.2.1 bt284.2.2.2.1 bt292.1 bt292.2.1 bt292.2.2.1 bt292.2.2.2.1) else (tilefarmlaw13_IntegralMonotone.j0 k true bt281.1 bt284.2.2.2.2 bt284.1 bt284.2.1 bt284.2.2.1 bt284.2.2.2.1 bt292.1 bt292.2.1 bt292.2.2.1 bt292.2.2.2.1))))) = some r := h
 clear h
 replace H := Option.bind_eq_some_iff.mp H
 obtain ⟨⟨t281, t282⟩, A20, H⟩ := H
 replace H : ((tilefarmgen_Tape_Plane.f k t281 t282).bind fun bt284 => ((integral_Whole.f k bt284.1 bt284.2.1 bt284.2.2.1 bt284.2.2.2.1).bind fun bt292 => (if bt292.2.2.2.2 = 0 then (tilefarmlaw13_IntegralMonotone.j0 k ((bt292.2.2.2.1.length : Int) != (wrap64 (bt284.1 * bt284.2.1))) t281 bt284.2.2.2.2 bt284.1 bt284.2.1 bt284.2.2.1 bt284.2.2.2.1 bt292.1 bt292.2.1 bt292.2.2.1 bt292.2.2.2.1) else (tilefarmlaw13_IntegralMonotone.j0 k true t281 bt284.2.2.2.2 bt284.1 bt284.2.1 bt284.2.2.1 bt284.2.2.2.1 bt292.1 bt292.2.1 bt292.2.2.1 bt292.2.2.2.1)))) = some r := H
 have A2 := am_ A20
 clear A20
 replace H := Option.bind_eq_some_iff.mp H
 obtain ⟨⟨t284, t285, t286, t287, t290⟩, A30, H⟩ := H
 replace H : ((integral_Whole.f k t284 t285 t286 t287).bind fun bt292 => (if bt292.2.2.2.2 = 0 then (tilefarmlaw13_IntegralMonotone.j0 k ((bt292.2.2.2.1.length : Int) != (wrap64 (t284 * t285))) t281 t290 t284 t285 t286 t287 bt292.1 bt292.2.1 bt292.2.2.1 bt292.2.2.2.1) else (tilefarmlaw13_IntegralMonotone.j0 k true t281 t290 t284 t285 t286 t287 bt292.1 bt292.2.1 bt292.2.2.1 bt292.2.2.2.1))) = some r := H
 have A3 := am_ A30
 clear A30
 replace H := Option.bind_eq_some_iff.mp H
 obtain ⟨⟨t292, t293, t294, t295, t298⟩, A40, H⟩ := H
 replace H : (if t298 = 0 then (tilefarmlaw13_IntegralMonotone.j0 k ((t295.length : Int) != (wrap64 (t284 * t285))) t281 t290 t284 t285 t286 t287 t292 t293 t294 t295) else (tilefarmlaw13_IntegralMonotone.j0 k true t281 t290 t284 t285 t286 t287 t292 t293 t294 t295)) = some r := H
 have A4 := am_ A40
 clear A40
 have HC5 := am_ H
 clear H
 go_enter Try.func3, Try.ntmps3
 go_upto_region 4 with (first | ((with_reducible refine gate_callee (f := 8) rfl ?_); refine goesL_ (some 18) rfl rfl Try.func8 (by kernel_rfl) rfl #[.slice A0 l0.length c0] rfl q80_ ?_; (with_reducible refine (tilefarmgen_New.calls _ _ l0 t281 t282 w _ ?side1 ?side2 ?side3 A2.out).mono ?_); (case side1 => repeat (first | (with_reducible first | exact HB.out | apply below_alloc | apply pw_below_drewN | apply below_drew1) | exact HB.out)); (case side2 => exact HR0.out); (case side3 => exact HC0.out); rintro e w6 ⟨g283, rfl, hi, hb, hb2⟩; refine ⟨_, rfl, ?_⟩; have n0_ := am_ (hb); have n1_ := am_ (hi); clear HB; have HB := n0_; have HI283 := n1_; clear n0_ n1_) | ((with_reducible refine gate_callee (f := 9) rfl ?_); refine goesL_ (some 20) rfl rfl Try.func9 (by kernel_rfl) rfl #[.pointer (some ⟨g283, 0, none⟩)] rfl q80_ ?_; (with_reducible refine (tilefarmgen_Tape_Plane.calls k g283 t281 t282 t284 t285 t286 t287 t290 w _ ?side1 ?side2 A3.out).mono ?_); (case side1 => repeat (first | (with_reducible first | exact HI283.out | apply IsS56.alloc | apply IsS56.drewN | apply IsS56.drew | apply IsS56.set_1) | exact HI283.out)); (case side2 => repeat (first | (with_reducible first | exact HB.out | apply below_alloc | apply pw_below_drewN | apply below_drew1 | refine below_set ?_ (IsS56.ge HI283.out)) | exact HB.out)); rintro e w7 ⟨v288, rfl, ho0, hi, hb, hk⟩; refine ⟨_, rfl, ?_⟩; have n0_ := am_ (Kd.R_lower ho0 (below_size q60_)); have n1_ := am_ (hb); have n2_ := am_ (hi); clear HB; clear HI283; have HO289 := n0_; have HB := n1_; have HI283 := n2_; clear n0_ n1_ n2_; (try clear ho0)) | ((with_reducible refine gate_dst (N := 4) rfl ?_); (try (refine gate_guard (by rfl) ?_; dsimp only)); refine box_event ?hg (N := 4) ?hd (cs := #[.int .i64 0, .int .i64 0, .int .i64 0, .slice none 0 0]) (t := 26) ?hr ?_; (case hd => rfl); (case hg => rfl); (case hr => first | (go_simp; done) | (go_simp; rfl)); intro gb291 hg w8 hbox hb; have n0_ := am_ (Kd.R_below (by (with_reducible repeat (first | apply Kd.R_alloc | apply Kd.R_drewN | apply Kd.R_drew)); exact HO289.out) hb); have n1_ := am_ (IsS56.below (by repeat (first | (with_reducible first | exact HI283.out | apply IsS56.alloc | apply IsS56.drewN | apply IsS56.drew | apply IsS56.set_1) | exact HI283.out)) hb); have n2_ := am_ (below_step q60_ hb); have n3_ := am_ (hbox); have n4_ := am_ ((by rw [hg]; exact (below_size q60_) : w.heap.size ≤ gb291)); have n5_ := am_ ((by rw [hg]; exact (below_size q60_) : w.heap.size ≤ gb291)); have n6_ := am_ ((by rw [hg]; exact Nat.ne_of_lt (IsS56.lt (show IsS56 w _ g283 t281 t290 from by repeat (first | (with_reducible first | exact HI283.out | apply IsS56.alloc | apply IsS56.drewN | apply IsS56.drew | apply IsS56.set_1) | exact HI283.out))) : g283 ≠ gb291)); have n7_ := am_ ((by rw [hg]; exact Nat.ne_of_gt (IsS56.lt (show IsS56 w _ g283 t281 t290 from by repeat (first | (with_reducible first | exact HI283.out | apply IsS56.alloc | apply IsS56.drewN | apply IsS56.drew | apply IsS56.set_1) | exact HI283.out))) : gb291 ≠ g283)); clear HO289; clear HI283; clear HB; have HO289 := n0_; have HI283 := n1_; have HB := n2_; have BK291 := n3_; have GW291 := n4_; have GE291 := n5_; have NB283_291 := n6_; have NB291_283 := n7_; clear n0_ n1_ n2_ n3_ n4_ n5_ n6_ n7_; clear hb hbox hg; have hnb9 := NB291_283.out; have hnc9 := NB283_291.out; have hcz10_0 : w8.cell? ⟨gb291, 0, none⟩ = some (.int .i64 0) := (blk_cell BK291.out 0).trans rfl; have hcz10_1 : w8.cell? ⟨gb291, 1, none⟩ = some (.int .i64 0) := (blk_cell BK291.out 1).trans rfl; have hcz10_2 : w8.cell? ⟨gb291, 2, none⟩ = some (.int .i64 0) := (blk_cell BK291.out 2).trans rfl; have hcz10_3 : w8.cell? ⟨gb291, 3, none⟩ = some (.slice none 0 0) := (blk_cell BK291.out 3).trans rfl; have hfz10_0 := blk_frozen BK291.out 0; have hfz10_1 := blk_frozen BK291.out 1; have hfz10_2 := blk_frozen BK291.out 2; have hfz10_3 := blk_frozen BK291.out 3; obtain ⟨Ao11, co11, eo11⟩ := Kd.R_slice HO289.out; subst eo11) | ((with_reducible refine gate_callee (f := 10) rfl ?_); refine goesL_ (some 23) rfl rfl Try.func10 (by kernel_rfl) rfl #[.agg #[.int .i64 t284, .int .i64 t285, .int .i64 t286, .slice Ao11 t287.length co11]] rfl q80_ ?_; (with_reducible refine (integral_Whole.calls k t284 t285 t286 _ _ t287 t292 t293 t294 t295 t298 _ ?side1 ?side2 A4.out).mono ?_); (case side1 => refine (Kd.R_reads' (e := 3) (base := w.heap.size) (ok := fun k_ => True) (n := t287.length) (c := co11) ?_).2.2; exact q1_); (case side2 => exact (Kd.R_reads' HO289.out).2.1); rintro e w12 ⟨v296, rfl, ho0, hb⟩; refine ⟨_, rfl, ?_⟩; have n0_ := am_ (Kd.R_elder' q1_ (Kd.R_base ho0) hb); have n1_ := am_ (Kd.R_lower (Kd.R_new' ho0 (Kd.R_lt q1_)) (below_size q43_)); have n2_ := am_ (IsS56.below (show IsS56 w ((((w8.setCell ⟨gb291, 0, none⟩ (.int .i64 t284)).setCell ⟨gb291, 1, none⟩ (.int .i64 t285)).setCell ⟨gb291, 2, none⟩ (.int .i64 t286)).setCell ⟨gb291, 3, none⟩ (.slice Ao11 t287.length co11)) g283 t281 t290 from by repeat (first | (with_reducible first | exact HI283.out | apply IsS56.alloc | apply IsS56.drewN | apply IsS56.drew | apply IsS56.set_1 | refine IsS56.far ?_ NB283_291.out _) | exact HI283.out)) hb); have n3_ := am_ (blk_below (g := gb291) (o := .cells #[.int .i64 t284, .int .i64 t285, .int .i64 t286, .slice Ao11 t287.length co11] 26 (0, 0)) (by (with_reducible repeat (first | refine blk_drewN ?_ _ | refine blk_drew ?_ | refine blk_alloc ?_ _)); refine blk_put (cs := #[.int .i64 t284, .int .i64 t285, .int .i64 t286, .slice none 0 0]) ?_ 3 _ rfl; (with_reducible repeat (first | refine blk_drewN ?_ _ | refine blk_drew ?_ | refine blk_alloc ?_ _)); refine blk_put (cs := #[.int .i64 t284, .int .i64 t285, .int .i64 0, .slice none 0 0]) ?_ 2 _ rfl; (with_reducible repeat (first | refine blk_drewN ?_ _ | refine blk_drew ?_ | refine blk_alloc ?_ _)); refine blk_put (cs := #[.int .i64 t284, .int .i64 0, .int .i64 0, .slice none 0 0]) ?_ 1 _ rfl; (with_reducible repeat (first | refine blk_drewN ?_ _ | refine blk_drew ?_ | refine blk_alloc ?_ _)); refine blk_put (cs := #[.int .i64 0, .int .i64 0, .int .i64 0, .slice none 0 0]) ?_ 0 _ rfl; (with_reducible repeat (first | refine blk_drewN ?_ _ | refine blk_drew ?_ | refine blk_alloc ?_ _)); exact BK291.out) hb); have n4_ := am_ (below_step q43_ hb); clear HO289; clear HI283; clear BK291; clear HB; have HO289 := n0_; have HO297 := n1_; have HI283 := n2_; have BK291 := n3_; have HB := n4_; clear n0_ n1_ n2_ n3_ n4_; (try clear ho0)) | ((with_reducible refine gate_dst (N := 5) rfl ?_); (try (refine gate_guard (by rfl) ?_; dsimp only)); refine box_event ?hg (N := 5) ?hd (cs := #[.int .i64 0, .int .i64 0, .int .i64 0, .slice none 0 0]) (t := 26) ?hr ?_; (case hd => rfl); (case hg => rfl); (case hr => first | (go_simp; done) | (go_simp; rfl)); intro gb299 hg w13 hbox hb; have n0_ := am_ (Kd.R_below (by (with_reducible repeat (first | apply Kd.R_alloc | apply Kd.R_drewN | apply Kd.R_drew)); exact HO289.out) hb); have n1_ := am_ (Kd.R_below (by (with_reducible repeat (first | apply Kd.R_alloc | apply Kd.R_drewN | apply Kd.R_drew)); exact HO297.out) hb); have n2_ := am_ (IsS56.below (by repeat (first | (with_reducible first | exact HI283.out | apply IsS56.alloc | apply IsS56.drewN | apply IsS56.drew | apply IsS56.set_1 | refine IsS56.far ?_ NB283_291.out _) | exact HI283.out)) hb); have n3_ := am_ (blk_below (g := gb291) (o := .cells #[.int .i64 t284, .int .i64 t285, .int .i64 t286, .slice Ao11 t287.length co11] 26 (0, 0)) q109_ hb); have n4_ := am_ (below_step q43_ hb); have n5_ := am_ (hbox); have n6_ := am_ ((by rw [hg]; exact (below_size q43_) : w.heap.size ≤ gb299)); have n7_ := am_ ((by rw [hg]; exact (below_size q43_) : w.heap.size ≤ gb299)); have n8_ := am_ ((by rw [hg]; exact Nat.ne_of_lt (blk_lt (g := gb291) (o := .cells #[.int .i64 t284, .int .i64 t285, .int .i64 t286, .slice Ao11 t287.length co11] 26 (0, 0)) q109_) : gb291 ≠ gb299)); have n9_ := am_ ((by rw [hg]; exact Nat.ne_of_gt (blk_lt (g := gb291) (o := .cells #[.int .i64 t284, .int .i64 t285, .int .i64 t286, .slice Ao11 t287.length co11] 26 (0, 0)) q109_) : gb299 ≠ gb291)); have n10_ := am_ ((by rw [hg]; exact Nat.ne_of_lt (IsS56.lt (show IsS56 w _ g283 t281 t290 from by repeat (first | (with_reducible first | exact HI283.out | apply IsS56.alloc | apply IsS56.drewN | apply IsS56.drew | apply IsS56.set_1 | refine IsS56.far ?_ NB283_291.out _) | exact HI283.out))) : g283 ≠ gb299)); have n11_ := am_ ((by rw [hg]; exact Nat.ne_of_gt (IsS56.lt (show IsS56 w _ g283 t281 t290 from by repeat (first | (with_reducible first | exact HI283.out | apply IsS56.alloc | apply IsS56.drewN | apply IsS56.drew | apply IsS56.set_1 | refine IsS56.far ?_ NB283_291.out _) | exact HI283.out))) : gb299 ≠ g283)); clear HO289; clear HO297; clear HI283; clear BK291; clear HB; have HO289 := n0_; have HO297 := n1_; have HI283 := n2_; have BK291 := n3_; have HB := n4_; have BK299 := n5_; have GW299 := n6_; have GE299 := n7_; have NB291_299 := n8_; have NB299_291 := n9_; have NB283_299 := n10_; have NB299_283 := n11_; clear n0_ n1_ n2_ n3_ n4_ n5_ n6_ n7_ n8_ n9_ n10_ n11_; clear hb hbox hg; have hnb14 := NB299_291.out; have hnc14 := NB291_299.out; have hnb15 := NB299_283.out; have hnc15 := NB283_299.out; have hcz16_0 : w13.cell? ⟨gb299, 0, none⟩ = some (.int .i64 0) := (blk_cell BK299.out 0).trans rfl; have hcz16_1 : w13.cell? ⟨gb299, 1, none⟩ = some (.int .i64 0) := (blk_cell BK299.out 1).trans rfl; have hcz16_2 : w13.cell? ⟨gb299, 2, none⟩ = some (.int .i64 0) := (blk_cell BK299.out 2).trans rfl; have hcz16_3 : w13.cell? ⟨gb299, 3, none⟩ = some (.slice none 0 0) := (blk_cell BK299.out 3).trans rfl; have hfz16_0 := blk_frozen BK299.out 0; have hfz16_1 := blk_frozen BK299.out 1; have hfz16_2 := blk_frozen BK299.out 2; have hfz16_3 := blk_frozen BK299.out 3; obtain ⟨Ao17, co17, eo17⟩ := Kd.R_slice HO297.out; subst eo17))
 (try simp only [Act.put, List.setIfInBounds_toArray, List.set_cons_zero, List.set_cons_succ])
 go_cut [38] (fun v38 wc => ∃ (kq : Nat) (x38_4 : Bool), v38 = .bool x38_4 ∧ Aside0 (tilefarmlaw13_IntegralMonotone.j0 kq x38_4 t281 t290 t284 t285 t286 t287 t292 t293 t294 t295 = some r) ∧ Aside0 (kq ≤ k) ∧ Aside0 (Kd.R (Kd.int .i64) 3 wc w.heap.size (fun k_ => some k_ ≠ ((.slice Ao17 t295.length co17) : Value).ownBlock) (.slice Ao11 t287.length co11) t287) ∧ Aside0 (Kd.R (Kd.int .i64) 3 wc w.heap.size (fun k_ => some k_ ≠ ((.slice Ao11 t287.length co11) : Value).ownBlock) (.slice Ao17 t295.length co17) t295) ∧ Aside0 (wc.heap[gb291]? = some (.cells #[.int .i64 t284, .int .i64 t285, .int .i64 t286, (.slice Ao11 t287.length co11)] 26 (0, 0))) ∧ Aside0 (wc.heap[gb299]? = some (.cells #[.int .i64 t292, .int .i64 t293, .int .i64 t294, (.slice Ao17 t295.length co17)] 26 (0, 0))) ∧ Aside0 (IsS56 w wc g283 t281 t290) ∧ Aside0 (Below w.heap.size w wc))
 case first =>
  have H := HC5.out
  clear HC5
  by_cases c18 : t298 = 0
  ·rw [if_pos c18] at H
   have c18b0 : (t298 == 0) = true := beq_iff_eq.mpr c18
   have c18b1 : (t298 != 0) = false := bne_eq_false_iff_eq.mpr c18
   clear c18
   (first | rw [c18b0] | (simp only [i64_w, i32_w]; rw [c18b0]) | skip)
   have H' := am_ H
   clear H
   have hnb19 := NB299_291.out
   have hnc19 := NB291_299.out
   have hnb20 := NB299_283.out
   have hnc20 := NB283_299.out
   have hcz21_0 : w13.cell? ⟨gb299, 0, none⟩ = some (.int .i64 0) := (blk_cell BK299.out 0).trans rfl
   have hcz21_1 : w13.cell? ⟨gb299, 1, none⟩ = some (.int .i64 0) := (blk_cell BK299.out 1).trans rfl
   have hcz21_2 : w13.cell? ⟨gb299, 2, none⟩ = some (.int .i64 0) := (blk_cell BK299.out 2).trans rfl
   have hcz21_3 : w13.cell? ⟨gb299, 3, none⟩ = some (.slice none 0 0) := (blk_cell BK299.out 3).trans rfl
   have hfz21_0 := blk_frozen BK299.out 0
   have hfz21_1 := blk_frozen BK299.out 1
   have hfz21_2 := blk_frozen BK299.out 2
   have hfz21_3 := blk_frozen BK299.out 3
   have hnb22 := NB291_283.out
   have hnc22 := NB283_291.out
   have hcz23_0 : w13.cell? ⟨gb291, 0, none⟩ = some (.int .i64 t284) := (blk_cell BK291.out 0).trans rfl
   have hcz23_1 : w13.cell? ⟨gb291, 1, none⟩ = some (.int .i64 t285) := (blk_cell BK291.out 1).trans rfl
   have hcz23_2 : w13.cell? ⟨gb291, 2, none⟩ = some (.int .i64 t286) := (blk_cell BK291.out 2).trans rfl
   have hcz23_3 : w13.cell? ⟨gb291, 3, none⟩ = some (.slice Ao11 t287.length co11) := (blk_cell BK291.out 3).trans rfl
   have hfz23_0 := blk_frozen BK291.out 0
   have hfz23_1 := blk_frozen BK291.out 1
   have hfz23_2 := blk_frozen BK291.out 2
   have hfz23_3 := blk_frozen BK291.out 3
   go_wp2
   go_meet
   case rel => exact ⟨_, (((t295.length : Int) != (wrap64 (t284 * t285)))), q130_, H', ⟨by first | omega | exact Nat.le_refl _⟩, ⟨by (with_reducible repeat (first | apply Kd.R_alloc | apply Kd.R_drewN | apply Kd.R_drew)); exact Kd.R_mono (Kd.R_far (p := ⟨gb299, 3, none⟩) (Kd.R_far (p := ⟨gb299, 2, none⟩) (Kd.R_far (p := ⟨gb299, 1, none⟩) (Kd.R_far (p := ⟨gb299, 0, none⟩) (Kd.R_types HO289.out BK299.out (by decide)) (fun _ hk => hk.2) (.int .i64 t292)) (fun _ hk => hk.2) (.int .i64 t293)) (fun _ hk => hk.2) (.int .i64 t294)) (fun _ hk => hk.2) (.slice Ao17 t295.length co17)) (fun _ hk => hk.1.2)⟩, ⟨by (with_reducible repeat (first | apply Kd.R_alloc | apply Kd.R_drewN | apply Kd.R_drew)); exact Kd.R_mono (Kd.R_far (p := ⟨gb299, 3, none⟩) (Kd.R_far (p := ⟨gb299, 2, none⟩) (Kd.R_far (p := ⟨gb299, 1, none⟩) (Kd.R_far (p := ⟨gb299, 0, none⟩) (Kd.R_types HO297.out BK299.out (by decide)) (fun _ hk => hk.2) (.int .i64 t292)) (fun _ hk => hk.2) (.int .i64 t293)) (fun _ hk => hk.2) (.int .i64 t294)) (fun _ hk => hk.2) (.slice Ao17 t295.length co17)) (fun _ hk => hk.1.2)⟩, ⟨by (with_reducible repeat (first | refine blk_drewN ?_ _ | refine blk_drew ?_ | refine blk_alloc ?_ _)); refine blk_far ?_ NB291_299.out _; (with_reducible repeat (first | refine blk_drewN ?_ _ | refine blk_drew ?_ | refine blk_alloc ?_ _)); refine blk_far ?_ NB291_299.out _; (with_reducible repeat (first | refine blk_drewN ?_ _ | refine blk_drew ?_ | refine blk_alloc ?_ _)); refine blk_far ?_ NB291_299.out _; (with_reducible repeat (first | refine blk_drewN ?_ _ | refine blk_drew ?_ | refine blk_alloc ?_ _)); refine blk_far ?_ NB291_299.out _; (with_reducible repeat (first | refine blk_drewN ?_ _ | refine blk_drew ?_ | refine blk_alloc ?_ _)); exact BK291.out⟩, ⟨by (with_reducible repeat (first | refine blk_drewN ?_ _ | refine blk_drew ?_ | refine blk_alloc ?_ _)); refine blk_put (cs := #[.int .i64 t292, .int .i64 t293, .int .i64 t294, .slice none 0 0]) ?_ 3 _ rfl; (with_reducible repeat (first | refine blk_drewN ?_ _ | refine blk_drew ?_ | refine blk_alloc ?_ _)); refine blk_put (cs := #[.int .i64 t292, .int .i64 t293, .int .i64 0, .slice none 0 0]) ?_ 2 _ rfl; (with_reducible repeat (first | refine blk_drewN ?_ _ | refine blk_drew ?_ | refine blk_alloc ?_ _)); refine blk_put (cs := #[.int .i64 t292, .int .i64 0, .int .i64 0, .slice none 0 0]) ?_ 1 _ rfl; (with_reducible repeat (first | refine blk_drewN ?_ _ | refine blk_drew ?_ | refine blk_alloc ?_ _)); refine blk_put (cs := #[.int .i64 0, .int .i64 0, .int .i64 0, .slice none 0 0]) ?_ 0 _ rfl; (with_reducible repeat (first | refine blk_drewN ?_ _ | refine blk_drew ?_ | refine blk_alloc ?_ _)); exact BK299.out⟩, ⟨q31_⟩, ⟨q29_⟩⟩
  ·rw [if_neg c18] at H
   have c18b0 : (t298 == 0) = false := beq_eq_false_iff_ne.mpr c18
   have c18b1 : (t298 != 0) = true := bne_iff_ne.mpr c18
   (first | rw [c18b0] | (simp only [i64_w, i32_w]; rw [c18b0]) | skip)
   have H' := am_ H
   clear H
   go_wp2
   go_meet
   case rel => exact ⟨_, (true), q130_, H', ⟨by first | omega | exact Nat.le_refl _⟩, ⟨by (with_reducible repeat (first | apply Kd.R_alloc | apply Kd.R_drewN | apply Kd.R_drew)); exact Kd.R_mono (Kd.R_far (p := ⟨gb299, 3, none⟩) (Kd.R_far (p := ⟨gb299, 2, none⟩) (Kd.R_far (p := ⟨gb299, 1, none⟩) (Kd.R_far (p := ⟨gb299, 0, none⟩) (Kd.R_types HO289.out BK299.out (by decide)) (fun _ hk => hk.2) (.int .i64 t292)) (fun _ hk => hk.2) (.int .i64 t293)) (fun _ hk => hk.2) (.int .i64 t294)) (fun _ hk => hk.2) (.slice Ao17 t295.length co17)) (fun _ hk => hk.1.2)⟩, ⟨by (with_reducible repeat (first | apply Kd.R_alloc | apply Kd.R_drewN | apply Kd.R_drew)); exact Kd.R_mono (Kd.R_far (p := ⟨gb299, 3, none⟩) (Kd.R_far (p := ⟨gb299, 2, none⟩) (Kd.R_far (p := ⟨gb299, 1, none⟩) (Kd.R_far (p := ⟨gb299, 0, none⟩) (Kd.R_types HO297.out BK299.out (by decide)) (fun _ hk => hk.2) (.int .i64 t292)) (fun _ hk => hk.2) (.int .i64 t293)) (fun _ hk => hk.2) (.int .i64 t294)) (fun _ hk => hk.2) (.slice Ao17 t295.length co17)) (fun _ hk => hk.1.2)⟩, ⟨by (with_reducible repeat (first | refine blk_drewN ?_ _ | refine blk_drew ?_ | refine blk_alloc ?_ _)); refine blk_far ?_ NB291_299.out _; (with_reducible repeat (first | refine blk_drewN ?_ _ | refine blk_drew ?_ | refine blk_alloc ?_ _)); refine blk_far ?_ NB291_299.out _; (with_reducible repeat (first | refine blk_drewN ?_ _ | refine blk_drew ?_ | refine blk_alloc ?_ _)); refine blk_far ?_ NB291_299.out _; (with_reducible repeat (first | refine blk_drewN ?_ _ | refine blk_drew ?_ | refine blk_alloc ?_ _)); refine blk_far ?_ NB291_299.out _; (with_reducible repeat (first | refine blk_drewN ?_ _ | refine blk_drew ?_ | refine blk_alloc ?_ _)); exact BK291.out⟩, ⟨by (with_reducible repeat (first | refine blk_drewN ?_ _ | refine blk_drew ?_ | refine blk_alloc ?_ _)); refine blk_put (cs := #[.int .i64 t292, .int .i64 t293, .int .i64 t294, .slice none 0 0]) ?_ 3 _ rfl; (with_reducible repeat (first | refine blk_drewN ?_ _ | refine blk_drew ?_ | refine blk_alloc ?_ _)); refine blk_put (cs := #[.int .i64 t292, .int .i64 t293, .int .i64 0, .slice none 0 0]) ?_ 2 _ rfl; (with_reducible repeat (first | refine blk_drewN ?_ _ | refine blk_drew ?_ | refine blk_alloc ?_ _)); refine blk_put (cs := #[.int .i64 t292, .int .i64 0, .int .i64 0, .slice none 0 0]) ?_ 1 _ rfl; (with_reducible repeat (first | refine blk_drewN ?_ _ | refine blk_drew ?_ | refine blk_alloc ?_ _)); refine blk_put (cs := #[.int .i64 0, .int .i64 0, .int .i64 0, .slice none 0 0]) ?_ 0 _ rfl; (with_reducible repeat (first | refine blk_drewN ?_ _ | refine blk_drew ?_ | refine blk_alloc ?_ _)); exact BK299.out⟩, ⟨q31_⟩, ⟨q29_⟩⟩
 case rest =>
  clear HC5
  try clear c1
  try clear c2
  try clear p2
  try clear c3
  try clear p6
  try clear c8
  try clear c9
  try clear c10
  try clear c14
  try clear c15
  try clear c18
  try clear c18b0
  try clear c18b1
  try clear c19
  try clear c20
  try clear c22
  try clear hcz10_0
  try clear hcz10_1
  try clear hcz10_2
  try clear hcz10_3
  try clear hcz16_0
  try clear hcz16_1
  try clear hcz16_2
  try clear hcz16_3
  try clear hcz21_0
  try clear hcz21_1
  try clear hcz21_2
  try clear hcz21_3
  try clear hcz23_0
  try clear hcz23_1
  try clear hcz23_2
  try clear hcz23_3
  try clear hfz10_0
  try clear hfz10_1
  try clear hfz10_2
  try clear hfz10_3
  try clear hfz16_0
  try clear hfz16_1
  try clear hfz16_2
  try clear hfz16_3
  try clear hfz21_0
  try clear hfz21_1
  try clear hfz21_2
  try clear hfz21_3
  try clear hfz23_0
  try clear hfz23_1
  try clear hfz23_2
  try clear hfz23_3
  obtain ⟨kq, x38_4, rfl, HA, HJ4, HO_292003, HO_300003, BK291, BK299, HI283, HB⟩ := hcut
  cases kq with
  | zero => exact absurd HA.out (by simp [tilefarmlaw13_IntegralMonotone.j0])
  | succ kj4 =>
   have H := HA.out
   clear HA
   simp only [tilefarmlaw13_IntegralMonotone.j0] at H
   by_cases c24 : x38_4 = true
   ·subst c24
    have H1 : (some false) = some r := by rw [if_pos rfl] at H; exact H
    clear H
    have H := H1
    clear H1
    exact absurd ((Option.some.inj H).trans HT.out) (by decide)
   ·replace c24 := Bool.eq_false_iff.mpr c24
    subst c24
    have H1 : (tilefarmlaw13_IntegralMonotone.l0 kj4 0 0 t281 t290 t284 t285 t286 t287 t292 t293 t294 t295) = some r := by rw [if_neg (show ¬ (false = true) by decide)] at H; exact H
    clear H
    have H := H1
    clear H1
    have H' := am_ H
    clear H
    go_wp2
    go_loopg [7, 8] kj4 (fun kq v7 v8 w' => ∃ (x7_2 : Int) (x8_2 : Int), v7 = .int .i64 x7_2 ∧ v8 = .int .i64 x8_2 ∧ Aside0 (tilefarmlaw13_IntegralMonotone.l0 kq x7_2 x8_2 t281 t290 t284 t285 t286 t287 t292 t293 t294 t295 = some r) ∧ Aside0 (kq ≤ kj4) ∧ Aside0 (Kd.R (Kd.int .i64) 3 w' w.heap.size (fun k_ => some k_ ≠ ((.slice Ao17 t295.length co17) : Value).ownBlock) (.slice Ao11 t287.length co11) t287) ∧ Aside0 (Kd.R (Kd.int .i64) 3 w' w.heap.size (fun k_ => some k_ ≠ ((.slice Ao11 t287.length co11) : Value).ownBlock) (.slice Ao17 t295.length co17) t295) ∧ Aside0 (w'.heap[gb291]? = some (.cells #[.int .i64 t284, .int .i64 t285, .int .i64 t286, (.slice Ao11 t287.length co11)] 26 (0, 0))) ∧ Aside0 (w'.heap[gb299]? = some (.cells #[.int .i64 t292, .int .i64 t293, .int .i64 t294, (.slice Ao17 t295.length co17)] 26 (0, 0))) ∧ Aside0 (IsS56 w w' g283 t281 t290) ∧ Aside0 (Below w.heap.size w w'))
    case atStart => exact ⟨(0), (0), q130_, q130_, H', ⟨Nat.le_refl _⟩, ⟨q114_⟩, ⟨q115_⟩, ⟨q109_⟩, ⟨q110_⟩, ⟨q31_⟩, ⟨q29_⟩⟩
    case round =>
     clear H'
     try clear c1
     try clear c2
     try clear p2
     try clear c3
     try clear p6
     try clear c8
     try clear c9
     try clear c10
     try clear c14
     try clear c15
     try clear c18
     try clear c18b0
     try clear c18b1
     try clear c19
     try clear c20
     try clear c22
     try clear c24
     try clear hcz10_0
     try clear hcz10_1
     try clear hcz10_2
     try clear hcz10_3
     try clear hcz16_0
     try clear hcz16_1
     try clear hcz16_2
     try clear hcz16_3
     try clear hcz21_0
     try clear hcz21_1
     try clear hcz21_2
     try clear hcz21_3
     try clear hcz23_0
     try clear hcz23_1
     try clear hcz23_2
     try clear hcz23_3
     try clear hfz10_0
     try clear hfz10_1
     try clear hfz10_2
     try clear hfz10_3
     try clear hfz16_0
     try clear hfz16_1
     try clear hfz16_2
     try clear hfz16_3
     try clear hfz21_0
     try clear hfz21_1
     try clear hfz21_2
     try clear hfz21_3
     try clear hfz23_0
     try clear hfz23_1
     try clear hfz23_2
     try clear hfz23_3
     try clear p2
     try clear p6
     obtain ⟨x7_2, x8_2, rfl, rfl, HA, HK2, HO_292003, HO_300003, BK291, BK299, HI283, HB⟩ := hrel
     cases gk with
     | zero => exact absurd HA.out (by simp [tilefarmlaw13_IntegralMonotone.l0])
     | succ k2 =>
      have H := HA.out
      clear HA
      simp only [tilefarmlaw13_IntegralMonotone.l0] at H
      by_cases c25 : x8_2 < (t287.length : Int)
      ·rw [if_pos c25] at H
       have c25b0 : decide (x8_2 < (t287.length : Int)) = true := decide_eq_true c25
       clear c25
       by_cases c26 : 0 ≤ x8_2
       ·rw [if_pos c26] at H
        have c26b0 : decide (0 ≤ x8_2) = true := decide_eq_true c26
        clear c26
        by_cases c27 : t284 = 0
        ·rw [if_pos c27] at H
         exact absurd H (by simp)
        ·rw [if_neg c27] at H
         have c27b0 : (t284 == 0) = false := beq_eq_false_iff_ne.mpr c27
         have c27b1 : (t284 != 0) = true := bne_iff_ne.mpr c27
         by_cases c28 : (Int.tmod x8_2 t284) > 0
         ·rw [if_pos c28] at H
          have c28b0 : decide (0 < (Int.tmod x8_2 t284)) = true := decide_eq_true c28
          clear c28
          by_cases c29 : x8_2 < (t295.length : Int)
          ·rw [if_pos c29] at H
           have c29b0 : decide (x8_2 < (t295.length : Int)) = true := decide_eq_true c29
           clear c29
           obtain ⟨ji30, hji30⟩ : ∃ j_ : Int, (wrap64 (x8_2 - 1)) = j_ := ⟨_, rfl⟩
           replace H : (if 0 ≤ (ji30) then (if (ji30) < (t295.length : Int) then (if (rd t295 x8_2) < (rd t295 (ji30)) then (some false) else (if x8_2 ≥ t284 then (if 0 ≤ (wrap64 (x8_2 - t284)) then (if (wrap64 (x8_2 - t284)) < (t295.length : Int) then (if (rd t295 x8_2) < (rd t295 (wrap64 (x8_2 - t284))) then (some false) else (tilefarmlaw13_IntegralMonotone.l0 k2 (wrap64 (x7_2 + (rd t287 x8_2))) (wrap64 (x8_2 + 1)) t281 t290 t284 t285 t286 t287 t292 t293 t294 t295)) else (none)) else (none)) else (tilefarmlaw13_IntegralMonotone.l0 k2 (wrap64 (x7_2 + (rd t287 x8_2))) (wrap64 (x8_2 + 1)) t281 t290 t284 t285 t286 t287 t292 t293 t294 t295))) else (none)) else (none)) = some r := by first | (rw [hji30] at H; exact H) | (simp only [hji30] at H ⊢; exact H)
           have hji30w : (IntKind.i64.wrap (x8_2 - 1)) = ji30 := (i64_w _).trans hji30
           by_cases c31 : 0 ≤ (ji30)
           ·rw [if_pos c31] at H
            have c31b0 : decide (0 ≤ (ji30)) = true := decide_eq_true c31
            clear c31
            by_cases c32 : (ji30) < (t295.length : Int)
            ·rw [if_pos c32] at H
             have c32b0 : decide ((ji30) < (t295.length : Int)) = true := decide_eq_true c32
             clear c32
             by_cases c33 : (rd t295 x8_2) < (rd t295 (ji30))
             ·rw [if_pos c33] at H
              have c33b0 : decide ((rd t295 x8_2) < (rd t295 (ji30))) = true := decide_eq_true c33
              clear c33
              exact absurd ((Option.some.inj H).trans HT.out) (by decide)
             ·rw [if_neg c33] at H
              have c33b0 : decide ((rd t295 x8_2) < (rd t295 (ji30))) = false := decide_eq_false c33
              clear c33
              by_cases c34 : x8_2 ≥ t284
              ·rw [if_pos c34] at H
               have c34b0 : decide (t284 ≤ x8_2) = true := decide_eq_true c34
               clear c34
               obtain ⟨ji35, hji35⟩ : ∃ j_ : Int, (wrap64 (x8_2 - t284)) = j_ := ⟨_, rfl⟩
               replace H : (if 0 ≤ (ji35) then (if (ji35) < (t295.length : Int) then (if (rd t295 x8_2) < (rd t295 (ji35)) then (some false) else (tilefarmlaw13_IntegralMonotone.l0 k2 (wrap64 (x7_2 + (rd t287 x8_2))) (wrap64 (x8_2 + 1)) t281 t290 t284 t285 t286 t287 t292 t293 t294 t295)) else (none)) else (none)) = some r := by first | (rw [hji35] at H; exact H) | (simp only [hji35] at H ⊢; exact H)
               have hji35w : (IntKind.i64.wrap (x8_2 - t284)) = ji35 := (i64_w _).trans hji35
               by_cases c36 : 0 ≤ (ji35)
               ·rw [if_pos c36] at H
                have c36b0 : decide (0 ≤ (ji35)) = true := decide_eq_true c36
                clear c36
                by_cases c37 : (ji35) < (t295.length : Int)
                ·rw [if_pos c37] at H
                 have c37b0 : decide ((ji35) < (t295.length : Int)) = true := decide_eq_true c37
                 clear c37
                 by_cases c38 : (rd t295 x8_2) < (rd t295 (ji35))
                 ·rw [if_pos c38] at H
                  have c38b0 : decide ((rd t295 x8_2) < (rd t295 (ji35))) = true := decide_eq_true c38
                  clear c38
                  exact absurd ((Option.some.inj H).trans HT.out) (by decide)
                 ·rw [if_neg c38] at H
                  have c38b0 : decide ((rd t295 x8_2) < (rd t295 (ji35))) = false := decide_eq_false c38
                  clear c38
                  have H' := am_ H
                  clear H
                  have hnb39 := NB291_299.out
                  have hnc39 := NB299_291.out
                  have hnb40 := NB291_283.out
                  have hnc40 := NB283_291.out
                  have hcz41_0 : wr.cell? ⟨gb291, 0, none⟩ = some (.int .i64 t284) := (blk_cell BK291.out 0).trans rfl
                  have hcz41_1 : wr.cell? ⟨gb291, 1, none⟩ = some (.int .i64 t285) := (blk_cell BK291.out 1).trans rfl
                  have hcz41_2 : wr.cell? ⟨gb291, 2, none⟩ = some (.int .i64 t286) := (blk_cell BK291.out 2).trans rfl
                  have hcz41_3 : wr.cell? ⟨gb291, 3, none⟩ = some (.slice Ao11 t287.length co11) := (blk_cell BK291.out 3).trans rfl
                  have hfz41_0 := blk_frozen BK291.out 0
                  have hfz41_1 := blk_frozen BK291.out 1
                  have hfz41_2 := blk_frozen BK291.out 2
                  have hfz41_3 := blk_frozen BK291.out 3
                  have p300 : 0 ≤ (x8_2 : Int) := of_decide_eq_true q129_
                  have q300 : x8_2 < (t287.length : Int) := of_decide_eq_true q129_
                  obtain ⟨ad300, e300, hx300_0⟩ := Kd.at_int (Kd.R_reads' HO_292003.out).2.2 x8_2 p300 q300
                  cases e300
                  replace p300 := eq_true p300
                  replace q300 := eq_true q300
                  try go_wp2
                  have n0_ := am_ (Kd.R_drew HO_292003.out)
                  have n1_ := am_ (Kd.R_drew HO_300003.out)
                  have n2_ := am_ (blk_drew BK291.out)
                  have n3_ := am_ (blk_drew BK299.out)
                  have n4_ := am_ (IsS56.drew HI283.out)
                  have n5_ := am_ (below_drew1 HB.out)
                  clear HO_292003
                  clear HO_300003
                  clear BK291
                  clear BK299
                  clear HI283
                  clear HB
                  have HO_292003 := n0_
                  have HO_300003 := n1_
                  have BK291 := n2_
                  have BK299 := n3_
                  have HI283 := n4_
                  have HB := n5_
                  clear n0_ n1_ n2_ n3_ n4_ n5_
                  have p301 : 0 ≤ (x8_2 : Int) := of_decide_eq_true q129_
                  have q301 : x8_2 < (t295.length : Int) := of_decide_eq_true q129_
                  obtain ⟨ad301, e301, hx301_0⟩ := Kd.at_int (Kd.R_reads' HO_300003.out).2.2 x8_2 p301 q301
                  cases e301
                  replace p301 := eq_true p301
                  replace q301 := eq_true q301
                  have p302 : 0 ≤ ((ji30) : Int) := of_decide_eq_true q129_
                  have q302 : (ji30) < (t295.length : Int) := of_decide_eq_true q129_
                  obtain ⟨ad302, e302, hx302_0⟩ := Kd.at_int (Kd.R_reads' HO_300003.out).2.2 (ji30) p302 q302
                  obtain rfl : ad301 = ad302 := (by injection e302)
                  replace p302 := eq_true p302
                  replace q302 := eq_true q302
                  have p303 : 0 ≤ (x8_2 : Int) := of_decide_eq_true q129_
                  have q303 : x8_2 < (t295.length : Int) := of_decide_eq_true q129_
                  obtain ⟨ad303, e303, hx303_0⟩ := Kd.at_int (Kd.R_reads' HO_300003.out).2.2 x8_2 p303 q303
                  obtain rfl : ad301 = ad303 := (by injection e303)
                  replace p303 := eq_true p303
                  replace q303 := eq_true q303
                  have p304 : 0 ≤ ((ji35) : Int) := of_decide_eq_true q129_
                  have q304 : (ji35) < (t295.length : Int) := of_decide_eq_true q129_
                  obtain ⟨ad304, e304, hx304_0⟩ := Kd.at_int (Kd.R_reads' HO_300003.out).2.2 (ji35) p304 q304
                  obtain rfl : ad301 = ad304 := (by injection e304)
                  replace p304 := eq_true p304
                  replace q304 := eq_true q304
                  refine start_ (n := 41) (S := fun w' => w'.cell? ⟨gb291, 0, none⟩ = some (.int .i64 t284) ∧ w'.cell? ⟨gb291, 1, none⟩ = some (.int .i64 t285) ∧ w'.cell? ⟨gb291, 2, none⟩ = some (.int .i64 t286) ∧ w'.cell? ⟨gb291, 3, none⟩ = some (.slice (some ad300) t287.length co11) ∧ w'.cell? ⟨gb299, 0, none⟩ = some (.int .i64 t292) ∧ w'.cell? ⟨gb299, 1, none⟩ = some (.int .i64 t293) ∧ w'.cell? ⟨gb299, 2, none⟩ = some (.int .i64 t294) ∧ w'.cell? ⟨gb299, 3, none⟩ = some (.slice (some ad301) t295.length co17) ∧ w'.cell? (ad301.add (x8_2).toNat) = some (.int .i64 (rd t295 x8_2)) ∧ w'.cell? (ad301.add ((ji30)).toNat) = some (.int .i64 (rd t295 (ji30))) ∧ w'.cell? (ad301.add (x8_2).toNat) = some (.int .i64 (rd t295 x8_2)) ∧ w'.cell? (ad301.add ((ji35)).toNat) = some (.int .i64 (rd t295 (ji35)))) (ds := []) #[false, false, false, false, false, false, false, false, false, false, false, false, false, false, false, false, false, false, false, false, false, false, false, false, false, false, false, false, false, false, false, false, false, false, false, false, false, false, false, false, false] (by kernel_rfl) rfl rfl ⟨(blk_cell BK291.out 0).trans rfl, (blk_cell BK291.out 1).trans rfl, (blk_cell BK291.out 2).trans rfl, (blk_cell BK291.out 3).trans rfl, (blk_cell BK299.out 0).trans rfl, (blk_cell BK299.out 1).trans rfl, (blk_cell BK299.out 2).trans rfl, (blk_cell BK299.out 3).trans rfl, hx301_0, hx302_0, hx303_0, hx304_0⟩ (fun hHeld => ?_); refine with_tabW tilefarmlaw13_IntegralMonotone.tab11 tilefarmlaw13_IntegralMonotone.bits11 (fun HT_ HW_ => ?_)
                  generalize wr.drew = w42 at HO_292003 HO_300003 BK291 BK299 HI283 HB hx301_0 hx302_0 hx303_0 hx304_0 hHeld ⊢
                  refine pure_ (i := 0) (N := some 53) (v := ?_) (a' := ?_) #[true, false, false, false, false, false, false, false, false, false, false, false, false, false, false, false, false, false, false, false, false, false, false, false, false, false, false, false, false, false, false, false, false, false, false, false, false, false, false, false, false] rfl rfl (any_of HT_.out (by kernel_rfl)) (fun _ _ _ h => h) (Or.inl ⟨by rfl, ?_⟩) ?_ ?_
                  rotate_left
                  ·intro w'
                   go_simp
                   with_reducible rfl
                  rotate_left
                  ·simp only [Act.put, List.setIfInBounds_toArray, List.set_cons_zero, List.set_cons_succ, i64_w, i32_w]
                   rfl
                  refine pure_ (i := 1) (N := some 54) (v := ?_) (a' := ?_) #[true, true, false, false, false, false, false, false, false, false, false, false, false, false, false, false, false, false, false, false, false, false, false, false, false, false, false, false, false, false, false, false, false, false, false, false, false, false, false, false, false] rfl rfl (any_of HT_.out (by kernel_rfl)) (fun _ _ _ h => h) (Or.inl ⟨by rfl, ?_⟩) ?_ ?_
                  rotate_left
                  ·intro w'
                   go_simp
                   with_reducible rfl
                  rotate_left
                  ·simp only [Act.put, List.setIfInBounds_toArray, List.set_cons_zero, List.set_cons_succ, i64_w, i32_w]
                   rfl
                  refine take_ (i := 2) (N := some 55) (v := ?_) (a' := ?_) #[true, true, true, false, false, false, false, false, false, false, false, false, false, false, false, false, false, false, false, false, false, false, false, false, false, false, false, false, false, false, false, false, false, false, false, false, false, false, false, false, false] rfl rfl (take_ofW HT_.out HW_.out (by kernel_rfl)) (fun _ _ _ h => h) (Or.inl ⟨by rfl, ?_⟩) hHeld ?_ ?_
                  rotate_left
                  ·rintro w' ⟨s0, s1, s2, s3, s4, s5, s6, s7, s8, s9, s10, s11⟩
                   go_simp
                   with_reducible rfl
                  rotate_left
                  ·simp only [Act.put, List.setIfInBounds_toArray, List.set_cons_zero, List.set_cons_succ, i64_w, i32_w]
                   rfl
                  refine pure_ (i := 3) (N := some 56) (v := ?_) (a' := ?_) #[true, true, true, true, false, false, false, false, false, false, false, false, false, false, false, false, false, false, false, false, false, false, false, false, false, false, false, false, false, false, false, false, false, false, false, false, false, false, false, false, false] rfl rfl (any_of HT_.out (by kernel_rfl)) (fun _ _ _ h => h) (Or.inl ⟨by rfl, ?_⟩) ?_ ?_
                  rotate_left
                  ·intro w'
                   go_simp
                   with_reducible rfl
                  rotate_left
                  ·simp only [Act.put, List.setIfInBounds_toArray, List.set_cons_zero, List.set_cons_succ, i64_w, i32_w]
                   rfl
                  refine pure_ (i := 4) (N := some 57) (v := ?_) (a' := ?_) #[true, true, true, true, true, false, false, false, false, false, false, false, false, false, false, false, false, false, false, false, false, false, false, false, false, false, false, false, false, false, false, false, false, false, false, false, false, false, false, false, false] rfl rfl (any_of HT_.out (by kernel_rfl)) (fun _ _ _ h => h) (Or.inl ⟨by rfl, ?_⟩) ?_ ?_
                  rotate_left
                  ·intro w'
                   go_simp
                   with_reducible rfl
                  rotate_left
                  ·simp only [Act.put, List.setIfInBounds_toArray, List.set_cons_zero, List.set_cons_succ, i64_w, i32_w]
                   rfl
                  refine pure_ (i := 5) (N := some 58) (v := ?_) (a' := ?_) #[true, true, true, true, true, true, false, false, false, false, false, false, false, false, false, false, false, false, false, false, false, false, false, false, false, false, false, false, false, false, false, false, false, false, false, false, false, false, false, false, false] rfl rfl (any_of HT_.out (by kernel_rfl)) (fun _ _ _ h => h) (Or.inl ⟨by rfl, ?_⟩) ?_ ?_
                  rotate_left
                  ·intro w'
                   go_simp
                   with_reducible rfl
                  rotate_left
                  ·simp only [Act.put, List.setIfInBounds_toArray, List.set_cons_zero, List.set_cons_succ, i64_w, i32_w]
                   rfl
                  refine pure_ (i := 6) (N := some 59) (v := ?_) (a' := ?_) #[true, true, true, true, true, true, true, false, false, false, false, false, false, false, false, false, false, false, false, false, false, false, false, false, false, false, false, false, false, false, false, false, false, false, false, false, false, false, false, false, false] rfl rfl (any_of HT_.out (by kernel_rfl)) (fun _ _ _ h => h) (Or.inl ⟨by rfl, ?_⟩) ?_ ?_
                  rotate_left
                  ·intro w'
                   go_simp
                   with_reducible rfl
                  rotate_left
                  ·simp only [Act.put, List.setIfInBounds_toArray, List.set_cons_zero, List.set_cons_succ, i64_w, i32_w]
                   rfl
                  refine pure_ (i := 8) (N := some 61) (v := ?_) (a' := ?_) #[true, true, true, true, true, true, true, false, true, false, false, false, false, false, false, false, false, false, false, false, false, false, false, false, false, false, false, false, false, false, false, false, false, false, false, false, false, false, false, false, false] rfl rfl (any_of HT_.out (by kernel_rfl)) (fun _ _ _ h => h) (Or.inl ⟨by rfl, ?_⟩) ?_ ?_
                  rotate_left
                  ·intro w'
                   go_simp
                   with_reducible rfl
                  rotate_left
                  ·simp only [Act.put, List.setIfInBounds_toArray, List.set_cons_zero, List.set_cons_succ, i64_w, i32_w]
                   rfl
                  refine pure_ (i := 11) (N := some 64) (v := ?_) (a' := ?_) #[true, true, true, true, true, true, true, false, true, false, false, true, false, false, false, false, false, false, false, false, false, false, false, false, false, false, false, false, false, false, false, false, false, false, false, false, false, false, false, false, false] rfl rfl (any_of HT_.out (by kernel_rfl)) (fun _ _ _ h => h) (Or.inl ⟨by rfl, ?_⟩) ?_ ?_
                  rotate_left
                  ·intro w'
                   go_simp
                   with_reducible rfl
                  rotate_left
                  ·simp only [Act.put, List.setIfInBounds_toArray, List.set_cons_zero, List.set_cons_succ, i64_w, i32_w]
                   rfl
                  refine pure_ (i := 13) (N := some 66) (v := ?_) (a' := ?_) #[true, true, true, true, true, true, true, false, true, false, false, true, false, true, false, false, false, false, false, false, false, false, false, false, false, false, false, false, false, false, false, false, false, false, false, false, false, false, false, false, false] rfl rfl (any_of HT_.out (by kernel_rfl)) (fun _ _ _ h => h) (Or.inl ⟨by rfl, ?_⟩) ?_ ?_
                  rotate_left
                  ·intro w'
                   go_simp
                   with_reducible rfl
                  rotate_left
                  ·simp only [Act.put, List.setIfInBounds_toArray, List.set_cons_zero, List.set_cons_succ, i64_w, i32_w]
                   rfl
                  refine pure_ (i := 14) (N := some 67) (v := ?_) (a' := ?_) #[true, true, true, true, true, true, true, false, true, false, false, true, false, true, true, false, false, false, false, false, false, false, false, false, false, false, false, false, false, false, false, false, false, false, false, false, false, false, false, false, false] rfl rfl (any_of HT_.out (by kernel_rfl)) (fun _ _ _ h => h) (Or.inl ⟨by rfl, ?_⟩) ?_ ?_
                  rotate_left
                  ·intro w'
                   go_simp
                   with_reducible rfl
                  rotate_left
                  ·simp only [Act.put, List.setIfInBounds_toArray, List.set_cons_zero, List.set_cons_succ, i64_w, i32_w]
                   rfl
                  refine take_ (i := 7) (N := some 60) (v := ?_) (a' := ?_) #[true, true, true, true, true, true, true, true, true, false, false, true, false, true, true, false, false, false, false, false, false, false, false, false, false, false, false, false, false, false, false, false, false, false, false, false, false, false, false, false, false] rfl rfl (take_ofW HT_.out HW_.out (by kernel_rfl)) (fun _ _ _ h => h) (Or.inl ⟨by rfl, ?_⟩) hHeld ?_ ?_
                  rotate_left
                  ·rintro w' ⟨s0, s1, s2, s3, s4, s5, s6, s7, s8, s9, s10, s11⟩
                   go_simp
                   with_reducible rfl
                  rotate_left
                  ·simp only [Act.put, List.setIfInBounds_toArray, List.set_cons_zero, List.set_cons_succ, i64_w, i32_w]
                   rfl
                  refine pure_ (i := 9) (N := some 62) (v := ?_) (a' := ?_) #[true, true, true, true, true, true, true, true, true, true, false, true, false, true, true, false, false, false, false, false, false, false, false, false, false, false, false, false, false, false, false, false, false, false, false, false, false, false, false, false, false] rfl rfl (any_of HT_.out (by kernel_rfl)) (fun _ _ _ h => h) (Or.inl ⟨by rfl, ?_⟩) ?_ ?_
                  rotate_left
                  ·intro w'
                   go_simp
                   with_reducible rfl
                  rotate_left
                  ·simp only [Act.put, List.setIfInBounds_toArray, List.set_cons_zero, List.set_cons_succ, i64_w, i32_w]
                   rfl
                  refine take_ (i := 10) (N := some 63) (v := ?_) (a' := ?_) #[true, true, true, true, true, true, true, true, true, true, true, true, false, true, true, false, false, false, false, false, false, false, false, false, false, false, false, false, false, false, false, false, false, false, false, false, false, false, false, false, false] rfl rfl (take_ofW HT_.out HW_.out (by kernel_rfl)) (fun _ _ _ h => h) (Or.inl ⟨by rfl, ?_⟩) hHeld ?_ ?_
                  rotate_left
                  ·rintro w' ⟨s0, s1, s2, s3, s4, s5, s6, s7, s8, s9, s10, s11⟩
                   go_simp
                   with_reducible rfl
                  rotate_left
                  ·simp only [Act.put, List.setIfInBounds_toArray, List.set_cons_zero, List.set_cons_succ, i64_w, i32_w]
                   rfl
                  refine take_ (i := 12) (N := some 65) (v := ?_) (a' := ?_) #[true, true, true, true, true, true, true, true, true, true, true, true, true, true, true, false, false, false, false, false, false, false, false, false, false, false, false, false, false, false, false, false, false, false, false, false, false, false, false, false, false] rfl rfl (take_ofW HT_.out HW_.out (by kernel_rfl)) (fun _ _ _ h => h) (Or.inl ⟨by rfl, ?_⟩) hHeld ?_ ?_
                  rotate_left
                  ·rintro w' ⟨s0, s1, s2, s3, s4, s5, s6, s7, s8, s9, s10, s11⟩
                   go_simp
                   with_reducible rfl
                  rotate_left
                  ·simp only [Act.put, List.setIfInBounds_toArray, List.set_cons_zero, List.set_cons_succ, i64_w, i32_w]
                   rfl
                  refine pure_ (i := 15) (N := some 68) (v := ?_) (a' := ?_) #[true, true, true, true, true, true, true, true, true, true, true, true, true, true, true, true, false, false, false, false, false, false, false, false, false, false, false, false, false, false, false, false, false, false, false, false, false, false, false, false, false] rfl rfl (any_of HT_.out (by kernel_rfl)) (fun _ _ _ h => h) (Or.inl ⟨by rfl, ?_⟩) ?_ ?_
                  rotate_left
                  ·intro w'
                   go_simp
                   with_reducible rfl
                  rotate_left
                  ·simp only [Act.put, List.setIfInBounds_toArray, List.set_cons_zero, List.set_cons_succ, i64_w, i32_w]
                   rfl
                  refine take_ (i := 16) (N := some 69) (v := ?_) (a' := ?_) #[true, true, true, true, true, true, true, true, true, true, true, true, true, true, true, true, true, false, false, false, false, false, false, false, false, false, false, false, false, false, false, false, false, false, false, false, false, false, false, false, false] rfl rfl (take_ofW HT_.out HW_.out (by kernel_rfl)) (fun _ _ _ h => h) (Or.inl ⟨by rfl, ?_⟩) hHeld ?_ ?_
                  rotate_left
                  ·rintro w' ⟨s0, s1, s2, s3, s4, s5, s6, s7, s8, s9, s10, s11⟩
                   go_simp
                   with_reducible rfl
                  rotate_left
                  ·simp only [Act.put, List.setIfInBounds_toArray, List.set_cons_zero, List.set_cons_succ, i64_w, i32_w]
                   rfl
                  refine pure_ (i := 17) (N := some 70) (v := ?_) (a' := ?_) #[true, true, true, true, true, true, true, true, true, true, true, true, true, true, true, true, true, true, false, false, false, false, false, false, false, false, false, false, false, false, false, false, false, false, false, false, false, false, false, false, false] rfl rfl (any_of HT_.out (by kernel_rfl)) (fun _ _ _ h => h) (Or.inl ⟨by rfl, ?_⟩) ?_ ?_
                  rotate_left
                  ·intro w'
                   go_simp
                   with_reducible rfl
                  rotate_left
                  ·simp only [Act.put, List.setIfInBounds_toArray, List.set_cons_zero, List.set_cons_succ, i64_w, i32_w]
                   rfl
                  refine pure_ (i := 18) (N := some 71) (v := ?_) (a' := ?_) #[true, true, true, true, true, true, true, true, true, true, true, true, true, true, true, true, true, true, true, false, false, false, false, false, false, false, false, false, false, false, false, false, false, false, false, false, false, false, false, false, false] rfl rfl (any_of HT_.out (by kernel_rfl)) (fun _ _ _ h => h) (Or.inl ⟨by rfl, ?_⟩) ?_ ?_
                  rotate_left
                  ·intro w'
                   go_simp
                   with_reducible rfl
                  rotate_left
                  ·simp only [Act.put, List.setIfInBounds_toArray, List.set_cons_zero, List.set_cons_succ, i64_w, i32_w]
                   rfl
                  refine pure_ (i := 19) (N := some 72) (v := ?_) (a' := ?_) #[true, true, true, true, true, true, true, true, true, true, true, true, true, true, true, true, true, true, true, true, false, false, false, false, false, false, false, false, false, false, false, false, false, false, false, false, false, false, false, false, false] rfl rfl (any_of HT_.out (by kernel_rfl)) (fun _ _ _ h => h) (Or.inl ⟨by rfl, ?_⟩) ?_ ?_
                  rotate_left
                  ·intro w'
                   go_simp
                   with_reducible rfl
                  rotate_left
                  ·simp only [Act.put, List.setIfInBounds_toArray, List.set_cons_zero, List.set_cons_succ, i64_w, i32_w]
                   rfl
                  refine pure_ (i := 20) (N := some 73) (v := ?_) (a' := ?_) #[true, true, true, true, true, true, true, true, true, true, true, true, true, true, true, true, true, true, true, true, true, false, false, false, false, false, false, false, false, false, false, false, false, false, false, false, false, false, false, false, false] rfl rfl (any_of HT_.out (by kernel_rfl)) (fun _ _ _ h => h) (Or.inl ⟨by rfl, ?_⟩) ?_ ?_
                  rotate_left
                  ·intro w'
                   go_simp
                   with_reducible rfl
                  rotate_left
                  ·simp only [Act.put, List.setIfInBounds_toArray, List.set_cons_zero, List.set_cons_succ, i64_w, i32_w]
                   rfl
                  refine pure_ (i := 21) (N := some 74) (v := ?_) (a' := ?_) #[true, true, true, true, true, true, true, true, true, true, true, true, true, true, true, true, true, true, true, true, true, true, false, false, false, false, false, false, false, false, false, false, false, false, false, false, false, false, false, false, false] rfl rfl (any_of HT_.out (by kernel_rfl)) (fun _ _ _ h => h) (Or.inl ⟨by rfl, ?_⟩) ?_ ?_
                  rotate_left
                  ·intro w'
                   go_simp
                   with_reducible rfl
                  rotate_left
                  ·simp only [Act.put, List.setIfInBounds_toArray, List.set_cons_zero, List.set_cons_succ, i64_w, i32_w]
                   rfl
                  refine take_ (i := 22) (N := some 75) (v := ?_) (a' := ?_) #[true, true, true, true, true, true, true, true, true, true, true, true, true, true, true, true, true, true, true, true, true, true, true, false, false, false, false, false, false, false, false, false, false, false, false, false, false, false, false, false, false] rfl rfl (take_ofW HT_.out HW_.out (by kernel_rfl)) (fun _ _ _ h => h) (Or.inl ⟨by rfl, ?_⟩) hHeld ?_ ?_
                  rotate_left
                  ·rintro w' ⟨s0, s1, s2, s3, s4, s5, s6, s7, s8, s9, s10, s11⟩
                   go_simp
                   with_reducible rfl
                  rotate_left
                  ·simp only [Act.put, List.setIfInBounds_toArray, List.set_cons_zero, List.set_cons_succ, i64_w, i32_w]
                   rfl
                  refine pure_ (i := 23) (N := some 76) (v := ?_) (a' := ?_) #[true, true, true, true, true, true, true, true, true, true, true, true, true, true, true, true, true, true, true, true, true, true, true, true, false, false, false, false, false, false, false, false, false, false, false, false, false, false, false, false, false] rfl rfl (any_of HT_.out (by kernel_rfl)) (fun _ _ _ h => h) (Or.inl ⟨by rfl, ?_⟩) ?_ ?_
                  rotate_left
                  ·intro w'
                   go_simp
                   with_reducible rfl
                  rotate_left
                  ·simp only [Act.put, List.setIfInBounds_toArray, List.set_cons_zero, List.set_cons_succ, i64_w, i32_w]
                   rfl
                  refine pure_ (i := 24) (N := some 77) (v := ?_) (a' := ?_) #[true, true, true, true, true, true, true, true, true, true, true, true, true, true, true, true, true, true, true, true, true, true, true, true, true, false, false, false, false, false, false, false, false, false, false, false, false, false, false, false, false] rfl rfl (any_of HT_.out (by kernel_rfl)) (fun _ _ _ h => h) (Or.inl ⟨by rfl, ?_⟩) ?_ ?_
                  rotate_left
                  ·intro w'
                   go_simp
                   with_reducible rfl
                  rotate_left
                  ·simp only [Act.put, List.setIfInBounds_toArray, List.set_cons_zero, List.set_cons_succ, i64_w, i32_w]
                   rfl
                  refine pure_ (i := 25) (N := some 78) (v := ?_) (a' := ?_) #[true, true, true, true, true, true, true, true, true, true, true, true, true, true, true, true, true, true, true, true, true, true, true, true, true, true, false, false, false, false, false, false, false, false, false, false, false, false, false, false, false] rfl rfl (any_of HT_.out (by kernel_rfl)) (fun _ _ _ h => h) (Or.inl ⟨by rfl, ?_⟩) ?_ ?_
                  rotate_left
                  ·intro w'
                   go_simp
                   with_reducible rfl
                  rotate_left
                  ·simp only [Act.put, List.setIfInBounds_toArray, List.set_cons_zero, List.set_cons_succ, i64_w, i32_w]
                   rfl
                  refine pure_ (i := 27) (N := some 80) (v := ?_) (a' := ?_) #[true, true, true, true, true, true, true, true, true, true, true, true, true, true, true, true, true, true, true, true, true, true, true, true, true, true, false, true, false, false, false, false, false, false, false, false, false, false, false, false, false] rfl rfl (any_of HT_.out (by kernel_rfl)) (fun _ _ _ h => h) (Or.inl ⟨by rfl, ?_⟩) ?_ ?_
                  rotate_left
                  ·intro w'
                   go_simp
                   with_reducible rfl
                  rotate_left
                  ·simp only [Act.put, List.setIfInBounds_toArray, List.set_cons_zero, List.set_cons_succ, i64_w, i32_w]
                   rfl
                  refine pure_ (i := 30) (N := some 83) (v := ?_) (a' := ?_) #[true, true, true, true, true, true, true, true, true, true, true, true, true, true, true, true, true, true, true, true, true, true, true, true, true, true, false, true, false, false, true, false, false, false, false, false, false, false, false, false, false] rfl rfl (any_of HT_.out (by kernel_rfl)) (fun _ _ _ h => h) (Or.inl ⟨by rfl, ?_⟩) ?_ ?_
                  rotate_left
                  ·intro w'
                   go_simp
                   with_reducible rfl
                  rotate_left
                  ·simp only [Act.put, List.setIfInBounds_toArray, List.set_cons_zero, List.set_cons_succ, i64_w, i32_w]
                   rfl
                  refine pure_ (i := 32) (N := some 85) (v := ?_) (a' := ?_) #[true, true, true, true, true, true, true, true, true, true, true, true, true, true, true, true, true, true, true, true, true, true, true, true, true, true, false, true, false, false, true, false, true, false, false, false, false, false, false, false, false] rfl rfl (any_of HT_.out (by kernel_rfl)) (fun _ _ _ h => h) (Or.inl ⟨by rfl, ?_⟩) ?_ ?_
                  rotate_left
                  ·intro w'
                   go_simp
                   with_reducible rfl
                  rotate_left
                  ·simp only [Act.put, List.setIfInBounds_toArray, List.set_cons_zero, List.set_cons_succ, i64_w, i32_w]
                   rfl
                  refine pure_ (i := 33) (N := some 86) (v := ?_) (a' := ?_) #[true, true, true, true, true, true, true, true, true, true, true, true, true, true, true, true, true, true, true, true, true, true, true, true, true, true, false, true, false, false, true, false, true, true, false, false, false, false, false, false, false] rfl rfl (any_of HT_.out (by kernel_rfl)) (fun _ _ _ h => h) (Or.inl ⟨by rfl, ?_⟩) ?_ ?_
                  rotate_left
                  ·intro w'
                   go_simp
                   with_reducible rfl
                  rotate_left
                  ·simp only [Act.put, List.setIfInBounds_toArray, List.set_cons_zero, List.set_cons_succ, i64_w, i32_w]
                   rfl
                  refine take_ (i := 26) (N := some 79) (v := ?_) (a' := ?_) #[true, true, true, true, true, true, true, true, true, true, true, true, true, true, true, true, true, true, true, true, true, true, true, true, true, true, true, true, false, false, true, false, true, true, false, false, false, false, false, false, false] rfl rfl (take_ofW HT_.out HW_.out (by kernel_rfl)) (fun _ _ _ h => h) (Or.inl ⟨by rfl, ?_⟩) hHeld ?_ ?_
                  rotate_left
                  ·rintro w' ⟨s0, s1, s2, s3, s4, s5, s6, s7, s8, s9, s10, s11⟩
                   go_simp
                   with_reducible rfl
                  rotate_left
                  ·simp only [Act.put, List.setIfInBounds_toArray, List.set_cons_zero, List.set_cons_succ, i64_w, i32_w]
                   rfl
                  refine pure_ (i := 28) (N := some 81) (v := ?_) (a' := ?_) #[true, true, true, true, true, true, true, true, true, true, true, true, true, true, true, true, true, true, true, true, true, true, true, true, true, true, true, true, true, false, true, false, true, true, false, false, false, false, false, false, false] rfl rfl (any_of HT_.out (by kernel_rfl)) (fun _ _ _ h => h) (Or.inl ⟨by rfl, ?_⟩) ?_ ?_
                  rotate_left
                  ·intro w'
                   go_simp
                   with_reducible rfl
                  rotate_left
                  ·simp only [Act.put, List.setIfInBounds_toArray, List.set_cons_zero, List.set_cons_succ, i64_w, i32_w]
                   rfl
                  refine take_ (i := 29) (N := some 82) (v := ?_) (a' := ?_) #[true, true, true, true, true, true, true, true, true, true, true, true, true, true, true, true, true, true, true, true, true, true, true, true, true, true, true, true, true, true, true, false, true, true, false, false, false, false, false, false, false] rfl rfl (take_ofW HT_.out HW_.out (by kernel_rfl)) (fun _ _ _ h => h) (Or.inl ⟨by rfl, ?_⟩) hHeld ?_ ?_
                  rotate_left
                  ·rintro w' ⟨s0, s1, s2, s3, s4, s5, s6, s7, s8, s9, s10, s11⟩
                   go_simp
                   with_reducible rfl
                  rotate_left
                  ·simp only [Act.put, List.setIfInBounds_toArray, List.set_cons_zero, List.set_cons_succ, i64_w, i32_w]
                   rfl
                  refine take_ (i := 31) (N := some 84) (v := ?_) (a' := ?_) #[true, true, true, true, true, true, true, true, true, true, true, true, true, true, true, true, true, true, true, true, true, true, true, true, true, true, true, true, true, true, true, true, true, true, false, false, false, false, false, false, false] rfl rfl (take_ofW HT_.out HW_.out (by kernel_rfl)) (fun _ _ _ h => h) (Or.inl ⟨by rfl, ?_⟩) hHeld ?_ ?_
                  rotate_left
                  ·rintro w' ⟨s0, s1, s2, s3, s4, s5, s6, s7, s8, s9, s10, s11⟩
                   go_simp
                   with_reducible rfl
                  rotate_left
                  ·simp only [Act.put, List.setIfInBounds_toArray, List.set_cons_zero, List.set_cons_succ, i64_w, i32_w]
                   rfl
                  refine take_ (i := 34) (N := some 87) (v := ?_) (a' := ?_) #[true, true, true, true, true, true, true, true, true, true, true, true, true, true, true, true, true, true, true, true, true, true, true, true, true, true, true, true, true, true, true, true, true, true, true, false, false, false, false, false, false] rfl rfl (take_ofW HT_.out HW_.out (by kernel_rfl)) (fun _ _ _ h => h) (Or.inl ⟨by rfl, ?_⟩) hHeld ?_ ?_
                  rotate_left
                  ·rintro w' ⟨s0, s1, s2, s3, s4, s5, s6, s7, s8, s9, s10, s11⟩
                   go_simp
                   with_reducible rfl
                  rotate_left
                  ·simp only [Act.put, List.setIfInBounds_toArray, List.set_cons_zero, List.set_cons_succ, i64_w, i32_w]
                   rfl
                  refine pure_ (i := 35) (N := some 88) (v := ?_) (a' := ?_) #[true, true, true, true, true, true, true, true, true, true, true, true, true, true, true, true, true, true, true, true, true, true, true, true, true, true, true, true, true, true, true, true, true, true, true, true, false, false, false, false, false] rfl rfl (any_of HT_.out (by kernel_rfl)) (fun _ _ _ h => h) (Or.inl ⟨by rfl, ?_⟩) ?_ ?_
                  rotate_left
                  ·intro w'
                   go_simp
                   with_reducible rfl
                  rotate_left
                  ·simp only [Act.put, List.setIfInBounds_toArray, List.set_cons_zero, List.set_cons_succ, i64_w, i32_w]
                   rfl
                  refine pure_ (i := 36) (N := some 89) (v := ?_) (a' := ?_) #[true, true, true, true, true, true, true, true, true, true, true, true, true, true, true, true, true, true, true, true, true, true, true, true, true, true, true, true, true, true, true, true, true, true, true, true, true, false, false, false, false] rfl rfl (any_of HT_.out (by kernel_rfl)) (fun _ _ _ h => h) (Or.inl ⟨by rfl, ?_⟩) ?_ ?_
                  rotate_left
                  ·intro w'
                   go_simp
                   with_reducible rfl
                  rotate_left
                  ·simp only [Act.put, List.setIfInBounds_toArray, List.set_cons_zero, List.set_cons_succ, i64_w, i32_w]
                   rfl
                  refine take_ (i := 37) (N := some 90) (v := ?_) (a' := ?_) #[true, true, true, true, true, true, true, true, true, true, true, true, true, true, true, true, true, true, true, true, true, true, true, true, true, true, true, true, true, true, true, true, true, true, true, true, true, true, false, false, false] rfl rfl (take_ofW HT_.out HW_.out (by kernel_rfl)) (fun _ _ _ h => h) (Or.inl ⟨by rfl, ?_⟩) hHeld ?_ ?_
                  rotate_left
                  ·rintro w' ⟨s0, s1, s2, s3, s4, s5, s6, s7, s8, s9, s10, s11⟩
                   go_simp
                   with_reducible rfl
                  rotate_left
                  ·simp only [Act.put, List.setIfInBounds_toArray, List.set_cons_zero, List.set_cons_succ, i64_w, i32_w]
                   rfl
                  refine pure_ (i := 38) (N := some 91) (v := ?_) (a' := ?_) #[true, true, true, true, true, true, true, true, true, true, true, true, true, true, true, true, true, true, true, true, true, true, true, true, true, true, true, true, true, true, true, true, true, true, true, true, true, true, true, false, false] rfl rfl (any_of HT_.out (by kernel_rfl)) (fun _ _ _ h => h) (Or.inl ⟨by rfl, ?_⟩) ?_ ?_
                  rotate_left
                  ·intro w'
                   go_simp
                   with_reducible rfl
                  rotate_left
                  ·simp only [Act.put, List.setIfInBounds_toArray, List.set_cons_zero, List.set_cons_succ, i64_w, i32_w]
                   rfl
                  refine pure_ (i := 39) (N := some 92) (v := ?_) (a' := ?_) #[true, true, true, true, true, true, true, true, true, true, true, true, true, true, true, true, true, true, true, true, true, true, true, true, true, true, true, true, true, true, true, true, true, true, true, true, true, true, true, true, false] rfl rfl (any_of HT_.out (by kernel_rfl)) (fun _ _ _ h => h) (Or.inl ⟨by rfl, ?_⟩) ?_ ?_
                  rotate_left
                  ·intro w'
                   go_simp
                   with_reducible rfl
                  rotate_left
                  ·simp only [Act.put, List.setIfInBounds_toArray, List.set_cons_zero, List.set_cons_succ, i64_w, i32_w]
                   rfl
                  refine pure_ (i := 40) (N := some 93) (v := ?_) (a' := ?_) #[true, true, true, true, true, true, true, true, true, true, true, true, true, true, true, true, true, true, true, true, true, true, true, true, true, true, true, true, true, true, true, true, true, true, true, true, true, true, true, true, true] rfl rfl (any_of HT_.out (by kernel_rfl)) (fun _ _ _ h => h) (Or.inl ⟨by rfl, ?_⟩) ?_ ?_
                  rotate_left
                  ·intro w'
                   go_simp
                   with_reducible rfl
                  rotate_left
                  ·simp only [Act.put, List.setIfInBounds_toArray, List.set_cons_zero, List.set_cons_succ, i64_w, i32_w]
                   rfl
                  refine done_ (done_of HT_.out (by kernel_rfl)) ?_
                  try go_wp2
                  go_roundg k2
                  case measure => have := HJ4.out; have := HK2.out; omega
                  case rel => exact ⟨(wrap64 (x7_2 + (rd t287 x8_2))), (wrap64 (x8_2 + 1)), q130_, q130_, (by first | exact H' | ((try (rw [hji30])); (try (rw [hji35])); exact H')), ⟨q131_⟩, ⟨q114_⟩, ⟨q115_⟩, ⟨q109_⟩, ⟨q110_⟩, ⟨q31_⟩, ⟨q29_⟩⟩
                ·rw [if_neg c37] at H
                 exact absurd H (by simp)
               ·rw [if_neg c36] at H
                exact absurd H (by simp)
              ·rw [if_neg c34] at H
               have c34b0 : decide (t284 ≤ x8_2) = false := decide_eq_false c34
               clear c34
               have H' := am_ H
               clear H
               have hnb43 := NB291_299.out
               have hnc43 := NB299_291.out
               have hnb44 := NB291_283.out
               have hnc44 := NB283_291.out
               have hcz45_0 : wr.cell? ⟨gb291, 0, none⟩ = some (.int .i64 t284) := (blk_cell BK291.out 0).trans rfl
               have hcz45_1 : wr.cell? ⟨gb291, 1, none⟩ = some (.int .i64 t285) := (blk_cell BK291.out 1).trans rfl
               have hcz45_2 : wr.cell? ⟨gb291, 2, none⟩ = some (.int .i64 t286) := (blk_cell BK291.out 2).trans rfl
               have hcz45_3 : wr.cell? ⟨gb291, 3, none⟩ = some (.slice Ao11 t287.length co11) := (blk_cell BK291.out 3).trans rfl
               have hfz45_0 := blk_frozen BK291.out 0
               have hfz45_1 := blk_frozen BK291.out 1
               have hfz45_2 := blk_frozen BK291.out 2
               have hfz45_3 := blk_frozen BK291.out 3
               have p300 : 0 ≤ (x8_2 : Int) := of_decide_eq_true q129_
               have q300 : x8_2 < (t287.length : Int) := of_decide_eq_true q129_
               obtain ⟨ad300, e300, hx300_0⟩ := Kd.at_int (Kd.R_reads' HO_292003.out).2.2 x8_2 p300 q300
               cases e300
               replace p300 := eq_true p300
               replace q300 := eq_true q300
               try go_wp2
               have n0_ := am_ (Kd.R_drew HO_292003.out)
               have n1_ := am_ (Kd.R_drew HO_300003.out)
               have n2_ := am_ (blk_drew BK291.out)
               have n3_ := am_ (blk_drew BK299.out)
               have n4_ := am_ (IsS56.drew HI283.out)
               have n5_ := am_ (below_drew1 HB.out)
               clear HO_292003
               clear HO_300003
               clear BK291
               clear BK299
               clear HI283
               clear HB
               have HO_292003 := n0_
               have HO_300003 := n1_
               have BK291 := n2_
               have BK299 := n3_
               have HI283 := n4_
               have HB := n5_
               clear n0_ n1_ n2_ n3_ n4_ n5_
               have p301 : 0 ≤ (x8_2 : Int) := of_decide_eq_true q129_
               have q301 : x8_2 < (t295.length : Int) := of_decide_eq_true q129_
               obtain ⟨ad301, e301, hx301_0⟩ := Kd.at_int (Kd.R_reads' HO_300003.out).2.2 x8_2 p301 q301
               cases e301
               replace p301 := eq_true p301
               replace q301 := eq_true q301
               have p302 : 0 ≤ ((ji30) : Int) := of_decide_eq_true q129_
               have q302 : (ji30) < (t295.length : Int) := of_decide_eq_true q129_
               obtain ⟨ad302, e302, hx302_0⟩ := Kd.at_int (Kd.R_reads' HO_300003.out).2.2 (ji30) p302 q302
               obtain rfl : ad301 = ad302 := (by injection e302)
               replace p302 := eq_true p302
               replace q302 := eq_true q302
               refine start_ (n := 41) (S := fun w' => w'.cell? ⟨gb291, 0, none⟩ = some (.int .i64 t284) ∧ w'.cell? ⟨gb291, 1, none⟩ = some (.int .i64 t285) ∧ w'.cell? ⟨gb291, 2, none⟩ = some (.int .i64 t286) ∧ w'.cell? ⟨gb291, 3, none⟩ = some (.slice (some ad300) t287.length co11) ∧ w'.cell? ⟨gb299, 0, none⟩ = some (.int .i64 t292) ∧ w'.cell? ⟨gb299, 1, none⟩ = some (.int .i64 t293) ∧ w'.cell? ⟨gb299, 2, none⟩ = some (.int .i64 t294) ∧ w'.cell? ⟨gb299, 3, none⟩ = some (.slice (some ad301) t295.length co17) ∧ w'.cell? (ad301.add (x8_2).toNat) = some (.int .i64 (rd t295 x8_2)) ∧ w'.cell? (ad301.add ((ji30)).toNat) = some (.int .i64 (rd t295 (ji30)))) (ds := []) #[false, false, false, false, false, false, false, false, false, false, false, false, false, false, false, false, false, false, false, false, false, false, false, false, false, false, false, false, false, false, false, false, false, false, false, false, false, false, false, false, false] (by kernel_rfl) rfl rfl ⟨(blk_cell BK291.out 0).trans rfl, (blk_cell BK291.out 1).trans rfl, (blk_cell BK291.out 2).trans rfl, (blk_cell BK291.out 3).trans rfl, (blk_cell BK299.out 0).trans rfl, (blk_cell BK299.out 1).trans rfl, (blk_cell BK299.out 2).trans rfl, (blk_cell BK299.out 3).trans rfl, hx301_0, hx302_0⟩ (fun hHeld => ?_); refine with_tabW tilefarmlaw13_IntegralMonotone.tab11 tilefarmlaw13_IntegralMonotone.bits11 (fun HT_ HW_ => ?_)
               generalize wr.drew = w46 at HO_292003 HO_300003 BK291 BK299 HI283 HB hx301_0 hx302_0 hHeld ⊢
               refine pure_ (i := 0) (N := some 53) (v := ?_) (a' := ?_) #[true, false, false, false, false, false, false, false, false, false, false, false, false, false, false, false, false, false, false, false, false, false, false, false, false, false, false, false, false, false, false, false, false, false, false, false, false, false, false, false, false] rfl rfl (any_of HT_.out (by kernel_rfl)) (fun _ _ _ h => h) (Or.inl ⟨by rfl, ?_⟩) ?_ ?_
               rotate_left
               ·intro w'
                go_simp
                with_reducible rfl
               rotate_left
               ·simp only [Act.put, List.setIfInBounds_toArray, List.set_cons_zero, List.set_cons_succ, i64_w, i32_w]
                rfl
               refine pure_ (i := 1) (N := some 54) (v := ?_) (a' := ?_) #[true, true, false, false, false, false, false, false, false, false, false, false, false, false, false, false, false, false, false, false, false, false, false, false, false, false, false, false, false, false, false, false, false, false, false, false, false, false, false, false, false] rfl rfl (any_of HT_.out (by kernel_rfl)) (fun _ _ _ h => h) (Or.inl ⟨by rfl, ?_⟩) ?_ ?_
               rotate_left
               ·intro w'
                go_simp
                with_reducible rfl
               rotate_left
               ·simp only [Act.put, List.setIfInBounds_toArray, List.set_cons_zero, List.set_cons_succ, i64_w, i32_w]
                rfl
               refine take_ (i := 2) (N := some 55) (v := ?_) (a' := ?_) #[true, true, true, false, false, false, false, false, false, false, false, false, false, false, false, false, false, false, false, false, false, false, false, false, false, false, false, false, false, false, false, false, false, false, false, false, false, false, false, false, false] rfl rfl (take_ofW HT_.out HW_.out (by kernel_rfl)) (fun _ _ _ h => h) (Or.inl ⟨by rfl, ?_⟩) hHeld ?_ ?_
               rotate_left
               ·rintro w' ⟨s0, s1, s2, s3, s4, s5, s6, s7, s8, s9⟩
                go_simp
                with_reducible rfl
               rotate_left
               ·simp only [Act.put, List.setIfInBounds_toArray, List.set_cons_zero, List.set_cons_succ, i64_w, i32_w]
                rfl
               refine pure_ (i := 3) (N := some 56) (v := ?_) (a' := ?_) #[true, true, true, true, false, false, false, false, false, false, false, false, false, false, false, false, false, false, false, false, false, false, false, false, false, false, false, false, false, false, false, false, false, false, false, false, false, false, false, false, false] rfl rfl (any_of HT_.out (by kernel_rfl)) (fun _ _ _ h => h) (Or.inl ⟨by rfl, ?_⟩) ?_ ?_
               rotate_left
               ·intro w'
                go_simp
                with_reducible rfl
               rotate_left
               ·simp only [Act.put, List.setIfInBounds_toArray, List.set_cons_zero, List.set_cons_succ, i64_w, i32_w]
                rfl
               refine pure_ (i := 4) (N := some 57) (v := ?_) (a' := ?_) #[true, true, true, true, true, false, false, false, false, false, false, false, false, false, false, false, false, false, false, false, false, false, false, false, false, false, false, false, false, false, false, false, false, false, false, false, false, false, false, false, false] rfl rfl (any_of HT_.out (by kernel_rfl)) (fun _ _ _ h => h) (Or.inl ⟨by rfl, ?_⟩) ?_ ?_
               rotate_left
               ·intro w'
                go_simp
                with_reducible rfl
               rotate_left
               ·simp only [Act.put, List.setIfInBounds_toArray, List.set_cons_zero, List.set_cons_succ, i64_w, i32_w]
                rfl
               refine pure_ (i := 5) (N := some 58) (v := ?_) (a' := ?_) #[true, true, true, true, true, true, false, false, false, false, false, false, false, false, false, false, false, false, false, false, false, false, false, false, false, false, false, false, false, false, false, false, false, false, false, false, false, false, false, false, false] rfl rfl (any_of HT_.out (by kernel_rfl)) (fun _ _ _ h => h) (Or.inl ⟨by rfl, ?_⟩) ?_ ?_
               rotate_left
               ·intro w'
                go_simp
                with_reducible rfl
               rotate_left
               ·simp only [Act.put, List.setIfInBounds_toArray, List.set_cons_zero, List.set_cons_succ, i64_w, i32_w]
                rfl
               refine pure_ (i := 6) (N := some 59) (v := ?_) (a' := ?_) #[true, true, true, true, true, true, true, false, false, false, false, false, false, false, false, false, false, false, false, false, false, false, false, false, false, false, false, false, false, false, false, false, false, false, false, false, false, false, false, false, false] rfl rfl (any_of HT_.out (by kernel_rfl)) (fun _ _ _ h => h) (Or.inl ⟨by rfl, ?_⟩) ?_ ?_
               rotate_left
               ·intro w'
                go_simp
                with_reducible rfl
               rotate_left
               ·simp only [Act.put, List.setIfInBounds_toArray, List.set_cons_zero, List.set_cons_succ, i64_w, i32_w]
                rfl
               refine pure_ (i := 8) (N := some 61) (v := ?_) (a' := ?_) #[true, true, true, true, true, true, true, false, true, false, false, false, false, false, false, false, false, false, false, false, false, false, false, false, false, false, false, false, false, false, false, false, false, false, false, false, false, false, false, false, false] rfl rfl (any_of HT_.out (by kernel_rfl)) (fun _ _ _ h => h) (Or.inl ⟨by rfl, ?_⟩) ?_ ?_
               rotate_left
               ·intro w'
                go_simp
                with_reducible rfl
               rotate_left
               ·simp only [Act.put, List.setIfInBounds_toArray, List.set_cons_zero, List.set_cons_succ, i64_w, i32_w]
                rfl
               refine pure_ (i := 11) (N := some 64) (v := ?_) (a' := ?_) #[true, true, true, true, true, true, true, false, true, false, false, true, false, false, false, false, false, false, false, false, false, false, false, false, false, false, false, false, false, false, false, false, false, false, false, false, false, false, false, false, false] rfl rfl (any_of HT_.out (by kernel_rfl)) (fun _ _ _ h => h) (Or.inl ⟨by rfl, ?_⟩) ?_ ?_
               rotate_left
               ·intro w'
                go_simp
                with_reducible rfl
               rotate_left
               ·simp only [Act.put, List.setIfInBounds_toArray, List.set_cons_zero, List.set_cons_succ, i64_w, i32_w]
                rfl
               refine pure_ (i := 13) (N := some 66) (v := ?_) (a' := ?_) #[true, true, true, true, true, true, true, false, true, false, false, true, false, true, false, false, false, false, false, false, false, false, false, false, false, false, false, false, false, false, false, false, false, false, false, false, false, false, false, false, false] rfl rfl (any_of HT_.out (by kernel_rfl)) (fun _ _ _ h => h) (Or.inl ⟨by rfl, ?_⟩) ?_ ?_
               rotate_left
               ·intro w'
                go_simp
                with_reducible rfl
               rotate_left
               ·simp only [Act.put, List.setIfInBounds_toArray, List.set_cons_zero, List.set_cons_succ, i64_w, i32_w]
                rfl
               refine pure_ (i := 14) (N := some 67) (v := ?_) (a' := ?_) #[true, true, true, true, true, true, true, false, true, false, false, true, false, true, true, false, false, false, false, false, false, false, false, false, false, false, false, false, false, false, false, false, false, false, false, false, false, false, false, false, false] rfl rfl (any_of HT_.out (by kernel_rfl)) (fun _ _ _ h => h) (Or.inl ⟨by rfl, ?_⟩) ?_ ?_
               rotate_left
               ·intro w'
                go_simp
                with_reducible rfl
               rotate_left
               ·simp only [Act.put, List.setIfInBounds_toArray, List.set_cons_zero, List.set_cons_succ, i64_w, i32_w]
                rfl
               refine take_ (i := 7) (N := some 60) (v := ?_) (a' := ?_) #[true, true, true, true, true, true, true, true, true, false, false, true, false, true, true, false, false, false, false, false, false, false, false, false, false, false, false, false, false, false, false, false, false, false, false, false, false, false, false, false, false] rfl rfl (take_ofW HT_.out HW_.out (by kernel_rfl)) (fun _ _ _ h => h) (Or.inl ⟨by rfl, ?_⟩) hHeld ?_ ?_
               rotate_left
               ·rintro w' ⟨s0, s1, s2, s3, s4, s5, s6, s7, s8, s9⟩
                go_simp
                with_reducible rfl
               rotate_left
               ·simp only [Act.put, List.setIfInBounds_toArray, List.set_cons_zero, List.set_cons_succ, i64_w, i32_w]
                rfl
               refine pure_ (i := 9) (N := some 62) (v := ?_) (a' := ?_) #[true, true, true, true, true, true, true, true, true, true, false, true, false, true, true, false, false, false, false, false, false, false, false, false, false, false, false, false, false, false, false, false, false, false, false, false, false, false, false, false, false] rfl rfl (any_of HT_.out (by kernel_rfl)) (fun _ _ _ h => h) (Or.inl ⟨by rfl, ?_⟩) ?_ ?_
               rotate_left
               ·intro w'
                go_simp
                with_reducible rfl
               rotate_left
               ·simp only [Act.put, List.setIfInBounds_toArray, List.set_cons_zero, List.set_cons_succ, i64_w, i32_w]
                rfl
               refine take_ (i := 10) (N := some 63) (v := ?_) (a' := ?_) #[true, true, true, true, true, true, true, true, true, true, true, true, false, true, true, false, false, false, false, false, false, false, false, false, false, false, false, false, false, false, false, false, false, false, false, false, false, false, false, false, false] rfl rfl (take_ofW HT_.out HW_.out (by kernel_rfl)) (fun _ _ _ h => h) (Or.inl ⟨by rfl, ?_⟩) hHeld ?_ ?_
               rotate_left
               ·rintro w' ⟨s0, s1, s2, s3, s4, s5, s6, s7, s8, s9⟩
                go_simp
                with_reducible rfl
               rotate_left
               ·simp only [Act.put, List.setIfInBounds_toArray, List.set_cons_zero, List.set_cons_succ, i64_w, i32_w]
                rfl
               refine take_ (i := 12) (N := some 65) (v := ?_) (a' := ?_) #[true, true, true, true, true, true, true, true, true, true, true, true, true, true, true, false, false, false, false, false, false, false, false, false, false, false, false, false, false, false, false, false, false, false, false, false, false, false, false, false, false] rfl rfl (take_ofW HT_.out HW_.out (by kernel_rfl)) (fun _ _ _ h => h) (Or.inl ⟨by rfl, ?_⟩) hHeld ?_ ?_
               rotate_left
               ·rintro w' ⟨s0, s1, s2, s3, s4, s5, s6, s7, s8, s9⟩
                go_simp
                with_reducible rfl
               rotate_left
               ·simp only [Act.put, List.setIfInBounds_toArray, List.set_cons_zero, List.set_cons_succ, i64_w, i32_w]
                rfl
               refine pure_ (i := 15) (N := some 68) (v := ?_) (a' := ?_) #[true, true, true, true, true, true, true, true, true, true, true, true, true, true, true, true, false, false, false, false, false, false, false, false, false, false, false, false, false, false, false, false, false, false, false, false, false, false, false, false, false] rfl rfl (any_of HT_.out (by kernel_rfl)) (fun _ _ _ h => h) (Or.inl ⟨by rfl, ?_⟩) ?_ ?_
               rotate_left
               ·intro w'
                go_simp
                with_reducible rfl
               rotate_left
               ·simp only [Act.put, List.setIfInBounds_toArray, List.set_cons_zero, List.set_cons_succ, i64_w, i32_w]
                rfl
               refine take_ (i := 16) (N := some 69) (v := ?_) (a' := ?_) #[true, true, true, true, true, true, true, true, true, true, true, true, true, true, true, true, true, false, false, false, false, false, false, false, false, false, false, false, false, false, false, false, false, false, false, false, false, false, false, false, false] rfl rfl (take_ofW HT_.out HW_.out (by kernel_rfl)) (fun _ _ _ h => h) (Or.inl ⟨by rfl, ?_⟩) hHeld ?_ ?_
               rotate_left
               ·rintro w' ⟨s0, s1, s2, s3, s4, s5, s6, s7, s8, s9⟩
                go_simp
                with_reducible rfl
               rotate_left
               ·simp only [Act.put, List.setIfInBounds_toArray, List.set_cons_zero, List.set_cons_succ, i64_w, i32_w]
                rfl
               refine pure_ (i := 17) (N := some 70) (v := ?_) (a' := ?_) #[true, true, true, true, true, true, true, true, true, true, true, true, true, true, true, true, true, true, false, false, false, false, false, false, false, false, false, false, false, false, false, false, false, false, false, false, false, false, false, false, false] rfl rfl (any_of HT_.out (by kernel_rfl)) (fun _ _ _ h => h) (Or.inl ⟨by rfl, ?_⟩) ?_ ?_
               rotate_left
               ·intro w'
                go_simp
                with_reducible rfl
               rotate_left
               ·simp only [Act.put, List.setIfInBounds_toArray, List.set_cons_zero, List.set_cons_succ, i64_w, i32_w]
                rfl
               refine pure_ (i := 18) (N := some 71) (v := ?_) (a' := ?_) #[true, true, true, true, true, true, true, true, true, true, true, true, true, true, true, true, true, true, true, false, false, false, false, false, false, false, false, false, false, false, false, false, false, false, false, false, false, false, false, false, false] rfl rfl (any_of HT_.out (by kernel_rfl)) (fun _ _ _ h => h) (Or.inl ⟨by rfl, ?_⟩) ?_ ?_
               rotate_left
               ·intro w'
                go_simp
                with_reducible rfl
               rotate_left
               ·simp only [Act.put, List.setIfInBounds_toArray, List.set_cons_zero, List.set_cons_succ, i64_w, i32_w]
                rfl
               refine pure_ (i := 19) (N := some 72) (v := ?_) (a' := ?_) #[true, true, true, true, true, true, true, true, true, true, true, true, true, true, true, true, true, true, true, true, false, false, false, false, false, false, false, false, false, false, false, false, false, false, false, false, false, false, false, false, false] rfl rfl (any_of HT_.out (by kernel_rfl)) (fun _ _ _ h => h) (Or.inl ⟨by rfl, ?_⟩) ?_ ?_
               rotate_left
               ·intro w'
                go_simp
                with_reducible rfl
               rotate_left
               ·simp only [Act.put, List.setIfInBounds_toArray, List.set_cons_zero, List.set_cons_succ, i64_w, i32_w]
                rfl
               refine pure_ (i := 20) (N := some 73) (v := ?_) (a' := ?_) #[true, true, true, true, true, true, true, true, true, true, true, true, true, true, true, true, true, true, true, true, true, false, false, false, false, false, false, false, false, false, false, false, false, false, false, false, false, false, false, false, false] rfl rfl (any_of HT_.out (by kernel_rfl)) (fun _ _ _ h => h) (Or.inl ⟨by rfl, ?_⟩) ?_ ?_
               rotate_left
               ·intro w'
                go_simp
                with_reducible rfl
               rotate_left
               ·simp only [Act.put, List.setIfInBounds_toArray, List.set_cons_zero, List.set_cons_succ, i64_w, i32_w]
                rfl
               refine pure_ (i := 21) (N := some 74) (v := ?_) (a' := ?_) #[true, true, true, true, true, true, true, true, true, true, true, true, true, true, true, true, true, true, true, true, true, true, false, false, false, false, false, false, false, false, false, false, false, false, false, false, false, false, false, false, false] rfl rfl (any_of HT_.out (by kernel_rfl)) (fun _ _ _ h => h) (Or.inl ⟨by rfl, ?_⟩) ?_ ?_
               rotate_left
               ·intro w'
                go_simp
                with_reducible rfl
               rotate_left
               ·simp only [Act.put, List.setIfInBounds_toArray, List.set_cons_zero, List.set_cons_succ, i64_w, i32_w]
                rfl
               refine take_ (i := 22) (N := some 75) (v := ?_) (a' := ?_) #[true, true, true, true, true, true, true, true, true, true, true, true, true, true, true, true, true, true, true, true, true, true, true, false, false, false, false, false, false, false, false, false, false, false, false, false, false, false, false, false, false] rfl rfl (take_ofW HT_.out HW_.out (by kernel_rfl)) (fun _ _ _ h => h) (Or.inl ⟨by rfl, ?_⟩) hHeld ?_ ?_
               rotate_left
               ·rintro w' ⟨s0, s1, s2, s3, s4, s5, s6, s7, s8, s9⟩
                go_simp
                with_reducible rfl
               rotate_left
               ·simp only [Act.put, List.setIfInBounds_toArray, List.set_cons_zero, List.set_cons_succ, i64_w, i32_w]
                rfl
               refine pure_ (i := 23) (N := some 76) (v := ?_) (a' := ?_) #[true, true, true, true, true, true, true, true, true, true, true, true, true, true, true, true, true, true, true, true, true, true, true, true, false, false, false, false, false, false, false, false, false, false, false, false, false, false, false, false, false] rfl rfl (any_of HT_.out (by kernel_rfl)) (fun _ _ _ h => h) (Or.inl ⟨by rfl, ?_⟩) ?_ ?_
               rotate_left
               ·intro w'
                go_simp
                with_reducible rfl
               rotate_left
               ·simp only [Act.put, List.setIfInBounds_toArray, List.set_cons_zero, List.set_cons_succ, i64_w, i32_w]
                rfl
               refine pure_ (i := 24) (N := some 77) (v := ?_) (a' := ?_) #[true, true, true, true, true, true, true, true, true, true, true, true, true, true, true, true, true, true, true, true, true, true, true, true, true, false, false, false, false, false, false, false, false, false, false, false, false, false, false, false, false] rfl rfl (any_of HT_.out (by kernel_rfl)) (fun _ _ _ h => h) (Or.inl ⟨by rfl, ?_⟩) ?_ ?_
               rotate_left
               ·intro w'
                go_simp
                with_reducible rfl
               rotate_left
               ·simp only [Act.put, List.setIfInBounds_toArray, List.set_cons_zero, List.set_cons_succ, i64_w, i32_w]
                rfl
               refine pure_ (i := 25) (N := some 78) (v := undef) (a' := ?_) #[true, true, true, true, true, true, true, true, true, true, true, true, true, true, true, true, true, true, true, true, true, true, true, true, true, true, false, false, false, false, false, false, false, false, false, false, false, false, false, false, false] rfl rfl (any_of HT_.out (by kernel_rfl)) (fun _ _ _ h => h) (Or.inr ⟨by rfl, rfl⟩) ?_ ?_
               rotate_left
               ·simp only [Act.put, List.setIfInBounds_toArray, List.set_cons_zero, List.set_cons_succ, i64_w, i32_w]
                rfl
               refine pure_ (i := 26) (N := some 79) (v := undef) (a' := ?_) #[true, true, true, true, true, true, true, true, true, true, true, true, true, true, true, true, true, true, true, true, true, true, true, true, true, true, true, false, false, false, false, false, false, false, false, false, false, false, false, false, false] rfl rfl (any_of HT_.out (by kernel_rfl)) (fun _ _ _ h => h) (Or.inr ⟨by rfl, rfl⟩) ?_ ?_
               rotate_left
               ·simp only [Act.put, List.setIfInBounds_toArray, List.set_cons_zero, List.set_cons_succ, i64_w, i32_w]
                rfl
               refine pure_ (i := 27) (N := some 80) (v := undef) (a' := ?_) #[true, true, true, true, true, true, true, true, true, true, true, true, true, true, true, true, true, true, true, true, true, true, true, true, true, true, true, true, false, false, false, false, false, false, false, false, false, false, false, false, false] rfl rfl (any_of HT_.out (by kernel_rfl)) (fun _ _ _ h => h) (Or.inr ⟨by rfl, rfl⟩) ?_ ?_
               rotate_left
               ·simp only [Act.put, List.setIfInBounds_toArray, List.set_cons_zero, List.set_cons_succ, i64_w, i32_w]
                rfl
               refine pure_ (i := 28) (N := some 81) (v := undef) (a' := ?_) #[true, true, true, true, true, true, true, true, true, true, true, true, true, true, true, true, true, true, true, true, true, true, true, true, true, true, true, true, true, false, false, false, false, false, false, false, false, false, false, false, false] rfl rfl (any_of HT_.out (by kernel_rfl)) (fun _ _ _ h => h) (Or.inr ⟨by rfl, rfl⟩) ?_ ?_
               rotate_left
               ·simp only [Act.put, List.setIfInBounds_toArray, List.set_cons_zero, List.set_cons_succ, i64_w, i32_w]
                rfl
               refine pure_ (i := 29) (N := some 82) (v := undef) (a' := ?_) #[true, true, true, true, true, true, true, true, true, true, true, true, true, true, true, true, true, true, true, true, true, true, true, true, true, true, true, true, true, true, false, false, false, false, false, false, false, false, false, false, false] rfl rfl (any_of HT_.out (by kernel_rfl)) (fun _ _ _ h => h) (Or.inr ⟨by rfl, rfl⟩) ?_ ?_
               rotate_left
               ·simp only [Act.put, List.setIfInBounds_toArray, List.set_cons_zero, List.set_cons_succ, i64_w, i32_w]
                rfl
               refine pure_ (i := 30) (N := some 83) (v := undef) (a' := ?_) #[true, true, true, true, true, true, true, true, true, true, true, true, true, true, true, true, true, true, true, true, true, true, true, true, true, true, true, true, true, true, true, false, false, false, false, false, false, false, false, false, false] rfl rfl (any_of HT_.out (by kernel_rfl)) (fun _ _ _ h => h) (Or.inr ⟨by rfl, rfl⟩) ?_ ?_
               rotate_left
               ·simp only [Act.put, List.setIfInBounds_toArray, List.set_cons_zero, List.set_cons_succ, i64_w, i32_w]
                rfl
               refine pure_ (i := 31) (N := some 84) (v := undef) (a' := ?_) #[true, true, true, true, true, true, true, true, true, true, true, true, true, true, true, true, true, true, true, true, true, true, true, true, true, true, true, true, true, true, true, true, false, false, false, false, false, false, false, false, false] rfl rfl (any_of HT_.out (by kernel_rfl)) (fun _ _ _ h => h) (Or.inr ⟨by rfl, rfl⟩) ?_ ?_
               rotate_left
               ·simp only [Act.put, List.setIfInBounds_toArray, List.set_cons_zero, List.set_cons_succ, i64_w, i32_w]
                rfl
               refine pure_ (i := 32) (N := some 85) (v := undef) (a' := ?_) #[true, true, true, true, true, true, true, true, true, true, true, true, true, true, true, true, true, true, true, true, true, true, true, true, true, true, true, true, true, true, true, true, true, false, false, false, false, false, false, false, false] rfl rfl (any_of HT_.out (by kernel_rfl)) (fun _ _ _ h => h) (Or.inr ⟨by rfl, rfl⟩) ?_ ?_
               rotate_left
               ·simp only [Act.put, List.setIfInBounds_toArray, List.set_cons_zero, List.set_cons_succ, i64_w, i32_w]
                rfl
               refine pure_ (i := 33) (N := some 86) (v := undef) (a' := ?_) #[true, true, true, true, true, true, true, true, true, true, true, true, true, true, true, true, true, true, true, true, true, true, true, true, true, true, true, true, true, true, true, true, true, true, false, false, false, false, false, false, false] rfl rfl (any_of HT_.out (by kernel_rfl)) (fun _ _ _ h => h) (Or.inr ⟨by rfl, rfl⟩) ?_ ?_
               rotate_left
               ·simp only [Act.put, List.setIfInBounds_toArray, List.set_cons_zero, List.set_cons_succ, i64_w, i32_w]
                rfl
               refine pure_ (i := 34) (N := some 87) (v := undef) (a' := ?_) #[true, true, true, true, true, true, true, true, true, true, true, true, true, true, true, true, true, true, true, true, true, true, true, true, true, true, true, true, true, true, true, true, true, true, true, false, false, false, false, false, false] rfl rfl (any_of HT_.out (by kernel_rfl)) (fun _ _ _ h => h) (Or.inr ⟨by rfl, rfl⟩) ?_ ?_
               rotate_left
               ·simp only [Act.put, List.setIfInBounds_toArray, List.set_cons_zero, List.set_cons_succ, i64_w, i32_w]
                rfl
               refine pure_ (i := 35) (N := some 88) (v := undef) (a' := ?_) #[true, true, true, true, true, true, true, true, true, true, true, true, true, true, true, true, true, true, true, true, true, true, true, true, true, true, true, true, true, true, true, true, true, true, true, true, false, false, false, false, false] rfl rfl (any_of HT_.out (by kernel_rfl)) (fun _ _ _ h => h) (Or.inr ⟨by rfl, rfl⟩) ?_ ?_
               rotate_left
               ·simp only [Act.put, List.setIfInBounds_toArray, List.set_cons_zero, List.set_cons_succ, i64_w, i32_w]
                rfl
               refine pure_ (i := 36) (N := some 89) (v := undef) (a' := ?_) #[true, true, true, true, true, true, true, true, true, true, true, true, true, true, true, true, true, true, true, true, true, true, true, true, true, true, true, true, true, true, true, true, true, true, true, true, true, false, false, false, false] rfl rfl (any_of HT_.out (by kernel_rfl)) (fun _ _ _ h => h) (Or.inr ⟨by rfl, rfl⟩) ?_ ?_
               rotate_left
               ·simp only [Act.put, List.setIfInBounds_toArray, List.set_cons_zero, List.set_cons_succ, i64_w, i32_w]
                rfl
               refine pure_ (i := 37) (N := some 90) (v := undef) (a' := ?_) #[true, true, true, true, true, true, true, true, true, true, true, true, true, true, true, true, true, true, true, true, true, true, true, true, true, true, true, true, true, true, true, true, true, true, true, true, true, true, false, false, false] rfl rfl (any_of HT_.out (by kernel_rfl)) (fun _ _ _ h => h) (Or.inr ⟨by rfl, rfl⟩) ?_ ?_
               rotate_left
               ·simp only [Act.put, List.setIfInBounds_toArray, List.set_cons_zero, List.set_cons_succ, i64_w, i32_w]
                rfl
               refine pure_ (i := 38) (N := some 91) (v := undef) (a' := ?_) #[true, true, true, true, true, true, true, true, true, true, true, true, true, true, true, true, true, true, true, true, true, true, true, true, true, true, true, true, true, true, true, true, true, true, true, true, true, true, true, false, false] rfl rfl (any_of HT_.out (by kernel_rfl)) (fun _ _ _ h => h) (Or.inr ⟨by rfl, rfl⟩) ?_ ?_
               rotate_left
               ·simp only [Act.put, List.setIfInBounds_toArray, List.set_cons_zero, List.set_cons_succ, i64_w, i32_w]
                rfl
               refine pure_ (i := 39) (N := some 92) (v := ?_) (a' := ?_) #[true, true, true, true, true, true, true, true, true, true, true, true, true, true, true, true, true, true, true, true, true, true, true, true, true, true, true, true, true, true, true, true, true, true, true, true, true, true, true, true, false] rfl rfl (any_of HT_.out (by kernel_rfl)) (fun _ _ _ h => h) (Or.inl ⟨by rfl, ?_⟩) ?_ ?_
               rotate_left
               ·intro w'
                go_simp
                with_reducible rfl
               rotate_left
               ·simp only [Act.put, List.setIfInBounds_toArray, List.set_cons_zero, List.set_cons_succ, i64_w, i32_w]
                rfl
               refine pure_ (i := 40) (N := some 93) (v := ?_) (a' := ?_) #[true, true, true, true, true, true, true, true, true, true, true, true, true, true, true, true, true, true, true, true, true, true, true, true, true, true, true, true, true, true, true, true, true, true, true, true, true, true, true, true, true] rfl rfl (any_of HT_.out (by kernel_rfl)) (fun _ _ _ h => h) (Or.inl ⟨by rfl, ?_⟩) ?_ ?_
               rotate_left
               ·intro w'
                go_simp
                with_reducible rfl
               rotate_left
               ·simp only [Act.put, List.setIfInBounds_toArray, List.set_cons_zero, List.set_cons_succ, i64_w, i32_w]
                rfl
               refine done_ (done_of HT_.out (by kernel_rfl)) ?_
               try go_wp2
               go_roundg k2
               case measure => have := HJ4.out; have := HK2.out; omega
               case rel => exact ⟨(wrap64 (x7_2 + (rd t287 x8_2))), (wrap64 (x8_2 + 1)), q130_, q130_, (by first | exact H' | ((try (rw [hji30])); (try (rw [hji35])); exact H')), ⟨q131_⟩, ⟨q114_⟩, ⟨q115_⟩, ⟨q109_⟩, ⟨q110_⟩, ⟨q31_⟩, ⟨q29_⟩⟩
            ·rw [if_neg c32] at H
             exact absurd H (by simp)
           ·rw [if_neg c31] at H
            exact absurd H (by simp)
          ·rw [if_neg c29] at H
           exact absurd H (by simp)
         ·rw [if_neg c28] at H
          have c28b0 : decide (0 < (Int.tmod x8_2 t284)) = false := decide_eq_false c28
          clear c28
          by_cases c47 : x8_2 ≥ t284
          ·rw [if_pos c47] at H
           have c47b0 : decide (t284 ≤ x8_2) = true := decide_eq_true c47
           clear c47
           by_cases c48 : x8_2 < (t295.length : Int)
           ·rw [if_pos c48] at H
            have c48b0 : decide (x8_2 < (t295.length : Int)) = true := decide_eq_true c48
            clear c48
            obtain ⟨ji49, hji49⟩ : ∃ j_ : Int, (wrap64 (x8_2 - t284)) = j_ := ⟨_, rfl⟩
            replace H : (if 0 ≤ (ji49) then (if (ji49) < (t295.length : Int) then (if (rd t295 x8_2) < (rd t295 (ji49)) then (some false) else (tilefarmlaw13_IntegralMonotone.l0 k2 (wrap64 (x7_2 + (rd t287 x8_2))) (wrap64 (x8_2 + 1)) t281 t290 t284 t285 t286 t287 t292 t293 t294 t295)) else (none)) else (none)) = some r := by first | (rw [hji49] at H; exact H) | (simp only [hji49] at H ⊢; exact H)
            have hji49w : (IntKind.i64.wrap (x8_2 - t284)) = ji49 := (i64_w _).trans hji49
            by_cases c50 : 0 ≤ (ji49)
            ·rw [if_pos c50] at H
             have c50b0 : decide (0 ≤ (ji49)) = true := decide_eq_true c50
             clear c50
             by_cases c51 : (ji49) < (t295.length : Int)
             ·rw [if_pos c51] at H
              have c51b0 : decide ((ji49) < (t295.length : Int)) = true := decide_eq_true c51
              clear c51
              by_cases c52 : (rd t295 x8_2) < (rd t295 (ji49))
              ·rw [if_pos c52] at H
               have c52b0 : decide ((rd t295 x8_2) < (rd t295 (ji49))) = true := decide_eq_true c52
               clear c52
               exact absurd ((Option.some.inj H).trans HT.out) (by decide)
              ·rw [if_neg c52] at H
               have c52b0 : decide ((rd t295 x8_2) < (rd t295 (ji49))) = false := decide_eq_false c52
               clear c52
               have H' := am_ H
               clear H
               have hnb53 := NB291_299.out
               have hnc53 := NB299_291.out
               have hnb54 := NB291_283.out
               have hnc54 := NB283_291.out
               have hcz55_0 : wr.cell? ⟨gb291, 0, none⟩ = some (.int .i64 t284) := (blk_cell BK291.out 0).trans rfl
               have hcz55_1 : wr.cell? ⟨gb291, 1, none⟩ = some (.int .i64 t285) := (blk_cell BK291.out 1).trans rfl
               have hcz55_2 : wr.cell? ⟨gb291, 2, none⟩ = some (.int .i64 t286) := (blk_cell BK291.out 2).trans rfl
               have hcz55_3 : wr.cell? ⟨gb291, 3, none⟩ = some (.slice Ao11 t287.length co11) := (blk_cell BK291.out 3).trans rfl
               have hfz55_0 := blk_frozen BK291.out 0
               have hfz55_1 := blk_frozen BK291.out 1
               have hfz55_2 := blk_frozen BK291.out 2
               have hfz55_3 := blk_frozen BK291.out 3
               have p300 : 0 ≤ (x8_2 : Int) := of_decide_eq_true q129_
               have q300 : x8_2 < (t287.length : Int) := of_decide_eq_true q129_
               obtain ⟨ad300, e300, hx300_0⟩ := Kd.at_int (Kd.R_reads' HO_292003.out).2.2 x8_2 p300 q300
               cases e300
               replace p300 := eq_true p300
               replace q300 := eq_true q300
               try go_wp2
               have n0_ := am_ (Kd.R_drew HO_292003.out)
               have n1_ := am_ (Kd.R_drew HO_300003.out)
               have n2_ := am_ (blk_drew BK291.out)
               have n3_ := am_ (blk_drew BK299.out)
               have n4_ := am_ (IsS56.drew HI283.out)
               have n5_ := am_ (below_drew1 HB.out)
               clear HO_292003
               clear HO_300003
               clear BK291
               clear BK299
               clear HI283
               clear HB
               have HO_292003 := n0_
               have HO_300003 := n1_
               have BK291 := n2_
               have BK299 := n3_
               have HI283 := n4_
               have HB := n5_
               clear n0_ n1_ n2_ n3_ n4_ n5_
               have p305 : 0 ≤ (x8_2 : Int) := of_decide_eq_true q129_
               have q305 : x8_2 < (t295.length : Int) := of_decide_eq_true q129_
               obtain ⟨ad305, e305, hx305_0⟩ := Kd.at_int (Kd.R_reads' HO_300003.out).2.2 x8_2 p305 q305
               cases e305
               replace p305 := eq_true p305
               replace q305 := eq_true q305
               have p306 : 0 ≤ ((ji49) : Int) := of_decide_eq_true q129_
               have q306 : (ji49) < (t295.length : Int) := of_decide_eq_true q129_
               obtain ⟨ad306, e306, hx306_0⟩ := Kd.at_int (Kd.R_reads' HO_300003.out).2.2 (ji49) p306 q306
               obtain rfl : ad305 = ad306 := (by injection e306)
               replace p306 := eq_true p306
               replace q306 := eq_true q306
               refine start_ (n := 41) (S := fun w' => w'.cell? ⟨gb291, 0, none⟩ = some (.int .i64 t284) ∧ w'.cell? ⟨gb291, 1, none⟩ = some (.int .i64 t285) ∧ w'.cell? ⟨gb291, 2, none⟩ = some (.int .i64 t286) ∧ w'.cell? ⟨gb291, 3, none⟩ = some (.slice (some ad300) t287.length co11) ∧ w'.cell? ⟨gb299, 0, none⟩ = some (.int .i64 t292) ∧ w'.cell? ⟨gb299, 1, none⟩ = some (.int .i64 t293) ∧ w'.cell? ⟨gb299, 2, none⟩ = some (.int .i64 t294) ∧ w'.cell? ⟨gb299, 3, none⟩ = some (.slice (some ad305) t295.length co17) ∧ w'.cell? (ad305.add (x8_2).toNat) = some (.int .i64 (rd t295 x8_2)) ∧ w'.cell? (ad305.add ((ji49)).toNat) = some (.int .i64 (rd t295 (ji49)))) (ds := []) #[false, false, false, false, false, false, false, false, false, false, false, false, false, false, false, false, false, false, false, false, false, false, false, false, false, false, false, false, false, false, false, false, false, false, false, false, false, false, false, false, false] (by kernel_rfl) rfl rfl ⟨(blk_cell BK291.out 0).trans rfl, (blk_cell BK291.out 1).trans rfl, (blk_cell BK291.out 2).trans rfl, (blk_cell BK291.out 3).trans rfl, (blk_cell BK299.out 0).trans rfl, (blk_cell BK299.out 1).trans rfl, (blk_cell BK299.out 2).trans rfl, (blk_cell BK299.out 3).trans rfl, hx305_0, hx306_0⟩ (fun hHeld => ?_); refine with_tabW tilefarmlaw13_IntegralMonotone.tab11 tilefarmlaw13_IntegralMonotone.bits11 (fun HT_ HW_ => ?_)
               generalize wr.drew = w56 at HO_292003 HO_300003 BK291 BK299 HI283 HB hx305_0 hx306_0 hHeld ⊢
               refine pure_ (i := 0) (N := some 53) (v := ?_) (a' := ?_) #[true, false, false, false, false, false, false, false, false, false, false, false, false, false, false, false, false, false, false, false, false, false, false, false, false, false, false, false, false, false, false, false, false, false, false, false, false, false, false, false, false] rfl rfl (any_of HT_.out (by kernel_rfl)) (fun _ _ _ h => h) (Or.inl ⟨by rfl, ?_⟩) ?_ ?_
               rotate_left
               ·intro w'
                go_simp
                with_reducible rfl
               rotate_left
               ·simp only [Act.put, List.setIfInBounds_toArray, List.set_cons_zero, List.set_cons_succ, i64_w, i32_w]
                rfl
               refine pure_ (i := 1) (N := some 54) (v := ?_) (a' := ?_) #[true, true, false, false, false, false, false, false, false, false, false, false, false, false, false, false, false, false, false, false, false, false, false, false, false, false, false, false, false, false, false, false, false, false, false, false, false, false, false, false, false] rfl rfl (any_of HT_.out (by kernel_rfl)) (fun _ _ _ h => h) (Or.inl ⟨by rfl, ?_⟩) ?_ ?_
               rotate_left
               ·intro w'
                go_simp
                with_reducible rfl
               rotate_left
               ·simp only [Act.put, List.setIfInBounds_toArray, List.set_cons_zero, List.set_cons_succ, i64_w, i32_w]
                rfl
               refine take_ (i := 2) (N := some 55) (v := ?_) (a' := ?_) #[true, true, true, false, false, false, false, false, false, false, false, false, false, false, false, false, false, false, false, false, false, false, false, false, false, false, false, false, false, false, false, false, false, false, false, false, false, false, false, false, false] rfl rfl (take_ofW HT_.out HW_.out (by kernel_rfl)) (fun _ _ _ h => h) (Or.inl ⟨by rfl, ?_⟩) hHeld ?_ ?_
               rotate_left
               ·rintro w' ⟨s0, s1, s2, s3, s4, s5, s6, s7, s8, s9⟩
                go_simp
                with_reducible rfl
               rotate_left
               ·simp only [Act.put, List.setIfInBounds_toArray, List.set_cons_zero, List.set_cons_succ, i64_w, i32_w]
                rfl
               refine pure_ (i := 3) (N := some 56) (v := ?_) (a' := ?_) #[true, true, true, true, false, false, false, false, false, false, false, false, false, false, false, false, false, false, false, false, false, false, false, false, false, false, false, false, false, false, false, false, false, false, false, false, false, false, false, false, false] rfl rfl (any_of HT_.out (by kernel_rfl)) (fun _ _ _ h => h) (Or.inl ⟨by rfl, ?_⟩) ?_ ?_
               rotate_left
               ·intro w'
                go_simp
                with_reducible rfl
               rotate_left
               ·simp only [Act.put, List.setIfInBounds_toArray, List.set_cons_zero, List.set_cons_succ, i64_w, i32_w]
                rfl
               refine pure_ (i := 4) (N := some 57) (v := ?_) (a' := ?_) #[true, true, true, true, true, false, false, false, false, false, false, false, false, false, false, false, false, false, false, false, false, false, false, false, false, false, false, false, false, false, false, false, false, false, false, false, false, false, false, false, false] rfl rfl (any_of HT_.out (by kernel_rfl)) (fun _ _ _ h => h) (Or.inl ⟨by rfl, ?_⟩) ?_ ?_
               rotate_left
               ·intro w'
                go_simp
                with_reducible rfl
               rotate_left
               ·simp only [Act.put, List.setIfInBounds_toArray, List.set_cons_zero, List.set_cons_succ, i64_w, i32_w]
                rfl
               refine pure_ (i := 5) (N := some 58) (v := ?_) (a' := ?_) #[true, true, true, true, true, true, false, false, false, false, false, false, false, false, false, false, false, false, false, false, false, false, false, false, false, false, false, false, false, false, false, false, false, false, false, false, false, false, false, false, false] rfl rfl (any_of HT_.out (by kernel_rfl)) (fun _ _ _ h => h) (Or.inl ⟨by rfl, ?_⟩) ?_ ?_
               rotate_left
               ·intro w'
                go_simp
                with_reducible rfl
               rotate_left
               ·simp only [Act.put, List.setIfInBounds_toArray, List.set_cons_zero, List.set_cons_succ, i64_w, i32_w]
                rfl
               refine pure_ (i := 6) (N := some 59) (v := undef) (a' := ?_) #[true, true, true, true, true, true, true, false, false, false, false, false, false, false, false, false, false, false, false, false, false, false, false, false, false, false, false, false, false, false, false, false, false, false, false, false, false, false, false, false, false] rfl rfl (any_of HT_.out (by kernel_rfl)) (fun _ _ _ h => h) (Or.inr ⟨by rfl, rfl⟩) ?_ ?_
               rotate_left
               ·simp only [Act.put, List.setIfInBounds_toArray, List.set_cons_zero, List.set_cons_succ, i64_w, i32_w]
                rfl
               refine pure_ (i := 7) (N := some 60) (v := undef) (a' := ?_) #[true, true, true, true, true, true, true, true, false, false, false, false, false, false, false, false, false, false, false, false, false, false, false, false, false, false, false, false, false, false, false, false, false, false, false, false, false, false, false, false, false] rfl rfl (any_of HT_.out (by kernel_rfl)) (fun _ _ _ h => h) (Or.inr ⟨by rfl, rfl⟩) ?_ ?_
               rotate_left
               ·simp only [Act.put, List.setIfInBounds_toArray, List.set_cons_zero, List.set_cons_succ, i64_w, i32_w]
                rfl
               refine pure_ (i := 8) (N := some 61) (v := undef) (a' := ?_) #[true, true, true, true, true, true, true, true, true, false, false, false, false, false, false, false, false, false, false, false, false, false, false, false, false, false, false, false, false, false, false, false, false, false, false, false, false, false, false, false, false] rfl rfl (any_of HT_.out (by kernel_rfl)) (fun _ _ _ h => h) (Or.inr ⟨by rfl, rfl⟩) ?_ ?_
               rotate_left
               ·simp only [Act.put, List.setIfInBounds_toArray, List.set_cons_zero, List.set_cons_succ, i64_w, i32_w]
                rfl
               refine pure_ (i := 9) (N := some 62) (v := undef) (a' := ?_) #[true, true, true, true, true, true, true, true, true, true, false, false, false, false, false, false, false, false, false, false, false, false, false, false, false, false, false, false, false, false, false, false, false, false, false, false, false, false, false, false, false] rfl rfl (any_of HT_.out (by kernel_rfl)) (fun _ _ _ h => h) (Or.inr ⟨by rfl, rfl⟩) ?_ ?_
               rotate_left
               ·simp only [Act.put, List.setIfInBounds_toArray, List.set_cons_zero, List.set_cons_succ, i64_w, i32_w]
                rfl
               refine pure_ (i := 10) (N := some 63) (v := undef) (a' := ?_) #[true, true, true, true, true, true, true, true, true, true, true, false, false, false, false, false, false, false, false, false, false, false, false, false, false, false, false, false, false, false, false, false, false, false, false, false, false, false, false, false, false] rfl rfl (any_of HT_.out (by kernel_rfl)) (fun _ _ _ h => h) (Or.inr ⟨by rfl, rfl⟩) ?_ ?_
               rotate_left
               ·simp only [Act.put, List.setIfInBounds_toArray, List.set_cons_zero, List.set_cons_succ, i64_w, i32_w]
                rfl
               refine pure_ (i := 11) (N := some 64) (v := undef) (a' := ?_) #[true, true, true, true, true, true, true, true, true, true, true, true, false, false, false, false, false, false, false, false, false, false, false, false, false, false, false, false, false, false, false, false, false, false, false, false, false, false, false, false, false] rfl rfl (any_of HT_.out (by kernel_rfl)) (fun _ _ _ h => h) (Or.inr ⟨by rfl, rfl⟩) ?_ ?_
               rotate_left
               ·simp only [Act.put, List.setIfInBounds_toArray, List.set_cons_zero, List.set_cons_succ, i64_w, i32_w]
                rfl
               refine pure_ (i := 12) (N := some 65) (v := undef) (a' := ?_) #[true, true, true, true, true, true, true, true, true, true, true, true, true, false, false, false, false, false, false, false, false, false, false, false, false, false, false, false, false, false, false, false, false, false, false, false, false, false, false, false, false] rfl rfl (any_of HT_.out (by kernel_rfl)) (fun _ _ _ h => h) (Or.inr ⟨by rfl, rfl⟩) ?_ ?_
               rotate_left
               ·simp only [Act.put, List.setIfInBounds_toArray, List.set_cons_zero, List.set_cons_succ, i64_w, i32_w]
                rfl
               refine pure_ (i := 13) (N := some 66) (v := undef) (a' := ?_) #[true, true, true, true, true, true, true, true, true, true, true, true, true, true, false, false, false, false, false, false, false, false, false, false, false, false, false, false, false, false, false, false, false, false, false, false, false, false, false, false, false] rfl rfl (any_of HT_.out (by kernel_rfl)) (fun _ _ _ h => h) (Or.inr ⟨by rfl, rfl⟩) ?_ ?_
               rotate_left
               ·simp only [Act.put, List.setIfInBounds_toArray, List.set_cons_zero, List.set_cons_succ, i64_w, i32_w]
                rfl
               refine pure_ (i := 14) (N := some 67) (v := undef) (a' := ?_) #[true, true, true, true, true, true, true, true, true, true, true, true, true, true, true, false, false, false, false, false, false, false, false, false, false, false, false, false, false, false, false, false, false, false, false, false, false, false, false, false, false] rfl rfl (any_of HT_.out (by kernel_rfl)) (fun _ _ _ h => h) (Or.inr ⟨by rfl, rfl⟩) ?_ ?_
               rotate_left
               ·simp only [Act.put, List.setIfInBounds_toArray, List.set_cons_zero, List.set_cons_succ, i64_w, i32_w]
                rfl
               refine pure_ (i := 15) (N := some 68) (v := undef) (a' := ?_) #[true, true, true, true, true, true, true, true, true, true, true, true, true, true, true, true, false, false, false, false, false, false, false, false, false, false, false, false, false, false, false, false, false, false, false, false, false, false, false, false, false] rfl rfl (any_of HT_.out (by kernel_rfl)) (fun _ _ _ h => h) (Or.inr ⟨by rfl, rfl⟩) ?_ ?_
               rotate_left
               ·simp only [Act.put, List.setIfInBounds_toArray, List.set_cons_zero, List.set_cons_succ, i64_w, i32_w]
                rfl
               refine pure_ (i := 16) (N := some 69) (v := undef) (a' := ?_) #[true, true, true, true, true, true, true, true, true, true, true, true, true, true, true, true, true, false, false, false, false, false, false, false, false, false, false, false, false, false, false, false, false, false, false, false, false, false, false, false, false] rfl rfl (any_of HT_.out (by kernel_rfl)) (fun _ _ _ h => h) (Or.inr ⟨by rfl, rfl⟩) ?_ ?_
               rotate_left
               ·simp only [Act.put, List.setIfInBounds_toArray, List.set_cons_zero, List.set_cons_succ, i64_w, i32_w]
                rfl
               refine pure_ (i := 17) (N := some 70) (v := undef) (a' := ?_) #[true, true, true, true, true, true, true, true, true, true, true, true, true, true, true, true, true, true, false, false, false, false, false, false, false, false, false, false, false, false, false, false, false, false, false, false, false, false, false, false, false] rfl rfl (any_of HT_.out (by kernel_rfl)) (fun _ _ _ h => h) (Or.inr ⟨by rfl, rfl⟩) ?_ ?_
               rotate_left
               ·simp only [Act.put, List.setIfInBounds_toArray, List.set_cons_zero, List.set_cons_succ, i64_w, i32_w]
                rfl
               refine pure_ (i := 18) (N := some 71) (v := ?_) (a' := ?_) #[true, true, true, true, true, true, true, true, true, true, true, true, true, true, true, true, true, true, true, false, false, false, false, false, false, false, false, false, false, false, false, false, false, false, false, false, false, false, false, false, false] rfl rfl (any_of HT_.out (by kernel_rfl)) (fun _ _ _ h => h) (Or.inl ⟨by rfl, ?_⟩) ?_ ?_
               rotate_left
               ·intro w'
                go_simp
                with_reducible rfl
               rotate_left
               ·simp only [Act.put, List.setIfInBounds_toArray, List.set_cons_zero, List.set_cons_succ, i64_w, i32_w]
                rfl
               refine pure_ (i := 19) (N := some 72) (v := ?_) (a' := ?_) #[true, true, true, true, true, true, true, true, true, true, true, true, true, true, true, true, true, true, true, true, false, false, false, false, false, false, false, false, false, false, false, false, false, false, false, false, false, false, false, false, false] rfl rfl (any_of HT_.out (by kernel_rfl)) (fun _ _ _ h => h) (Or.inl ⟨by rfl, ?_⟩) ?_ ?_
               rotate_left
               ·intro w'
                go_simp
                with_reducible rfl
               rotate_left
               ·simp only [Act.put, List.setIfInBounds_toArray, List.set_cons_zero, List.set_cons_succ, i64_w, i32_w]
                rfl
               refine pure_ (i := 20) (N := some 73) (v := ?_) (a' := ?_) #[true, true, true, true, true, true, true, true, true, true, true, true, true, true, true, true, true, true, true, true, true, false, false, false, false, false, false, false, false, false, false, false, false, false, false, false, false, false, false, false, false] rfl rfl (any_of HT_.out (by kernel_rfl)) (fun _ _ _ h => h) (Or.inl ⟨by rfl, ?_⟩) ?_ ?_
               rotate_left
               ·intro w'
                go_simp
                with_reducible rfl
               rotate_left
               ·simp only [Act.put, List.setIfInBounds_toArray, List.set_cons_zero, List.set_cons_succ, i64_w, i32_w]
                rfl
               refine pure_ (i := 21) (N := some 74) (v := ?_) (a' := ?_) #[true, true, true, true, true, true, true, true, true, true, true, true, true, true, true, true, true, true, true, true, true, true, false, false, false, false, false, false, false, false, false, false, false, false, false, false, false, false, false, false, false] rfl rfl (any_of HT_.out (by kernel_rfl)) (fun _ _ _ h => h) (Or.inl ⟨by rfl, ?_⟩) ?_ ?_
               rotate_left
               ·intro w'
                go_simp
                with_reducible rfl
               rotate_left
               ·simp only [Act.put, List.setIfInBounds_toArray, List.set_cons_zero, List.set_cons_succ, i64_w, i32_w]
                rfl
               refine take_ (i := 22) (N := some 75) (v := ?_) (a' := ?_) #[true, true, true, true, true, true, true, true, true, true, true, true, true, true, true, true, true, true, true, true, true, true, true, false, false, false, false, false, false, false, false, false, false, false, false, false, false, false, false, false, false] rfl rfl (take_ofW HT_.out HW_.out (by kernel_rfl)) (fun _ _ _ h => h) (Or.inl ⟨by rfl, ?_⟩) hHeld ?_ ?_
               rotate_left
               ·rintro w' ⟨s0, s1, s2, s3, s4, s5, s6, s7, s8, s9⟩
                go_simp
                with_reducible rfl
               rotate_left
               ·simp only [Act.put, List.setIfInBounds_toArray, List.set_cons_zero, List.set_cons_succ, i64_w, i32_w]
                rfl
               refine pure_ (i := 23) (N := some 76) (v := ?_) (a' := ?_) #[true, true, true, true, true, true, true, true, true, true, true, true, true, true, true, true, true, true, true, true, true, true, true, true, false, false, false, false, false, false, false, false, false, false, false, false, false, false, false, false, false] rfl rfl (any_of HT_.out (by kernel_rfl)) (fun _ _ _ h => h) (Or.inl ⟨by rfl, ?_⟩) ?_ ?_
               rotate_left
               ·intro w'
                go_simp
                with_reducible rfl
               rotate_left
               ·simp only [Act.put, List.setIfInBounds_toArray, List.set_cons_zero, List.set_cons_succ, i64_w, i32_w]
                rfl
               refine pure_ (i := 24) (N := some 77) (v := ?_) (a' := ?_) #[true, true, true, true, true, true, true, true, true, true, true, true, true, true, true, true, true, true, true, true, true, true, true, true, true, false, false, false, false, false, false, false, false, false, false, false, false, false, false, false, false] rfl rfl (any_of HT_.out (by kernel_rfl)) (fun _ _ _ h => h) (Or.inl ⟨by rfl, ?_⟩) ?_ ?_
               rotate_left
               ·intro w'
                go_simp
                with_reducible rfl
               rotate_left
               ·simp only [Act.put, List.setIfInBounds_toArray, List.set_cons_zero, List.set_cons_succ, i64_w, i32_w]
                rfl
               refine pure_ (i := 25) (N := some 78) (v := ?_) (a' := ?_) #[true, true, true, true, true, true, true, true, true, true, true, true, true, true, true, true, true, true, true, true, true, true, true, true, true, true, false, false, false, false, false, false, false, false, false, false, false, false, false, false, false] rfl rfl (any_of HT_.out (by kernel_rfl)) (fun _ _ _ h => h) (Or.inl ⟨by rfl, ?_⟩) ?_ ?_
               rotate_left
               ·intro w'
                go_simp
                with_reducible rfl
               rotate_left
               ·simp only [Act.put, List.setIfInBounds_toArray, List.set_cons_zero, List.set_cons_succ, i64_w, i32_w]
                rfl
               refine pure_ (i := 27) (N := some 80) (v := ?_) (a' := ?_) #[true, true, true, true, true, true, true, true, true, true, true, true, true, true, true, true, true, true, true, true, true, true, true, true, true, true, false, true, false, false, false, false, false, false, false, false, false, false, false, false, false] rfl rfl (any_of HT_.out (by kernel_rfl)) (fun _ _ _ h => h) (Or.inl ⟨by rfl, ?_⟩) ?_ ?_
               rotate_left
               ·intro w'
                go_simp
                with_reducible rfl
               rotate_left
               ·simp only [Act.put, List.setIfInBounds_toArray, List.set_cons_zero, List.set_cons_succ, i64_w, i32_w]
                rfl
               refine pure_ (i := 30) (N := some 83) (v := ?_) (a' := ?_) #[true, true, true, true, true, true, true, true, true, true, true, true, true, true, true, true, true, true, true, true, true, true, true, true, true, true, false, true, false, false, true, false, false, false, false, false, false, false, false, false, false] rfl rfl (any_of HT_.out (by kernel_rfl)) (fun _ _ _ h => h) (Or.inl ⟨by rfl, ?_⟩) ?_ ?_
               rotate_left
               ·intro w'
                go_simp
                with_reducible rfl
               rotate_left
               ·simp only [Act.put, List.setIfInBounds_toArray, List.set_cons_zero, List.set_cons_succ, i64_w, i32_w]
                rfl
               refine pure_ (i := 32) (N := some 85) (v := ?_) (a' := ?_) #[true, true, true, true, true, true, true, true, true, true, true, true, true, true, true, true, true, true, true, true, true, true, true, true, true, true, false, true, false, false, true, false, true, false, false, false, false, false, false, false, false] rfl rfl (any_of HT_.out (by kernel_rfl)) (fun _ _ _ h => h) (Or.inl ⟨by rfl, ?_⟩) ?_ ?_
               rotate_left
               ·intro w'
                go_simp
                with_reducible rfl
               rotate_left
               ·simp only [Act.put, List.setIfInBounds_toArray, List.set_cons_zero, List.set_cons_succ, i64_w, i32_w]
                rfl
               refine pure_ (i := 33) (N := some 86) (v := ?_) (a' := ?_) #[true, true, true, true, true, true, true, true, true, true, true, true, true, true, true, true, true, true, true, true, true, true, true, true, true, true, false, true, false, false, true, false, true, true, false, false, false, false, false, false, false] rfl rfl (any_of HT_.out (by kernel_rfl)) (fun _ _ _ h => h) (Or.inl ⟨by rfl, ?_⟩) ?_ ?_
               rotate_left
               ·intro w'
                go_simp
                with_reducible rfl
               rotate_left
               ·simp only [Act.put, List.setIfInBounds_toArray, List.set_cons_zero, List.set_cons_succ, i64_w, i32_w]
                rfl
               refine take_ (i := 26) (N := some 79) (v := ?_) (a' := ?_) #[true, true, true, true, true, true, true, true, true, true, true, true, true, true, true, true, true, true, true, true, true, true, true, true, true, true, true, true, false, false, true, false, true, true, false, false, false, false, false, false, false] rfl rfl (take_ofW HT_.out HW_.out (by kernel_rfl)) (fun _ _ _ h => h) (Or.inl ⟨by rfl, ?_⟩) hHeld ?_ ?_
               rotate_left
               ·rintro w' ⟨s0, s1, s2, s3, s4, s5, s6, s7, s8, s9⟩
                go_simp
                with_reducible rfl
               rotate_left
               ·simp only [Act.put, List.setIfInBounds_toArray, List.set_cons_zero, List.set_cons_succ, i64_w, i32_w]
                rfl
               refine pure_ (i := 28) (N := some 81) (v := ?_) (a' := ?_) #[true, true, true, true, true, true, true, true, true, true, true, true, true, true, true, true, true, true, true, true, true, true, true, true, true, true, true, true, true, false, true, false, true, true, false, false, false, false, false, false, false] rfl rfl (any_of HT_.out (by kernel_rfl)) (fun _ _ _ h => h) (Or.inl ⟨by rfl, ?_⟩) ?_ ?_
               rotate_left
               ·intro w'
                go_simp
                with_reducible rfl
               rotate_left
               ·simp only [Act.put, List.setIfInBounds_toArray, List.set_cons_zero, List.set_cons_succ, i64_w, i32_w]
                rfl
               refine take_ (i := 29) (N := some 82) (v := ?_) (a' := ?_) #[true, true, true, true, true, true, true, true, true, true, true, true, true, true, true, true, true, true, true, true, true, true, true, true, true, true, true, true, true, true, true, false, true, true, false, false, false, false, false, false, false] rfl rfl (take_ofW HT_.out HW_.out (by kernel_rfl)) (fun _ _ _ h => h) (Or.inl ⟨by rfl, ?_⟩) hHeld ?_ ?_
               rotate_left
               ·rintro w' ⟨s0, s1, s2, s3, s4, s5, s6, s7, s8, s9⟩
                go_simp
                with_reducible rfl
               rotate_left
               ·simp only [Act.put, List.setIfInBounds_toArray, List.set_cons_zero, List.set_cons_succ, i64_w, i32_w]
                rfl
               refine take_ (i := 31) (N := some 84) (v := ?_) (a' := ?_) #[true, true, true, true, true, true, true, true, true, true, true, true, true, true, true, true, true, true, true, true, true, true, true, true, true, true, true, true, true, true, true, true, true, true, false, false, false, false, false, false, false] rfl rfl (take_ofW HT_.out HW_.out (by kernel_rfl)) (fun _ _ _ h => h) (Or.inl ⟨by rfl, ?_⟩) hHeld ?_ ?_
               rotate_left
               ·rintro w' ⟨s0, s1, s2, s3, s4, s5, s6, s7, s8, s9⟩
                go_simp
                with_reducible rfl
               rotate_left
               ·simp only [Act.put, List.setIfInBounds_toArray, List.set_cons_zero, List.set_cons_succ, i64_w, i32_w]
                rfl
               refine take_ (i := 34) (N := some 87) (v := ?_) (a' := ?_) #[true, true, true, true, true, true, true, true, true, true, true, true, true, true, true, true, true, true, true, true, true, true, true, true, true, true, true, true, true, true, true, true, true, true, true, false, false, false, false, false, false] rfl rfl (take_ofW HT_.out HW_.out (by kernel_rfl)) (fun _ _ _ h => h) (Or.inl ⟨by rfl, ?_⟩) hHeld ?_ ?_
               rotate_left
               ·rintro w' ⟨s0, s1, s2, s3, s4, s5, s6, s7, s8, s9⟩
                go_simp
                with_reducible rfl
               rotate_left
               ·simp only [Act.put, List.setIfInBounds_toArray, List.set_cons_zero, List.set_cons_succ, i64_w, i32_w]
                rfl
               refine pure_ (i := 35) (N := some 88) (v := ?_) (a' := ?_) #[true, true, true, true, true, true, true, true, true, true, true, true, true, true, true, true, true, true, true, true, true, true, true, true, true, true, true, true, true, true, true, true, true, true, true, true, false, false, false, false, false] rfl rfl (any_of HT_.out (by kernel_rfl)) (fun _ _ _ h => h) (Or.inl ⟨by rfl, ?_⟩) ?_ ?_
               rotate_left
               ·intro w'
                go_simp
                with_reducible rfl
               rotate_left
               ·simp only [Act.put, List.setIfInBounds_toArray, List.set_cons_zero, List.set_cons_succ, i64_w, i32_w]
                rfl
               refine pure_ (i := 36) (N := some 89) (v := ?_) (a' := ?_) #[true, true, true, true, true, true, true, true, true, true, true, true, true, true, true, true, true, true, true, true, true, true, true, true, true, true, true, true, true, true, true, true, true, true, true, true, true, false, false, false, false] rfl rfl (any_of HT_.out (by kernel_rfl)) (fun _ _ _ h => h) (Or.inl ⟨by rfl, ?_⟩) ?_ ?_
               rotate_left
               ·intro w'
                go_simp
                with_reducible rfl
               rotate_left
               ·simp only [Act.put, List.setIfInBounds_toArray, List.set_cons_zero, List.set_cons_succ, i64_w, i32_w]
                rfl
               refine take_ (i := 37) (N := some 90) (v := ?_) (a' := ?_) #[true, true, true, true, true, true, true, true, true, true, true, true, true, true, true, true, true, true, true, true, true, true, true, true, true, true, true, true, true, true, true, true, true, true, true, true, true, true, false, false, false] rfl rfl (take_ofW HT_.out HW_.out (by kernel_rfl)) (fun _ _ _ h => h) (Or.inl ⟨by rfl, ?_⟩) hHeld ?_ ?_
               rotate_left
               ·rintro w' ⟨s0, s1, s2, s3, s4, s5, s6, s7, s8, s9⟩
                go_simp
                with_reducible rfl
               rotate_left
               ·simp only [Act.put, List.setIfInBounds_toArray, List.set_cons_zero, List.set_cons_succ, i64_w, i32_w]
                rfl
               refine pure_ (i := 38) (N := some 91) (v := ?_) (a' := ?_) #[true, true, true, true, true, true, true, true, true, true, true, true, true, true, true, true, true, true, true, true, true, true, true, true, true, true, true, true, true, true, true, true, true, true, true, true, true, true, true, false, false] rfl rfl (any_of HT_.out (by kernel_rfl)) (fun _ _ _ h => h) (Or.inl ⟨by rfl, ?_⟩) ?_ ?_
               rotate_left
               ·intro w'
                go_simp
                with_reducible rfl
               rotate_left
               ·simp only [Act.put, List.setIfInBounds_toArray, List.set_cons_zero, List.set_cons_succ, i64_w, i32_w]
                rfl
               refine pure_ (i := 39) (N := some 92) (v := ?_) (a' := ?_) #[true, true, true, true, true, true, true, true, true, true, true, true, true, true, true, true, true, true, true, true, true, true, true, true, true, true, true, true, true, true, true, true, true, true, true, true, true, true, true, true, false] rfl rfl (any_of HT_.out (by kernel_rfl)) (fun _ _ _ h => h) (Or.inl ⟨by rfl, ?_⟩) ?_ ?_
               rotate_left
               ·intro w'
                go_simp
                with_reducible rfl
               rotate_left
               ·simp only [Act.put, List.setIfInBounds_toArray, List.set_cons_zero, List.set_cons_succ, i64_w, i32_w]
                rfl
               refine pure_ (i := 40) (N := some 93) (v := ?_) (a' := ?_) #[true, true, true, true, true, true, true, true, true, true, true, true, true, true, true, true, true, true, true, true, true, true, true, true, true, true, true, true, true, true, true, true, true, true, true, true, true, true, true, true, true] rfl rfl (any_of HT_.out (by kernel_rfl)) (fun _ _ _ h => h) (Or.inl ⟨by rfl, ?_⟩) ?_ ?_
               rotate_left
               ·intro w'
                go_simp
                with_reducible rfl
               rotate_left
               ·simp only [Act.put, List.setIfInBounds_toArray, List.set_cons_zero, List.set_cons_succ, i64_w, i32_w]
                rfl
               refine done_ (done_of HT_.out (by kernel_rfl)) ?_
               try go_wp2
               go_roundg k2
               case measure => have := HJ4.out; have := HK2.out; omega
               case rel => exact ⟨(wrap64 (x7_2 + (rd t287 x8_2))), (wrap64 (x8_2 + 1)), q130_, q130_, (by first | exact H' | ((try (rw [hji30])); (try (rw [hji35])); (try (rw [hji49])); exact H')), ⟨q131_⟩, ⟨q114_⟩, ⟨q115_⟩, ⟨q109_⟩, ⟨q110_⟩, ⟨q31_⟩, ⟨q29_⟩⟩
             ·rw [if_neg c51] at H
              exact absurd H (by simp)
            ·rw [if_neg c50] at H
             exact absurd H (by simp)
           ·rw [if_neg c48] at H
            exact absurd H (by simp)
          ·rw [if_neg c47] at H
           have c47b0 : decide (t284 ≤ x8_2) = false := decide_eq_false c47
           clear c47
           have H' := am_ H
           clear H
           have hnb57 := NB291_299.out
           have hnc57 := NB299_291.out
           have hnb58 := NB291_283.out
           have hnc58 := NB283_291.out
           have hcz59_0 : wr.cell? ⟨gb291, 0, none⟩ = some (.int .i64 t284) := (blk_cell BK291.out 0).trans rfl
           have hcz59_1 : wr.cell? ⟨gb291, 1, none⟩ = some (.int .i64 t285) := (blk_cell BK291.out 1).trans rfl
           have hcz59_2 : wr.cell? ⟨gb291, 2, none⟩ = some (.int .i64 t286) := (blk_cell BK291.out 2).trans rfl
           have hcz59_3 : wr.cell? ⟨gb291, 3, none⟩ = some (.slice Ao11 t287.length co11) := (blk_cell BK291.out 3).trans rfl
           have hfz59_0 := blk_frozen BK291.out 0
           have hfz59_1 := blk_frozen BK291.out 1
           have hfz59_2 := blk_frozen BK291.out 2
           have hfz59_3 := blk_frozen BK291.out 3
           have p300 : 0 ≤ (x8_2 : Int) := of_decide_eq_true q129_
           have q300 : x8_2 < (t287.length : Int) := of_decide_eq_true q129_
           obtain ⟨ad300, e300, hx300_0⟩ := Kd.at_int (Kd.R_reads' HO_292003.out).2.2 x8_2 p300 q300
           cases e300
           replace p300 := eq_true p300
           replace q300 := eq_true q300
           try go_wp2
           have n0_ := am_ (Kd.R_drew HO_292003.out)
           have n1_ := am_ (Kd.R_drew HO_300003.out)
           have n2_ := am_ (blk_drew BK291.out)
           have n3_ := am_ (blk_drew BK299.out)
           have n4_ := am_ (IsS56.drew HI283.out)
           have n5_ := am_ (below_drew1 HB.out)
           clear HO_292003
           clear HO_300003
           clear BK291
           clear BK299
           clear HI283
           clear HB
           have HO_292003 := n0_
           have HO_300003 := n1_
           have BK291 := n2_
           have BK299 := n3_
           have HI283 := n4_
           have HB := n5_
           clear n0_ n1_ n2_ n3_ n4_ n5_
           refine start_ (n := 41) (S := fun w' => w'.cell? ⟨gb291, 0, none⟩ = some (.int .i64 t284) ∧ w'.cell? ⟨gb291, 1, none⟩ = some (.int .i64 t285) ∧ w'.cell? ⟨gb291, 2, none⟩ = some (.int .i64 t286) ∧ w'.cell? ⟨gb291, 3, none⟩ = some (.slice (some ad300) t287.length co11)) (ds := []) #[false, false, false, false, false, false, false, false, false, false, false, false, false, false, false, false, false, false, false, false, false, false, false, false, false, false, false, false, false, false, false, false, false, false, false, false, false, false, false, false, false] (by kernel_rfl) rfl rfl ⟨(blk_cell BK291.out 0).trans rfl, (blk_cell BK291.out 1).trans rfl, (blk_cell BK291.out 2).trans rfl, (blk_cell BK291.out 3).trans rfl⟩ (fun hHeld => ?_); refine with_tabW tilefarmlaw13_IntegralMonotone.tab11 tilefarmlaw13_IntegralMonotone.bits11 (fun HT_ HW_ => ?_)
           generalize wr.drew = w60 at HO_292003 HO_300003 BK291 BK299 HI283 HB hHeld ⊢
           refine pure_ (i := 0) (N := some 53) (v := ?_) (a' := ?_) #[true, false, false, false, false, false, false, false, false, false, false, false, false, false, false, false, false, false, false, false, false, false, false, false, false, false, false, false, false, false, false, false, false, false, false, false, false, false, false, false, false] rfl rfl (any_of HT_.out (by kernel_rfl)) (fun _ _ _ h => h) (Or.inl ⟨by rfl, ?_⟩) ?_ ?_
           rotate_left
           ·intro w'
            go_simp
            with_reducible rfl
           rotate_left
           ·simp only [Act.put, List.setIfInBounds_toArray, List.set_cons_zero, List.set_cons_succ, i64_w, i32_w]
            rfl
           refine pure_ (i := 1) (N := some 54) (v := ?_) (a' := ?_) #[true, true, false, false, false, false, false, false, false, false, false, false, false, false, false, false, false, false, false, false, false, false, false, false, false, false, false, false, false, false, false, false, false, false, false, false, false, false, false, false, false] rfl rfl (any_of HT_.out (by kernel_rfl)) (fun _ _ _ h => h) (Or.inl ⟨by rfl, ?_⟩) ?_ ?_
           rotate_left
           ·intro w'
            go_simp
            with_reducible rfl
           rotate_left
           ·simp only [Act.put, List.setIfInBounds_toArray, List.set_cons_zero, List.set_cons_succ, i64_w, i32_w]
            rfl
           refine take_ (i := 2) (N := some 55) (v := ?_) (a' := ?_) #[true, true, true, false, false, false, false, false, false, false, false, false, false, false, false, false, false, false, false, false, false, false, false, false, false, false, false, false, false, false, false, false, false, false, false, false, false, false, false, false, false] rfl rfl (take_ofW HT_.out HW_.out (by kernel_rfl)) (fun _ _ _ h => h) (Or.inl ⟨by rfl, ?_⟩) hHeld ?_ ?_
           rotate_left
           ·rintro w' ⟨s0, s1, s2, s3⟩
            go_simp
            with_reducible rfl
           rotate_left
           ·simp only [Act.put, List.setIfInBounds_toArray, List.set_cons_zero, List.set_cons_succ, i64_w, i32_w]
            rfl
           refine pure_ (i := 3) (N := some 56) (v := ?_) (a' := ?_) #[true, true, true, true, false, false, false, false, false, false, false, false, false, false, false, false, false, false, false, false, false, false, false, false, false, false, false, false, false, false, false, false, false, false, false, false, false, false, false, false, false] rfl rfl (any_of HT_.out (by kernel_rfl)) (fun _ _ _ h => h) (Or.inl ⟨by rfl, ?_⟩) ?_ ?_
           rotate_left
           ·intro w'
            go_simp
            with_reducible rfl
           rotate_left
           ·simp only [Act.put, List.setIfInBounds_toArray, List.set_cons_zero, List.set_cons_succ, i64_w, i32_w]
            rfl
           refine pure_ (i := 4) (N := some 57) (v := ?_) (a' := ?_) #[true, true, true, true, true, false, false, false, false, false, false, false, false, false, false, false, false, false, false, false, false, false, false, false, false, false, false, false, false, false, false, false, false, false, false, false, false, false, false, false, false] rfl rfl (any_of HT_.out (by kernel_rfl)) (fun _ _ _ h => h) (Or.inl ⟨by rfl, ?_⟩) ?_ ?_
           rotate_left
           ·intro w'
            go_simp
            with_reducible rfl
           rotate_left
           ·simp only [Act.put, List.setIfInBounds_toArray, List.set_cons_zero, List.set_cons_succ, i64_w, i32_w]
            rfl
           refine pure_ (i := 5) (N := some 58) (v := ?_) (a' := ?_) #[true, true, true, true, true, true, false, false, false, false, false, false, false, false, false, false, false, false, false, false, false, false, false, false, false, false, false, false, false, false, false, false, false, false, false, false, false, false, false, false, false] rfl rfl (any_of HT_.out (by kernel_rfl)) (fun _ _ _ h => h) (Or.inl ⟨by rfl, ?_⟩) ?_ ?_
           rotate_left
           ·intro w'
            go_simp
            with_reducible rfl
           rotate_left
           ·simp only [Act.put, List.setIfInBounds_toArray, List.set_cons_zero, List.set_cons_succ, i64_w, i32_w]
            rfl
           refine pure_ (i := 6) (N := some 59) (v := undef) (a' := ?_) #[true, true, true, true, true, true, true, false, false, false, false, false, false, false, false, false, false, false, false, false, false, false, false, false, false, false, false, false, false, false, false, false, false, false, false, false, false, false, false, false, false] rfl rfl (any_of HT_.out (by kernel_rfl)) (fun _ _ _ h => h) (Or.inr ⟨by rfl, rfl⟩) ?_ ?_
           rotate_left
           ·simp only [Act.put, List.setIfInBounds_toArray, List.set_cons_zero, List.set_cons_succ, i64_w, i32_w]
            rfl
           refine pure_ (i := 7) (N := some 60) (v := undef) (a' := ?_) #[true, true, true, true, true, true, true, true, false, false, false, false, false, false, false, false, false, false, false, false, false, false, false, false, false, false, false, false, false, false, false, false, false, false, false, false, false, false, false, false, false] rfl rfl (any_of HT_.out (by kernel_rfl)) (fun _ _ _ h => h) (Or.inr ⟨by rfl, rfl⟩) ?_ ?_
           rotate_left
           ·simp only [Act.put, List.setIfInBounds_toArray, List.set_cons_zero, List.set_cons_succ, i64_w, i32_w]
            rfl
           refine pure_ (i := 8) (N := some 61) (v := undef) (a' := ?_) #[true, true, true, true, true, true, true, true, true, false, false, false, false, false, false, false, false, false, false, false, false, false, false, false, false, false, false, false, false, false, false, false, false, false, false, false, false, false, false, false, false] rfl rfl (any_of HT_.out (by kernel_rfl)) (fun _ _ _ h => h) (Or.inr ⟨by rfl, rfl⟩) ?_ ?_
           rotate_left
           ·simp only [Act.put, List.setIfInBounds_toArray, List.set_cons_zero, List.set_cons_succ, i64_w, i32_w]
            rfl
           refine pure_ (i := 9) (N := some 62) (v := undef) (a' := ?_) #[true, true, true, true, true, true, true, true, true, true, false, false, false, false, false, false, false, false, false, false, false, false, false, false, false, false, false, false, false, false, false, false, false, false, false, false, false, false, false, false, false] rfl rfl (any_of HT_.out (by kernel_rfl)) (fun _ _ _ h => h) (Or.inr ⟨by rfl, rfl⟩) ?_ ?_
           rotate_left
           ·simp only [Act.put, List.setIfInBounds_toArray, List.set_cons_zero, List.set_cons_succ, i64_w, i32_w]
            rfl
           refine pure_ (i := 10) (N := some 63) (v := undef) (a' := ?_) #[true, true, true, true, true, true, true, true, true, true, true, false, false, false, false, false, false, false, false, false, false, false, false, false, false, false, false, false, false, false, false, false, false, false, false, false, false, false, false, false, false] rfl rfl (any_of HT_.out (by kernel_rfl)) (fun _ _ _ h => h) (Or.inr ⟨by rfl, rfl⟩) ?_ ?_
           rotate_left
           ·simp only [Act.put, List.setIfInBounds_toArray, List.set_cons_zero, List.set_cons_succ, i64_w, i32_w]
            rfl
           refine pure_ (i := 11) (N := some 64) (v := undef) (a' := ?_) #[true, true, true, true, true, true, true, true, true, true, true, true, false, false, false, false, false, false, false, false, false, false, false, false, false, false, false, false, false, false, false, false, false, false, false, false, false, false, false, false, false] rfl rfl (any_of HT_.out (by kernel_rfl)) (fun _ _ _ h => h) (Or.inr ⟨by rfl, rfl⟩) ?_ ?_
           rotate_left
           ·simp only [Act.put, List.setIfInBounds_toArray, List.set_cons_zero, List.set_cons_succ, i64_w, i32_w]
            rfl
           refine pure_ (i := 12) (N := some 65) (v := undef) (a' := ?_) #[true, true, true, true, true, true, true, true, true, true, true, true, true, false, false, false, false, false, false, false, false, false, false, false, false, false, false, false, false, false, false, false, false, false, false, false, false, false, false, false, false] rfl rfl (any_of HT_.out (by kernel_rfl)) (fun _ _ _ h => h) (Or.inr ⟨by rfl, rfl⟩) ?_ ?_
           rotate_left
           ·simp only [Act.put, List.setIfInBounds_toArray, List.set_cons_zero, List.set_cons_succ, i64_w, i32_w]
            rfl
           refine pure_ (i := 13) (N := some 66) (v := undef) (a' := ?_) #[true, true, true, true, true, true, true, true, true, true, true, true, true, true, false, false, false, false, false, false, false, false, false, false, false, false, false, false, false, false, false, false, false, false, false, false, false, false, false, false, false] rfl rfl (any_of HT_.out (by kernel_rfl)) (fun _ _ _ h => h) (Or.inr ⟨by rfl, rfl⟩) ?_ ?_
           rotate_left
           ·simp only [Act.put, List.setIfInBounds_toArray, List.set_cons_zero, List.set_cons_succ, i64_w, i32_w]
            rfl
           refine pure_ (i := 14) (N := some 67) (v := undef) (a' := ?_) #[true, true, true, true, true, true, true, true, true, true, true, true, true, true, true, false, false, false, false, false, false, false, false, false, false, false, false, false, false, false, false, false, false, false, false, false, false, false, false, false, false] rfl rfl (any_of HT_.out (by kernel_rfl)) (fun _ _ _ h => h) (Or.inr ⟨by rfl, rfl⟩) ?_ ?_
           rotate_left
           ·simp only [Act.put, List.setIfInBounds_toArray, List.set_cons_zero, List.set_cons_succ, i64_w, i32_w]
            rfl
           refine pure_ (i := 15) (N := some 68) (v := undef) (a' := ?_) #[true, true, true, true, true, true, true, true, true, true, true, true, true, true, true, true, false, false, false, false, false, false, false, false, false, false, false, false, false, false, false, false, false, false, false, false, false, false, false, false, false] rfl rfl (any_of HT_.out (by kernel_rfl)) (fun _ _ _ h => h) (Or.inr ⟨by rfl, rfl⟩) ?_ ?_
           rotate_left
           ·simp only [Act.put, List.setIfInBounds_toArray, List.set_cons_zero, List.set_cons_succ, i64_w, i32_w]
            rfl
           refine pure_ (i := 16) (N := some 69) (v := undef) (a' := ?_) #[true, true, true, true, true, true, true, true, true, true, true, true, true, true, true, true, true, false, false, false, false, false, false, false, false, false, false, false, false, false, false, false, false, false, false, false, false, false, false, false, false] rfl rfl (any_of HT_.out (by kernel_rfl)) (fun _ _ _ h => h) (Or.inr ⟨by rfl, rfl⟩) ?_ ?_
           rotate_left
           ·simp only [Act.put, List.setIfInBounds_toArray, List.set_cons_zero, List.set_cons_succ, i64_w, i32_w]
            rfl
           refine pure_ (i := 17) (N := some 70) (v := undef) (a' := ?_) #[true, true, true, true, true, true, true, true, true, true, true, true, true, true, true, true, true, true, false, false, false, false, false, false, false, false, false, false, false, false, false, false, false, false, false, false, false, false, false, false, false] rfl rfl (any_of HT_.out (by kernel_rfl)) (fun _ _ _ h => h) (Or.inr ⟨by rfl, rfl⟩) ?_ ?_
           rotate_left
           ·simp only [Act.put, List.setIfInBounds_toArray, List.set_cons_zero, List.set_cons_succ, i64_w, i32_w]
            rfl
           refine pure_ (i := 18) (N := some 71) (v := ?_) (a' := ?_) #[true, true, true, true, true, true, true, true, true, true, true, true, true, true, true, true, true, true, true, false, false, false, false, false, false, false, false, false, false, false, false, false, false, false, false, false, false, false, false, false, false] rfl rfl (any_of HT_.out (by kernel_rfl)) (fun _ _ _ h => h) (Or.inl ⟨by rfl, ?_⟩) ?_ ?_
           rotate_left
           ·intro w'
            go_simp
            with_reducible rfl
           rotate_left
           ·simp only [Act.put, List.setIfInBounds_toArray, List.set_cons_zero, List.set_cons_succ, i64_w, i32_w]
            rfl
           refine pure_ (i := 19) (N := some 72) (v := ?_) (a' := ?_) #[true, true, true, true, true, true, true, true, true, true, true, true, true, true, true, true, true, true, true, true, false, false, false, false, false, false, false, false, false, false, false, false, false, false, false, false, false, false, false, false, false] rfl rfl (any_of HT_.out (by kernel_rfl)) (fun _ _ _ h => h) (Or.inl ⟨by rfl, ?_⟩) ?_ ?_
           rotate_left
           ·intro w'
            go_simp
            with_reducible rfl
           rotate_left
           ·simp only [Act.put, List.setIfInBounds_toArray, List.set_cons_zero, List.set_cons_succ, i64_w, i32_w]
            rfl
           refine pure_ (i := 20) (N := some 73) (v := ?_) (a' := ?_) #[true, true, true, true, true, true, true, true, true, true, true, true, true, true, true, true, true, true, true, true, true, false, false, false, false, false, false, false, false, false, false, false, false, false, false, false, false, false, false, false, false] rfl rfl (any_of HT_.out (by kernel_rfl)) (fun _ _ _ h => h) (Or.inl ⟨by rfl, ?_⟩) ?_ ?_
           rotate_left
           ·intro w'
            go_simp
            with_reducible rfl
           rotate_left
           ·simp only [Act.put, List.setIfInBounds_toArray, List.set_cons_zero, List.set_cons_succ, i64_w, i32_w]
            rfl
           refine pure_ (i := 21) (N := some 74) (v := ?_) (a' := ?_) #[true, true, true, true, true, true, true, true, true, true, true, true, true, true, true, true, true, true, true, true, true, true, false, false, false, false, false, false, false, false, false, false, false, false, false, false, false, false, false, false, false] rfl rfl (any_of HT_.out (by kernel_rfl)) (fun _ _ _ h => h) (Or.inl ⟨by rfl, ?_⟩) ?_ ?_
           rotate_left
           ·intro w'
            go_simp
            with_reducible rfl
           rotate_left
           ·simp only [Act.put, List.setIfInBounds_toArray, List.set_cons_zero, List.set_cons_succ, i64_w, i32_w]
            rfl
           refine take_ (i := 22) (N := some 75) (v := ?_) (a' := ?_) #[true, true, true, true, true, true, true, true, true, true, true, true, true, true, true, true, true, true, true, true, true, true, true, false, false, false, false, false, false, false, false, false, false, false, false, false, false, false, false, false, false] rfl rfl (take_ofW HT_.out HW_.out (by kernel_rfl)) (fun _ _ _ h => h) (Or.inl ⟨by rfl, ?_⟩) hHeld ?_ ?_
           rotate_left
           ·rintro w' ⟨s0, s1, s2, s3⟩
            go_simp
            with_reducible rfl
           rotate_left
           ·simp only [Act.put, List.setIfInBounds_toArray, List.set_cons_zero, List.set_cons_succ, i64_w, i32_w]
            rfl
           refine pure_ (i := 23) (N := some 76) (v := ?_) (a' := ?_) #[true, true, true, true, true, true, true, true, true, true, true, true, true, true, true, true, true, true, true, true, true, true, true, true, false, false, false, false, false, false, false, false, false, false, false, false, false, false, false, false, false] rfl rfl (any_of HT_.out (by kernel_rfl)) (fun _ _ _ h => h) (Or.inl ⟨by rfl, ?_⟩) ?_ ?_
           rotate_left
           ·intro w'
            go_simp
            with_reducible rfl
           rotate_left
           ·simp only [Act.put, List.setIfInBounds_toArray, List.set_cons_zero, List.set_cons_succ, i64_w, i32_w]
            rfl
           refine pure_ (i := 24) (N := some 77) (v := ?_) (a' := ?_) #[true, true, true, true, true, true, true, true, true, true, true, true, true, true, true, true, true, true, true, true, true, true, true, true, true, false, false, false, false, false, false, false, false, false, false, false, false, false, false, false, false] rfl rfl (any_of HT_.out (by kernel_rfl)) (fun _ _ _ h => h) (Or.inl ⟨by rfl, ?_⟩) ?_ ?_
           rotate_left
           ·intro w'
            go_simp
            with_reducible rfl
           rotate_left
           ·simp only [Act.put, List.setIfInBounds_toArray, List.set_cons_zero, List.set_cons_succ, i64_w, i32_w]
            rfl
           refine pure_ (i := 25) (N := some 78) (v := undef) (a' := ?_) #[true, true, true, true, true, true, true, true, true, true, true, true, true, true, true, true, true, true, true, true, true, true, true, true, true, true, false, false, false, false, false, false, false, false, false, false, false, false, false, false, false] rfl rfl (any_of HT_.out (by kernel_rfl)) (fun _ _ _ h => h) (Or.inr ⟨by rfl, rfl⟩) ?_ ?_
           rotate_left
           ·simp only [Act.put, List.setIfInBounds_toArray, List.set_cons_zero, List.set_cons_succ, i64_w, i32_w]
            rfl
           refine pure_ (i := 26) (N := some 79) (v := undef) (a' := ?_) #[true, true, true, true, true, true, true, true, true, true, true, true, true, true, true, true, true, true, true, true, true, true, true, true, true, true, true, false, false, false, false, false, false, false, false, false, false, false, false, false, false] rfl rfl (any_of HT_.out (by kernel_rfl)) (fun _ _ _ h => h) (Or.inr ⟨by rfl, rfl⟩) ?_ ?_
           rotate_left
           ·simp only [Act.put, List.setIfInBounds_toArray, List.set_cons_zero, List.set_cons_succ, i64_w, i32_w]
            rfl
           refine pure_ (i := 27) (N := some 80) (v := undef) (a' := ?_) #[true, true, true, true, true, true, true, true, true, true, true, true, true, true, true, true, true, true, true, true, true, true, true, true, true, true, true, true, false, false, false, false, false, false, false, false, false, false, false, false, false] rfl rfl (any_of HT_.out (by kernel_rfl)) (fun _ _ _ h => h) (Or.inr ⟨by rfl, rfl⟩) ?_ ?_
           rotate_left
           ·simp only [Act.put, List.setIfInBounds_toArray, List.set_cons_zero, List.set_cons_succ, i64_w, i32_w]
            rfl
           refine pure_ (i := 28) (N := some 81) (v := undef) (a' := ?_) #[true, true, true, true, true, true, true, true, true, true, true, true, true, true, true, true, true, true, true, true, true, true, true, true, true, true, true, true, true, false, false, false, false, false, false, false, false, false, false, false, false] rfl rfl (any_of HT_.out (by kernel_rfl)) (fun _ _ _ h => h) (Or.inr ⟨by rfl, rfl⟩) ?_ ?_
           rotate_left
           ·simp only [Act.put, List.setIfInBounds_toArray, List.set_cons_zero, List.set_cons_succ, i64_w, i32_w]
            rfl
           refine pure_ (i := 29) (N := some 82) (v := undef) (a' := ?_) #[true, true, true, true, true, true, true, true, true, true, true, true, true, true, true, true, true, true, true, true, true, true, true, true, true, true, true, true, true, true, false, false, false, false, false, false, false, false, false, false, false] rfl rfl (any_of HT_.out (by kernel_rfl)) (fun _ _ _ h => h) (Or.inr ⟨by rfl, rfl⟩) ?_ ?_
           rotate_left
           ·simp only [Act.put, List.setIfInBounds_toArray, List.set_cons_zero, List.set_cons_succ, i64_w, i32_w]
            rfl
           refine pure_ (i := 30) (N := some 83) (v := undef) (a' := ?_) #[true, true, true, true, true, true, true, true, true, true, true, true, true, true, true, true, true, true, true, true, true, true, true, true, true, true, true, true, true, true, true, false, false, false, false, false, false, false, false, false, false] rfl rfl (any_of HT_.out (by kernel_rfl)) (fun _ _ _ h => h) (Or.inr ⟨by rfl, rfl⟩) ?_ ?_
           rotate_left
           ·simp only [Act.put, List.setIfInBounds_toArray, List.set_cons_zero, List.set_cons_succ, i64_w, i32_w]
            rfl
           refine pure_ (i := 31) (N := some 84) (v := undef) (a' := ?_) #[true, true, true, true, true, true, true, true, true, true, true, true, true, true, true, true, true, true, true, true, true, true, true, true, true, true, true, true, true, true, true, true, false, false, false, false, false, false, false, false, false] rfl rfl (any_of HT_.out (by kernel_rfl)) (fun _ _ _ h => h) (Or.inr ⟨by rfl, rfl⟩) ?_ ?_
           rotate_left
           ·simp only [Act.put, List.setIfInBounds_toArray, List.set_cons_zero, List.set_cons_succ, i64_w, i32_w]
            rfl
           refine pure_ (i := 32) (N := some 85) (v := undef) (a' := ?_) #[true, true, true, true, true, true, true, true, true, true, true, true, true, true, true, true, true, true, true, true, true, true, true, true, true, true, true, true, true, true, true, true, true, false, false, false, false, false, false, false, false] rfl rfl (any_of HT_.out (by kernel_rfl)) (fun _ _ _ h => h) (Or.inr ⟨by rfl, rfl⟩) ?_ ?_
           rotate_left
           ·simp only [Act.put, List.setIfInBounds_toArray, List.set_cons_zero, List.set_cons_succ, i64_w, i32_w]
            rfl
           refine pure_ (i := 33) (N := some 86) (v := undef) (a' := ?_) #[true, true, true, true, true, true, true, true, true, true, true, true, true, true, true, true, true, true, true, true, true, true, true, true, true, true, true, true, true, true, true, true, true, true, false, false, false, false, false, false, false] rfl rfl (any_of HT_.out (by kernel_rfl)) (fun _ _ _ h => h) (Or.inr ⟨by rfl, rfl⟩) ?_ ?_
           rotate_left
           ·simp only [Act.put, List.setIfInBounds_toArray, List.set_cons_zero, List.set_cons_succ, i64_w, i32_w]
            rfl
           refine pure_ (i := 34) (N := some 87) (v := undef) (a' := ?_) #[true, true, true, true, true, true, true, true, true, true, true, true, true, true, true, true, true, true, true, true, true, true, true, true, true, true, true, true, true, true, true, true, true, true, true, false, false, false, false, false, false] rfl rfl (any_of HT_.out (by kernel_rfl)) (fun _ _ _ h => h) (Or.inr ⟨by rfl, rfl⟩) ?_ ?_
           rotate_left
           ·simp only [Act.put, List.setIfInBounds_toArray, List.set_cons_zero, List.set_cons_succ, i64_w, i32_w]
            rfl
           refine pure_ (i := 35) (N := some 88) (v := undef) (a' := ?_) #[true, true, true, true, true, true, true, true, true, true, true, true, true, true, true, true, true, true, true, true, true, true, true, true, true, true, true, true, true, true, true, true, true, true, true, true, false, false, false, false, false] rfl rfl (any_of HT_.out (by kernel_rfl)) (fun _ _ _ h => h) (Or.inr ⟨by rfl, rfl⟩) ?_ ?_
           rotate_left
           ·simp only [Act.put, List.setIfInBounds_toArray, List.set_cons_zero, List.set_cons_succ, i64_w, i32_w]
            rfl
           refine pure_ (i := 36) (N := some 89) (v := undef) (a' := ?_) #[true, true, true, true, true, true, true, true, true, true, true, true, true, true, true, true, true, true, true, true, true, true, true, true, true, true, true, true, true, true, true, true, true, true, true, true, true, false, false, false, false] rfl rfl (any_of HT_.out (by kernel_rfl)) (fun _ _ _ h => h) (Or.inr ⟨by rfl, rfl⟩) ?_ ?_
           rotate_left
           ·simp only [Act.put, List.setIfInBounds_toArray, List.set_cons_zero, List.set_cons_succ, i64_w, i32_w]
            rfl
           refine pure_ (i := 37) (N := some 90) (v := undef) (a' := ?_) #[true, true, true, true, true, true, true, true, true, true, true, true, true, true, true, true, true, true, true, true, true, true, true, true, true, true, true, true, true, true, true, true, true, true, true, true, true, true, false, false, false] rfl rfl (any_of HT_.out (by kernel_rfl)) (fun _ _ _ h => h) (Or.inr ⟨by rfl, rfl⟩) ?_ ?_
           rotate_left
           ·simp only [Act.put, List.setIfInBounds_toArray, List.set_cons_zero, List.set_cons_succ, i64_w, i32_w]
            rfl
           refine pure_ (i := 38) (N := some 91) (v := undef) (a' := ?_) #[true, true, true, true, true, true, true, true, true, true, true, true, true, true, true, true, true, true, true, true, true, true, true, true, true, true, true, true, true, true, true, true, true, true, true, true, true, true, true, false, false] rfl rfl (any_of HT_.out (by kernel_rfl)) (fun _ _ _ h => h) (Or.inr ⟨by rfl, rfl⟩) ?_ ?_
           rotate_left
           ·simp only [Act.put, List.setIfInBounds_toArray, List.set_cons_zero, List.set_cons_succ, i64_w, i32_w]
            rfl
           refine pure_ (i := 39) (N := some 92) (v := ?_) (a' := ?_) #[true, true, true, true, true, true, true, true, true, true, true, true, true, true, true, true, true, true, true, true, true, true, true, true, true, true, true, true, true, true, true, true, true, true, true, true, true, true, true, true, false] rfl rfl (any_of HT_.out (by kernel_rfl)) (fun _ _ _ h => h) (Or.inl ⟨by rfl, ?_⟩) ?_ ?_
           rotate_left
           ·intro w'
            go_simp
            with_reducible rfl
           rotate_left
           ·simp only [Act.put, List.setIfInBounds_toArray, List.set_cons_zero, List.set_cons_succ, i64_w, i32_w]
            rfl
           refine pure_ (i := 40) (N := some 93) (v := ?_) (a' := ?_) #[true, true, true, true, true, true, true, true, true, true, true, true, true, true, true, true, true, true, true, true, true, true, true, true, true, true, true, true, true, true, true, true, true, true, true, true, true, true, true, true, true] rfl rfl (any_of HT_.out (by kernel_rfl)) (fun _ _ _ h => h) (Or.inl ⟨by rfl, ?_⟩) ?_ ?_
           rotate_left
           ·intro w'
            go_simp
            with_reducible rfl
           rotate_left
           ·simp only [Act.put, List.setIfInBounds_toArray, List.set_cons_zero, List.set_cons_succ, i64_w, i32_w]
            rfl
           refine done_ (done_of HT_.out (by kernel_rfl)) ?_
           try go_wp2
           go_roundg k2
           case measure => have := HJ4.out; have := HK2.out; omega
           case rel => exact ⟨(wrap64 (x7_2 + (rd t287 x8_2))), (wrap64 (x8_2 + 1)), q130_, q130_, (by first | exact H' | ((try (rw [hji30])); (try (rw [hji35])); (try (rw [hji49])); exact H')), ⟨q131_⟩, ⟨q114_⟩, ⟨q115_⟩, ⟨q109_⟩, ⟨q110_⟩, ⟨q31_⟩, ⟨q29_⟩⟩
       ·rw [if_neg c26] at H
        exact absurd H (by simp)
      ·rw [if_neg c25] at H
       have c25b0 : decide (x8_2 < (t287.length : Int)) = false := decide_eq_false c25
       clear c25
       replace H := Option.bind_eq_some_iff.mp H
       obtain ⟨⟨t307, t308, t309, t310, t311⟩, A610, H⟩ := H
       replace H : ((tilefarmgen_Tape_Next.f t281 t311 (wrap64 (t309 - t307))).bind fun bt313 => ((integral_Sum.f k2 t292 t293 t294 t295 t307 t308 t309 t310).bind fun bt315 => (if bt315.2 = 0 then (if 0 ≤ (wrap64 ((t295.length : Int) - 1)) then (if (wrap64 ((t295.length : Int) - 1)) < (t295.length : Int) then (tilefarmlaw13_IntegralMonotone.j2 k2 (wrap64 (t307 + bt313.1)) bt315.1 ((rd t295 (wrap64 ((t295.length : Int) - 1))) != x7_2) t292 t293 t294 t295 t307 t308 t309 t310) else (none)) else (none)) else (tilefarmlaw13_IntegralMonotone.j2 k2 (wrap64 (t307 + bt313.1)) bt315.1 true t292 t293 t294 t295 t307 t308 t309 t310)))) = some r := H
       have A61 := am_ A610
       clear A610
       replace H := Option.bind_eq_some_iff.mp H
       obtain ⟨⟨t313, t314⟩, A620, H⟩ := H
       replace H : ((integral_Sum.f k2 t292 t293 t294 t295 t307 t308 t309 t310).bind fun bt315 => (if bt315.2 = 0 then (if 0 ≤ (wrap64 ((t295.length : Int) - 1)) then (if (wrap64 ((t295.length : Int) - 1)) < (t295.length : Int) then (tilefarmlaw13_IntegralMonotone.j2 k2 (wrap64 (t307 + t313)) bt315.1 ((rd t295 (wrap64 ((t295.length : Int) - 1))) != x7_2) t292 t293 t294 t295 t307 t308 t309 t310) else (none)) else (none)) else (tilefarmlaw13_IntegralMonotone.j2 k2 (wrap64 (t307 + t313)) bt315.1 true t292 t293 t294 t295 t307 t308 t309 t310))) = some r := H
       have A62 := am_ A620
       clear A620
       replace H := Option.bind_eq_some_iff.mp H
       obtain ⟨⟨t315, t316⟩, A630, H⟩ := H
       replace H : (if t316 = 0 then (if 0 ≤ (wrap64 ((t295.length : Int) - 1)) then (if (wrap64 ((t295.length : Int) - 1)) < (t295.length : Int) then (tilefarmlaw13_IntegralMonotone.j2 k2 (wrap64 (t307 + t313)) t315 ((rd t295 (wrap64 ((t295.length : Int) - 1))) != x7_2) t292 t293 t294 t295 t307 t308 t309 t310) else (none)) else (none)) else (tilefarmlaw13_IntegralMonotone.j2 k2 (wrap64 (t307 + t313)) t315 true t292 t293 t294 t295 t307 t308 t309 t310)) = some r := H
       have A63 := am_ A630
       clear A630
       have HC64 := am_ H
       clear H
       have hnb65 := NB291_299.out
       have hnc65 := NB299_291.out
       have hnb66 := NB291_283.out
       have hnc66 := NB283_291.out
       have hcz67_0 : wr.cell? ⟨gb291, 0, none⟩ = some (.int .i64 t284) := (blk_cell BK291.out 0).trans rfl
       have hcz67_1 : wr.cell? ⟨gb291, 1, none⟩ = some (.int .i64 t285) := (blk_cell BK291.out 1).trans rfl
       have hcz67_2 : wr.cell? ⟨gb291, 2, none⟩ = some (.int .i64 t286) := (blk_cell BK291.out 2).trans rfl
       have hcz67_3 : wr.cell? ⟨gb291, 3, none⟩ = some (.slice Ao11 t287.length co11) := (blk_cell BK291.out 3).trans rfl
       have hfz67_0 := blk_frozen BK291.out 0
       have hfz67_1 := blk_frozen BK291.out 1
       have hfz67_2 := blk_frozen BK291.out 2
       have hfz67_3 := blk_frozen BK291.out 3
       try go_wp2_with (first | ((with_reducible refine gate_callee (f := 11) rfl ?_); refine goesL_ (some 99) rfl rfl Try.func11 (by kernel_rfl) rfl #[.pointer (some ⟨g283, 0, none⟩), .int .i64 t284, .int .i64 t285] rfl q80_ ?_; (with_reducible refine (tilefarmgen_Tape_Within.calls g283 t281 t290 t284 t285 t307 t308 t309 t310 t311 w _ ?side1 ?side2 A61.out).mono ?_); (case side1 => repeat (first | (with_reducible first | exact HI283.out | apply IsS56.alloc | apply IsS56.drewN | apply IsS56.drew | apply IsS56.set_1 | refine IsS56.far ?_ NB283_291.out _ | refine IsS56.far ?_ NB283_299.out _) | exact HI283.out)); (case side2 => repeat (first | (with_reducible first | exact HB.out | apply below_alloc | apply pw_below_drewN | apply below_drew1 | refine below_set ?_ (IsS56.ge HI283.out) | refine below_set ?_ GE291.out | refine below_set ?_ GE299.out) | exact HB.out)); rintro e w68 ⟨rfl, hi, hb, hk⟩; refine ⟨_, rfl, ?_⟩; have n0_ := am_ (Kd.R_mono (Kd.R_keep (IsS56.apart (show IsS56 w _ g283 t281 t290 from by repeat (first | (with_reducible first | exact HI283.out | apply IsS56.alloc | apply IsS56.drewN | apply IsS56.drew | apply IsS56.set_1 | refine IsS56.far ?_ NB283_291.out _ | refine IsS56.far ?_ NB283_299.out _) | exact HI283.out)) q114_ (by decide)) hk (fun _ h => h.2)) (fun _ h => h.1)); have n1_ := am_ (Kd.R_mono (Kd.R_keep (IsS56.apart (show IsS56 w _ g283 t281 t290 from by repeat (first | (with_reducible first | exact HI283.out | apply IsS56.alloc | apply IsS56.drewN | apply IsS56.drew | apply IsS56.set_1 | refine IsS56.far ?_ NB283_291.out _ | refine IsS56.far ?_ NB283_299.out _) | exact HI283.out)) q115_ (by decide)) hk (fun _ h => h.2)) (fun _ h => h.1)); have n2_ := am_ (KeepBut.blk hk (g' := gb291) (o := .cells #[.int .i64 t284, .int .i64 t285, .int .i64 t286, .slice Ao11 t287.length co11] 26 (0, 0)) q109_ NB291_283.out (by simp)); have n3_ := am_ (KeepBut.blk hk (g' := gb299) (o := .cells #[.int .i64 t292, .int .i64 t293, .int .i64 t294, .slice Ao17 t295.length co17] 26 (0, 0)) q110_ NB299_283.out (by simp)); have n4_ := am_ (hb); have n5_ := am_ (hi); clear HO_292003; clear HO_300003; clear BK291; clear BK299; clear HB; clear HI283; have HO_292003 := n0_; have HO_300003 := n1_; have BK291 := n2_; have BK299 := n3_; have HB := n4_; have HI283 := n5_; clear n0_ n1_ n2_ n3_ n4_ n5_) | ((with_reducible refine gate_dst (N := 9) rfl ?_); (try (refine gate_guard (by rfl) ?_; dsimp only)); refine box_event ?hg (N := 9) ?hd (cs := #[.int .i64 0, .int .i64 0, .int .i64 0, .int .i64 0]) (t := 32) ?hr ?_; (case hd => rfl); (case hg => rfl); (case hr => first | (go_simp; done) | (go_simp; rfl)); intro gb312 hg w69 hbox hb; have n0_ := am_ (Kd.R_below q114_ hb); have n1_ := am_ (Kd.R_below q115_ hb); have n2_ := am_ (blk_below (g := gb291) (o := .cells #[.int .i64 t284, .int .i64 t285, .int .i64 t286, .slice Ao11 t287.length co11] 26 (0, 0)) q109_ hb); have n3_ := am_ (blk_below (g := gb299) (o := .cells #[.int .i64 t292, .int .i64 t293, .int .i64 t294, .slice Ao17 t295.length co17] 26 (0, 0)) q110_ hb); have n4_ := am_ (IsS56.below q31_ hb); have n5_ := am_ (below_step q29_ hb); have n6_ := am_ (hbox); have n7_ := am_ ((by rw [hg]; exact (below_size q29_) : w.heap.size ≤ gb312)); have n8_ := am_ ((by rw [hg]; exact (below_size q29_) : w.heap.size ≤ gb312)); have n9_ := am_ ((by rw [hg]; exact Nat.ne_of_lt (blk_lt (g := gb291) (o := .cells #[.int .i64 t284, .int .i64 t285, .int .i64 t286, .slice Ao11 t287.length co11] 26 (0, 0)) q109_) : gb291 ≠ gb312)); have n10_ := am_ ((by rw [hg]; exact Nat.ne_of_gt (blk_lt (g := gb291) (o := .cells #[.int .i64 t284, .int .i64 t285, .int .i64 t286, .slice Ao11 t287.length co11] 26 (0, 0)) q109_) : gb312 ≠ gb291)); have n11_ := am_ ((by rw [hg]; exact Nat.ne_of_lt (blk_lt (g := gb299) (o := .cells #[.int .i64 t292, .int .i64 t293, .int .i64 t294, .slice Ao17 t295.length co17] 26 (0, 0)) q110_) : gb299 ≠ gb312)); have n12_ := am_ ((by rw [hg]; exact Nat.ne_of_gt (blk_lt (g := gb299) (o := .cells #[.int .i64 t292, .int .i64 t293, .int .i64 t294, .slice Ao17 t295.length co17] 26 (0, 0)) q110_) : gb312 ≠ gb299)); have n13_ := am_ ((by rw [hg]; exact Nat.ne_of_lt (IsS56.lt (show IsS56 w _ g283 t281 t311 from by repeat (first | (with_reducible first | exact HI283.out | apply IsS56.alloc | apply IsS56.drewN | apply IsS56.drew | apply IsS56.set_1 | refine IsS56.far ?_ NB283_291.out _ | refine IsS56.far ?_ NB283_299.out _) | exact HI283.out))) : g283 ≠ gb312)); have n14_ := am_ ((by rw [hg]; exact Nat.ne_of_gt (IsS56.lt (show IsS56 w _ g283 t281 t311 from by repeat (first | (with_reducible first | exact HI283.out | apply IsS56.alloc | apply IsS56.drewN | apply IsS56.drew | apply IsS56.set_1 | refine IsS56.far ?_ NB283_291.out _ | refine IsS56.far ?_ NB283_299.out _) | exact HI283.out))) : gb312 ≠ g283)); clear HO_292003; clear HO_300003; clear BK291; clear BK299; clear HI283; clear HB; have HO_292003 := n0_; have HO_300003 := n1_; have BK291 := n2_; have BK299 := n3_; have HI283 := n4_; have HB := n5_; have BK312 := n6_; have GW312 := n7_; have GE312 := n8_; have NB291_312 := n9_; have NB312_291 := n10_; have NB299_312 := n11_; have NB312_299 := n12_; have NB283_312 := n13_; have NB312_283 := n14_; clear n0_ n1_ n2_ n3_ n4_ n5_ n6_ n7_ n8_ n9_ n10_ n11_ n12_ n13_ n14_; clear hb hbox hg; have hnb70 := NB312_291.out; have hnc70 := NB291_312.out; have hnb71 := NB312_299.out; have hnc71 := NB299_312.out; have hnb72 := NB312_283.out; have hnc72 := NB283_312.out; have hcz73_0 : w69.cell? ⟨gb312, 0, none⟩ = some (.int .i64 0) := (blk_cell BK312.out 0).trans rfl; have hcz73_1 : w69.cell? ⟨gb312, 1, none⟩ = some (.int .i64 0) := (blk_cell BK312.out 1).trans rfl; have hcz73_2 : w69.cell? ⟨gb312, 2, none⟩ = some (.int .i64 0) := (blk_cell BK312.out 2).trans rfl; have hcz73_3 : w69.cell? ⟨gb312, 3, none⟩ = some (.int .i64 0) := (blk_cell BK312.out 3).trans rfl; have hfz73_0 := blk_frozen BK312.out 0; have hfz73_1 := blk_frozen BK312.out 1; have hfz73_2 := blk_frozen BK312.out 2; have hfz73_3 := blk_frozen BK312.out 3))
       have n0_ : Aside0 (Kd.R (Kd.int .i64) 3 ((((w69.setCell ⟨gb312, 0, none⟩ (.int .i64 t307)).setCell ⟨gb312, 1, none⟩ (.int .i64 t308)).setCell ⟨gb312, 2, none⟩ (.int .i64 t309)).setCell ⟨gb312, 3, none⟩ (.int .i64 t310)) w.heap.size (fun k_ => some k_ ≠ (.slice Ao17 t295.length co17 : Value).ownBlock) (.slice Ao11 t287.length co11) t287) := ⟨by (with_reducible repeat (first | apply Kd.R_alloc | apply Kd.R_drewN | apply Kd.R_drew)); exact Kd.R_mono (Kd.R_far (p := ⟨gb312, 3, none⟩) (Kd.R_far (p := ⟨gb312, 2, none⟩) (Kd.R_far (p := ⟨gb312, 1, none⟩) (Kd.R_far (p := ⟨gb312, 0, none⟩) (Kd.R_types HO_292003.out BK312.out (by decide)) (fun _ hk => hk.2) (.int .i64 t307)) (fun _ hk => hk.2) (.int .i64 t308)) (fun _ hk => hk.2) (.int .i64 t309)) (fun _ hk => hk.2) (.int .i64 t310)) (fun _ hk => hk.1)⟩
       have n1_ : Aside0 (Kd.R (Kd.int .i64) 3 ((((w69.setCell ⟨gb312, 0, none⟩ (.int .i64 t307)).setCell ⟨gb312, 1, none⟩ (.int .i64 t308)).setCell ⟨gb312, 2, none⟩ (.int .i64 t309)).setCell ⟨gb312, 3, none⟩ (.int .i64 t310)) w.heap.size (fun k_ => some k_ ≠ (.slice Ao11 t287.length co11 : Value).ownBlock) (.slice Ao17 t295.length co17) t295) := ⟨by (with_reducible repeat (first | apply Kd.R_alloc | apply Kd.R_drewN | apply Kd.R_drew)); exact Kd.R_mono (Kd.R_far (p := ⟨gb312, 3, none⟩) (Kd.R_far (p := ⟨gb312, 2, none⟩) (Kd.R_far (p := ⟨gb312, 1, none⟩) (Kd.R_far (p := ⟨gb312, 0, none⟩) (Kd.R_types HO_300003.out BK312.out (by decide)) (fun _ hk => hk.2) (.int .i64 t307)) (fun _ hk => hk.2) (.int .i64 t308)) (fun _ hk => hk.2) (.int .i64 t309)) (fun _ hk => hk.2) (.int .i64 t310)) (fun _ hk => hk.1)⟩
       have n2_ : Aside0 (((((w69.setCell ⟨gb312, 0, none⟩ (.int .i64 t307)).setCell ⟨gb312, 1, none⟩ (.int .i64 t308)).setCell ⟨gb312, 2, none⟩ (.int .i64 t309)).setCell ⟨gb312, 3, none⟩ (.int .i64 t310)).heap[gb291]? = some (.cells #[.int .i64 t284, .int .i64 t285, .int .i64 t286, .slice Ao11 t287.length co11] 26 (0, 0))) := ⟨by (with_reducible repeat (first | refine blk_drewN ?_ _ | refine blk_drew ?_ | refine blk_alloc ?_ _)); refine blk_far ?_ NB291_312.out _; (with_reducible repeat (first | refine blk_drewN ?_ _ | refine blk_drew ?_ | refine blk_alloc ?_ _)); refine blk_far ?_ NB291_312.out _; (with_reducible repeat (first | refine blk_drewN ?_ _ | refine blk_drew ?_ | refine blk_alloc ?_ _)); refine blk_far ?_ NB291_312.out _; (with_reducible repeat (first | refine blk_drewN ?_ _ | refine blk_drew ?_ | refine blk_alloc ?_ _)); refine blk_far ?_ NB291_312.out _; (with_reducible repeat (first | refine blk_drewN ?_ _ | refine blk_drew ?_ | refine blk_alloc ?_ _)); exact BK291.out⟩
       have n3_ : Aside0 (((((w69.setCell ⟨gb312, 0, none⟩ (.int .i64 t307)).setCell ⟨gb312, 1, none⟩ (.int .i64 t308)).setCell ⟨gb312, 2, none⟩ (.int .i64 t309)).setCell ⟨gb312, 3, none⟩ (.int .i64 t310)).heap[gb299]? = some (.cells #[.int .i64 t292, .int .i64 t293, .int .i64 t294, .slice Ao17 t295.length co17] 26 (0, 0))) := ⟨by (with_reducible repeat (first | refine blk_drewN ?_ _ | refine blk_drew ?_ | refine blk_alloc ?_ _)); refine blk_far ?_ NB299_312.out _; (with_reducible repeat (first | refine blk_drewN ?_ _ | refine blk_drew ?_ | refine blk_alloc ?_ _)); refine blk_far ?_ NB299_312.out _; (with_reducible repeat (first | refine blk_drewN ?_ _ | refine blk_drew ?_ | refine blk_alloc ?_ _)); refine blk_far ?_ NB299_312.out _; (with_reducible repeat (first | refine blk_drewN ?_ _ | refine blk_drew ?_ | refine blk_alloc ?_ _)); refine blk_far ?_ NB299_312.out _; (with_reducible repeat (first | refine blk_drewN ?_ _ | refine blk_drew ?_ | refine blk_alloc ?_ _)); exact BK299.out⟩
       have n4_ : Aside0 (((((w69.setCell ⟨gb312, 0, none⟩ (.int .i64 t307)).setCell ⟨gb312, 1, none⟩ (.int .i64 t308)).setCell ⟨gb312, 2, none⟩ (.int .i64 t309)).setCell ⟨gb312, 3, none⟩ (.int .i64 t310)).heap[gb312]? = some (.cells #[.int .i64 t307, .int .i64 t308, .int .i64 t309, .int .i64 t310] 32 (0, 0))) := ⟨by (with_reducible repeat (first | refine blk_drewN ?_ _ | refine blk_drew ?_ | refine blk_alloc ?_ _)); refine blk_put (cs := #[.int .i64 t307, .int .i64 t308, .int .i64 t309, .int .i64 0]) ?_ 3 _ rfl; (with_reducible repeat (first | refine blk_drewN ?_ _ | refine blk_drew ?_ | refine blk_alloc ?_ _)); refine blk_put (cs := #[.int .i64 t307, .int .i64 t308, .int .i64 0, .int .i64 0]) ?_ 2 _ rfl; (with_reducible repeat (first | refine blk_drewN ?_ _ | refine blk_drew ?_ | refine blk_alloc ?_ _)); refine blk_put (cs := #[.int .i64 t307, .int .i64 0, .int .i64 0, .int .i64 0]) ?_ 1 _ rfl; (with_reducible repeat (first | refine blk_drewN ?_ _ | refine blk_drew ?_ | refine blk_alloc ?_ _)); refine blk_put (cs := #[.int .i64 0, .int .i64 0, .int .i64 0, .int .i64 0]) ?_ 0 _ rfl; (with_reducible repeat (first | refine blk_drewN ?_ _ | refine blk_drew ?_ | refine blk_alloc ?_ _)); exact BK312.out⟩
       have n5_ : Aside0 (IsS56 w ((((w69.setCell ⟨gb312, 0, none⟩ (.int .i64 t307)).setCell ⟨gb312, 1, none⟩ (.int .i64 t308)).setCell ⟨gb312, 2, none⟩ (.int .i64 t309)).setCell ⟨gb312, 3, none⟩ (.int .i64 t310)) g283 t281 t311) := ⟨by repeat (first | (with_reducible first | exact HI283.out | apply IsS56.alloc | apply IsS56.drewN | apply IsS56.drew | apply IsS56.set_1 | refine IsS56.far ?_ NB283_291.out _ | refine IsS56.far ?_ NB283_299.out _ | refine IsS56.far ?_ NB283_312.out _) | exact HI283.out)⟩
       have n6_ : Aside0 (Below w.heap.size w ((((w69.setCell ⟨gb312, 0, none⟩ (.int .i64 t307)).setCell ⟨gb312, 1, none⟩ (.int .i64 t308)).setCell ⟨gb312, 2, none⟩ (.int .i64 t309)).setCell ⟨gb312, 3, none⟩ (.int .i64 t310))) := ⟨q6_⟩
       (try clear HO_292003)
       (try clear HO_300003)
       (try clear BK291)
       (try clear BK299)
       (try clear BK312)
       (try clear HI283)
       (try clear HB)
       generalize ((((w69.setCell ⟨gb312, 0, none⟩ (.int .i64 t307)).setCell ⟨gb312, 1, none⟩ (.int .i64 t308)).setCell ⟨gb312, 2, none⟩ (.int .i64 t309)).setCell ⟨gb312, 3, none⟩ (.int .i64 t310)) = w74 at n0_ n1_ n2_ n3_ n4_ n5_ n6_ ⊢
       have HO_292003 := n0_
       have HO_300003 := n1_
       have BK291 := n2_
       have BK299 := n3_
       have BK312 := n4_
       have HI283 := n5_
       have HB := n6_
       clear n0_ n1_ n2_ n3_ n4_ n5_ n6_
       have n0_ := am_ (Kd.R_drew HO_292003.out)
       have n1_ := am_ (Kd.R_drew HO_300003.out)
       have n2_ := am_ (blk_drew BK291.out)
       have n3_ := am_ (blk_drew BK299.out)
       have n4_ := am_ (blk_drew BK312.out)
       have n5_ := am_ (IsS56.drew HI283.out)
       have n6_ := am_ (below_drew1 HB.out)
       clear HO_292003
       clear HO_300003
       clear BK291
       clear BK299
       clear BK312
       clear HI283
       clear HB
       have HO_292003 := n0_
       have HO_300003 := n1_
       have BK291 := n2_
       have BK299 := n3_
       have BK312 := n4_
       have HI283 := n5_
       have HB := n6_
       clear n0_ n1_ n2_ n3_ n4_ n5_ n6_
       refine start_ (n := 11) (S := fun w' => w'.cell? ⟨gb312, 0, none⟩ = some (.int .i64 t307) ∧ w'.cell? ⟨gb312, 1, none⟩ = some (.int .i64 t308) ∧ w'.cell? ⟨gb312, 2, none⟩ = some (.int .i64 t309) ∧ w'.cell? ⟨gb312, 3, none⟩ = some (.int .i64 t310)) (ds := []) #[false, false, false, false, false, false, false, false, false, false, false] (by kernel_rfl) rfl rfl ⟨(blk_cell BK312.out 0).trans rfl, (blk_cell BK312.out 1).trans rfl, (blk_cell BK312.out 2).trans rfl, (blk_cell BK312.out 3).trans rfl⟩ (fun hHeld => ?_); refine with_tabW tilefarmlaw13_IntegralMonotone.tab14 tilefarmlaw13_IntegralMonotone.bits14 (fun HT_ HW_ => ?_)
       generalize w74.drew = w75 at HO_292003 HO_300003 BK291 BK299 BK312 HI283 HB hHeld ⊢
       refine pure_ (i := 0) (N := some 100) (v := ?_) (a' := ?_) #[true, false, false, false, false, false, false, false, false, false, false] rfl rfl (any_of HT_.out (by kernel_rfl)) (fun _ _ _ h => h) (Or.inl ⟨by rfl, ?_⟩) ?_ ?_
       rotate_left
       ·intro w'
        go_simp
        with_reducible rfl
       rotate_left
       ·simp only [Act.put, List.setIfInBounds_toArray, List.set_cons_zero, List.set_cons_succ, i64_w, i32_w]
        rfl
       refine pure_ (i := 2) (N := some 102) (v := ?_) (a' := ?_) #[true, false, true, false, false, false, false, false, false, false, false] rfl rfl (any_of HT_.out (by kernel_rfl)) (fun _ _ _ h => h) (Or.inl ⟨by rfl, ?_⟩) ?_ ?_
       rotate_left
       ·intro w'
        go_simp
        with_reducible rfl
       rotate_left
       ·simp only [Act.put, List.setIfInBounds_toArray, List.set_cons_zero, List.set_cons_succ, i64_w, i32_w]
        rfl
       refine pure_ (i := 3) (N := some 103) (v := ?_) (a' := ?_) #[true, false, true, true, false, false, false, false, false, false, false] rfl rfl (any_of HT_.out (by kernel_rfl)) (fun _ _ _ h => h) (Or.inl ⟨by rfl, ?_⟩) ?_ ?_
       rotate_left
       ·intro w'
        go_simp
        with_reducible rfl
       rotate_left
       ·simp only [Act.put, List.setIfInBounds_toArray, List.set_cons_zero, List.set_cons_succ, i64_w, i32_w]
        rfl
       refine pure_ (i := 5) (N := some 105) (v := ?_) (a' := ?_) #[true, false, true, true, false, true, false, false, false, false, false] rfl rfl (any_of HT_.out (by kernel_rfl)) (fun _ _ _ h => h) (Or.inl ⟨by rfl, ?_⟩) ?_ ?_
       rotate_left
       ·intro w'
        go_simp
        with_reducible rfl
       rotate_left
       ·simp only [Act.put, List.setIfInBounds_toArray, List.set_cons_zero, List.set_cons_succ, i64_w, i32_w]
        rfl
       refine take_ (i := 1) (N := some 101) (v := ?_) (a' := ?_) #[true, true, true, true, false, true, false, false, false, false, false] rfl rfl (take_ofW HT_.out HW_.out (by kernel_rfl)) (fun _ _ _ h => h) (Or.inl ⟨by rfl, ?_⟩) hHeld ?_ ?_
       rotate_left
       ·rintro w' ⟨s0, s1, s2, s3⟩
        go_simp
        with_reducible rfl
       rotate_left
       ·simp only [Act.put, List.setIfInBounds_toArray, List.set_cons_zero, List.set_cons_succ, i64_w, i32_w]
        rfl
       refine take_ (i := 4) (N := some 104) (v := ?_) (a' := ?_) #[true, true, true, true, true, true, false, false, false, false, false] rfl rfl (take_ofW HT_.out HW_.out (by kernel_rfl)) (fun _ _ _ h => h) (Or.inl ⟨by rfl, ?_⟩) hHeld ?_ ?_
       rotate_left
       ·rintro w' ⟨s0, s1, s2, s3⟩
        go_simp
        with_reducible rfl
       rotate_left
       ·simp only [Act.put, List.setIfInBounds_toArray, List.set_cons_zero, List.set_cons_succ, i64_w, i32_w]
        rfl
       refine take_ (i := 6) (N := some 106) (v := ?_) (a' := ?_) #[true, true, true, true, true, true, true, false, false, false, false] rfl rfl (take_ofW HT_.out HW_.out (by kernel_rfl)) (fun _ _ _ h => h) (Or.inl ⟨by rfl, ?_⟩) hHeld ?_ ?_
       rotate_left
       ·rintro w' ⟨s0, s1, s2, s3⟩
        go_simp
        with_reducible rfl
       rotate_left
       ·simp only [Act.put, List.setIfInBounds_toArray, List.set_cons_zero, List.set_cons_succ, i64_w, i32_w]
        rfl
       refine pure_ (i := 7) (N := some 107) (v := ?_) (a' := ?_) #[true, true, true, true, true, true, true, true, false, false, false] rfl rfl (any_of HT_.out (by kernel_rfl)) (fun _ _ _ h => h) (Or.inl ⟨by rfl, ?_⟩) ?_ ?_
       rotate_left
       ·intro w'
        go_simp
        with_reducible rfl
       rotate_left
       ·simp only [Act.put, List.setIfInBounds_toArray, List.set_cons_zero, List.set_cons_succ, i64_w, i32_w]
        rfl
       refine one_ (i := 8) (N := some 108) #[true, true, true, true, true, true, true, true, true, false, false] rfl rfl (one_of HT_.out (by kernel_rfl)) (by decide) (fun K hK => ?_)
       refine goes_ Try.func12 (by kernel_rfl) rfl #[.pointer (some ⟨g283, 0, none⟩), .int .i64 (wrap64 (t309 - t307))] (by rfl) rfl rfl q80_ ?_
       with_reducible refine (tilefarmgen_Tape_Next.calls g283 t281 t311 (wrap64 (t309 - t307)) t313 t314 w _ ?side1 ?side2 A62.out).mono ?_
       (case side1 => repeat (first | (with_reducible first | exact HI283.out | apply IsS56.alloc | apply IsS56.drewN | apply IsS56.drew | apply IsS56.set_1 | refine IsS56.far ?_ NB283_291.out _ | refine IsS56.far ?_ NB283_299.out _ | refine IsS56.far ?_ NB283_312.out _) | exact HI283.out))
       (case side2 => repeat (first | (with_reducible first | exact HB.out | apply below_alloc | apply pw_below_drewN | apply below_drew1 | refine below_set ?_ (IsS56.ge HI283.out) | refine below_set ?_ GE291.out | refine below_set ?_ GE299.out | refine below_set ?_ GE312.out) | exact HB.out))
       rintro e w76 ⟨rfl, hi, hb, hk⟩
       refine ⟨_, rfl, ?_⟩
       have n0_ := am_ (Kd.R_mono (Kd.R_keep (IsS56.apart (show IsS56 w _ g283 t281 t311 from by repeat (first | (with_reducible first | exact HI283.out | apply IsS56.alloc | apply IsS56.drewN | apply IsS56.drew | apply IsS56.set_1 | refine IsS56.far ?_ NB283_291.out _ | refine IsS56.far ?_ NB283_299.out _ | refine IsS56.far ?_ NB283_312.out _) | exact HI283.out)) q114_ (by decide)) hk (fun _ h => h.2)) (fun _ h => h.1))
       have n1_ := am_ (Kd.R_mono (Kd.R_keep (IsS56.apart (show IsS56 w _ g283 t281 t311 from by repeat (first | (with_reducible first | exact HI283.out | apply IsS56.alloc | apply IsS56.drewN | apply IsS56.drew | apply IsS56.set_1 | refine IsS56.far ?_ NB283_291.out _ | refine IsS56.far ?_ NB283_299.out _ | refine IsS56.far ?_ NB283_312.out _) | exact HI283.out)) q115_ (by decide)) hk (fun _ h => h.2)) (fun _ h => h.1))
       have n2_ := am_ (KeepBut.blk hk (g' := gb291) (o := .cells #[.int .i64 t284, .int .i64 t285, .int .i64 t286, .slice Ao11 t287.length co11] 26 (0, 0)) q109_ NB291_283.out (by simp))
       have n3_ := am_ (KeepBut.blk hk (g' := gb299) (o := .cells #[.int .i64 t292, .int .i64 t293, .int .i64 t294, .slice Ao17 t295.length co17] 26 (0, 0)) q110_ NB299_283.out (by simp))
       have n4_ := am_ (KeepBut.blk hk (g' := gb312) (o := .cells #[.int .i64 t307, .int .i64 t308, .int .i64 t309, .int .i64 t310] 32 (0, 0)) q111_ NB312_283.out (by simp))
       have n5_ := am_ (hb)
       have n6_ := am_ (hi)
       clear HO_292003
       clear HO_300003
       clear BK291
       clear BK299
       clear BK312
       clear HB
       clear HI283
       have HO_292003 := n0_
       have HO_300003 := n1_
       have BK291 := n2_
       have BK299 := n3_
       have BK312 := n4_
       have HB := n5_
       have HI283 := n6_
       clear n0_ n1_ n2_ n3_ n4_ n5_ n6_
       (try clear hb)
       (try clear hb2)
       (try clear hk)
       (try clear hi)
       refine hK.out _ _ ⟨(blk_cell BK312.out 0).trans rfl, (blk_cell BK312.out 1).trans rfl, (blk_cell BK312.out 2).trans rfl, (blk_cell BK312.out 3).trans rfl⟩ (fun hHeld => ?_)
       clear hK K
       refine norm_ (a' := ?_) ?_ ?_
       rotate_left
       ·show Act.put _ (some 108) _ = _
        simp only [Act.put, List.setIfInBounds_toArray, List.set_cons_zero, List.set_cons_succ, i64_w, i32_w]
        rfl
       refine pure_ (i := 9) (N := some 109) (v := ?_) (a' := ?_) #[true, true, true, true, true, true, true, true, true, true, false] rfl rfl (any_of HT_.out (by kernel_rfl)) (fun _ _ _ h => h) (Or.inl ⟨by rfl, ?_⟩) ?_ ?_
       rotate_left
       ·intro w'
        go_simp
        with_reducible rfl
       rotate_left
       ·simp only [Act.put, List.setIfInBounds_toArray, List.set_cons_zero, List.set_cons_succ, i64_w, i32_w]
        rfl
       refine pure_ (i := 10) (N := some 10) (v := ?_) (a' := ?_) #[true, true, true, true, true, true, true, true, true, true, true] rfl rfl (any_of HT_.out (by kernel_rfl)) (fun _ _ _ h => h) (Or.inl ⟨by rfl, ?_⟩) ?_ ?_
       rotate_left
       ·intro w'
        go_simp
        with_reducible rfl
       rotate_left
       ·simp only [Act.put, List.setIfInBounds_toArray, List.set_cons_zero, List.set_cons_succ, i64_w, i32_w]
        rfl
       refine done_ (done_of HT_.out (by kernel_rfl)) ?_
       have hnb77 := NB299_283.out
       have hnc77 := NB283_299.out
       have hcz78_0 : w76.cell? ⟨gb299, 0, none⟩ = some (.int .i64 t292) := (blk_cell BK299.out 0).trans rfl
       have hcz78_1 : w76.cell? ⟨gb299, 1, none⟩ = some (.int .i64 t293) := (blk_cell BK299.out 1).trans rfl
       have hcz78_2 : w76.cell? ⟨gb299, 2, none⟩ = some (.int .i64 t294) := (blk_cell BK299.out 2).trans rfl
       have hcz78_3 : w76.cell? ⟨gb299, 3, none⟩ = some (.slice Ao17 t295.length co17) := (blk_cell BK299.out 3).trans rfl
       have hfz78_0 := blk_frozen BK299.out 0
       have hfz78_1 := blk_frozen BK299.out 1
       have hfz78_2 := blk_frozen BK299.out 2
       have hfz78_3 := blk_frozen BK299.out 3
       have hcz79_0 : w76.cell? ⟨gb312, 0, none⟩ = some (.int .i64 t307) := (blk_cell BK312.out 0).trans rfl
       have hcz79_1 : w76.cell? ⟨gb312, 1, none⟩ = some (.int .i64 t308) := (blk_cell BK312.out 1).trans rfl
       have hcz79_2 : w76.cell? ⟨gb312, 2, none⟩ = some (.int .i64 t309) := (blk_cell BK312.out 2).trans rfl
       have hcz79_3 : w76.cell? ⟨gb312, 3, none⟩ = some (.int .i64 t310) := (blk_cell BK312.out 3).trans rfl
       have hfz79_0 := blk_frozen BK312.out 0
       have hfz79_1 := blk_frozen BK312.out 1
       have hfz79_2 := blk_frozen BK312.out 2
       have hfz79_3 := blk_frozen BK312.out 3
       go_upto_region 16 with (first | ((with_reducible refine gate_callee (f := 13) rfl ?_); refine goesL_ (some 113) rfl rfl Try.func13 (by kernel_rfl) rfl #[.agg #[.int .i64 t292, .int .i64 t293, .int .i64 t294, .slice Ao17 t295.length co17], .agg #[.int .i64 t307, .int .i64 t308, .int .i64 t309, .int .i64 t310]] rfl q80_ ?_; (with_reducible refine (integral_Sum.calls k2 t292 t293 t294 _ _ t295 t307 t308 t309 t310 t315 t316 _ ?side1 ?side2 A63.out).mono ?_); (case side1 => repeat (first | exact (Kd.R_reads' HO_300003.out).2.2 | (with_reducible refine Kd.C_alloc ?_ _) | (with_reducible refine Kd.C_drewN ?_ _) | (with_reducible refine Kd.C_drew ?_))); (case side2 => exact (Kd.R_reads' HO_300003.out).2.1); rintro e w80 ⟨rfl, hb⟩; refine ⟨_, rfl, ?_⟩; have n0_ := am_ (Kd.R_below q114_ hb); have n1_ := am_ (Kd.R_below q115_ hb); have n2_ := am_ (blk_below (g := gb291) (o := .cells #[.int .i64 t284, .int .i64 t285, .int .i64 t286, .slice Ao11 t287.length co11] 26 (0, 0)) q109_ hb); have n3_ := am_ (blk_below (g := gb299) (o := .cells #[.int .i64 t292, .int .i64 t293, .int .i64 t294, .slice Ao17 t295.length co17] 26 (0, 0)) q110_ hb); have n4_ := am_ (IsS56.below (by repeat (first | (with_reducible first | exact HI283.out | apply IsS56.alloc | apply IsS56.drewN | apply IsS56.drew | apply IsS56.set_1 | refine IsS56.far ?_ NB283_291.out _ | refine IsS56.far ?_ NB283_299.out _ | refine IsS56.far ?_ NB283_312.out _) | exact HI283.out)) hb); have n5_ := am_ (blk_below (g := gb312) (o := .cells #[.int .i64 t307, .int .i64 t308, .int .i64 t309, .int .i64 t310] 32 (0, 0)) q111_ hb); have n6_ := am_ (below_step q6_ hb); clear HO_292003; clear HO_300003; clear BK291; clear BK299; clear HI283; clear BK312; clear HB; have HO_292003 := n0_; have HO_300003 := n1_; have BK291 := n2_; have BK299 := n3_; have HI283 := n4_; have BK312 := n5_; have HB := n6_; clear n0_ n1_ n2_ n3_ n4_ n5_ n6_))
       (try simp only [Act.put, List.setIfInBounds_toArray, List.set_cons_zero, List.set_cons_succ])
       go_cut [129] (fun v129 wc => ∃ (kq : Nat) (x129_63 : Bool), v129 = .bool x129_63 ∧ Aside0 (tilefarmlaw13_IntegralMonotone.j2 kq (wrap64 (t307 + t313)) t315 x129_63 t292 t293 t294 t295 t307 t308 t309 t310 = some r) ∧ Aside0 (kq ≤ k2) ∧ Aside0 (Kd.R (Kd.int .i64) 3 wc w.heap.size (fun k_ => some k_ ≠ ((.slice Ao17 t295.length co17) : Value).ownBlock) (.slice Ao11 t287.length co11) t287) ∧ Aside0 (Kd.R (Kd.int .i64) 3 wc w.heap.size (fun k_ => some k_ ≠ ((.slice Ao11 t287.length co11) : Value).ownBlock) (.slice Ao17 t295.length co17) t295) ∧ Aside0 (wc.heap[gb291]? = some (.cells #[.int .i64 t284, .int .i64 t285, .int .i64 t286, (.slice Ao11 t287.length co11)] 26 (0, 0))) ∧ Aside0 (wc.heap[gb299]? = some (.cells #[.int .i64 t292, .int .i64 t293, .int .i64 t294, (.slice Ao17 t295.length co17)] 26 (0, 0))) ∧ Aside0 (wc.heap[gb312]? = some (.cells #[.int .i64 t307, .int .i64 t308, .int .i64 t309, .int .i64 t310] 32 (0, 0))) ∧ Aside0 (Below w.heap.size w wc))
       case first =>
        have H := HC64.out
        clear HC64
        by_cases c81 : t316 = 0
        ·rw [if_pos c81] at H
         have c81b0 : (t316 == 0) = true := beq_iff_eq.mpr c81
         have c81b1 : (t316 != 0) = false := bne_eq_false_iff_eq.mpr c81
         clear c81
         (first | rw [c81b0] | (simp only [i64_w, i32_w]; rw [c81b0]) | skip)
         obtain ⟨ji82, hji82⟩ : ∃ j_ : Int, (wrap64 ((t295.length : Int) - 1)) = j_ := ⟨_, rfl⟩
         replace H : (if 0 ≤ (ji82) then (if (ji82) < (t295.length : Int) then (tilefarmlaw13_IntegralMonotone.j2 k2 (wrap64 (t307 + t313)) t315 ((rd t295 (ji82)) != x7_2) t292 t293 t294 t295 t307 t308 t309 t310) else (none)) else (none)) = some r := by first | (rw [hji82] at H; exact H) | (simp only [hji82] at H ⊢; exact H)
         have hji82w : (IntKind.i64.wrap ((t295.length : Int) - 1)) = ji82 := (i64_w _).trans hji82
         by_cases c83 : 0 ≤ (ji82)
         ·rw [if_pos c83] at H
          have c83b0 : decide (0 ≤ (ji82)) = true := decide_eq_true c83
          clear c83
          by_cases c84 : (ji82) < (t295.length : Int)
          ·rw [if_pos c84] at H
           have c84b0 : decide ((ji82) < (t295.length : Int)) = true := decide_eq_true c84
           clear c84
           have H' := am_ H
           clear H
           have hnb85 := NB299_291.out
           have hnc85 := NB291_299.out
           have hnb86 := NB299_312.out
           have hnc86 := NB312_299.out
           have hnb87 := NB299_283.out
           have hnc87 := NB283_299.out
           have hcz88_0 : w80.cell? ⟨gb299, 0, none⟩ = some (.int .i64 t292) := (blk_cell BK299.out 0).trans rfl
           have hcz88_1 : w80.cell? ⟨gb299, 1, none⟩ = some (.int .i64 t293) := (blk_cell BK299.out 1).trans rfl
           have hcz88_2 : w80.cell? ⟨gb299, 2, none⟩ = some (.int .i64 t294) := (blk_cell BK299.out 2).trans rfl
           have hcz88_3 : w80.cell? ⟨gb299, 3, none⟩ = some (.slice Ao17 t295.length co17) := (blk_cell BK299.out 3).trans rfl
           have hfz88_0 := blk_frozen BK299.out 0
           have hfz88_1 := blk_frozen BK299.out 1
           have hfz88_2 := blk_frozen BK299.out 2
           have hfz88_3 := blk_frozen BK299.out 3
           have p317 : 0 ≤ ((ji82) : Int) := of_decide_eq_true q129_
           have q317 : (ji82) < (t295.length : Int) := of_decide_eq_true q129_
           obtain ⟨ad317, e317, hx317_0⟩ := Kd.at_int (Kd.R_reads' HO_300003.out).2.2 (ji82) p317 q317
           cases e317
           replace p317 := eq_true p317
           replace q317 := eq_true q317
           go_wp2
           go_meet
           case rel => exact ⟨_, (((rd t295 (ji82)) != x7_2)), (by first | rfl | (simp; done) | (simp only [← hji82] <;> (first | rfl | simp)) | (simp [*]; done)), (by first | exact H' | ((try (rw [hji30])); (try (rw [hji35])); (try (rw [hji49])); (try (rw [hji82])); exact H')), ⟨by have := HJ4.out; have := HK2.out; first | omega | exact Nat.le_refl _⟩, ⟨q114_⟩, ⟨q115_⟩, ⟨q109_⟩, ⟨q110_⟩, ⟨q111_⟩, ⟨q6_⟩⟩
          ·rw [if_neg c84] at H
           exact absurd H (by simp)
         ·rw [if_neg c83] at H
          exact absurd H (by simp)
        ·rw [if_neg c81] at H
         have c81b0 : (t316 == 0) = false := beq_eq_false_iff_ne.mpr c81
         have c81b1 : (t316 != 0) = true := bne_iff_ne.mpr c81
         (first | rw [c81b0] | (simp only [i64_w, i32_w]; rw [c81b0]) | skip)
         have H' := am_ H
         clear H
         go_wp2
         go_meet
         case rel => exact ⟨_, (true), q130_, (by first | exact H' | ((try (rw [hji30])); (try (rw [hji35])); (try (rw [hji49])); (try (rw [hji82])); exact H')), ⟨by have := HJ4.out; have := HK2.out; first | omega | exact Nat.le_refl _⟩, ⟨q114_⟩, ⟨q115_⟩, ⟨q109_⟩, ⟨q110_⟩, ⟨q111_⟩, ⟨q6_⟩⟩
       case rest =>
        clear HC64
        try clear c1
        try clear c2
        try clear p2
        try clear p3
        try clear q3
        try clear hx3
        try clear c4
        try clear c5
        try clear c6
        try clear p6
        try clear c7
        try clear c8
        try clear c11
        try clear c12
        try clear c13
        try clear c25
        try clear c25b0
        try clear c26
        try clear p30
        try clear q30
        try clear hx30
        try clear p31
        try clear q31
        try clear hx31
        try clear c47
        try clear c47b0
        try clear c48
        try clear c50
        try clear c51
        try clear c57
        try clear c58
        try clear p64
        try clear c65
        try clear c66
        try clear c70
        try clear c71
        try clear c72
        try clear c77
        try clear c81
        try clear c81b0
        try clear c81b1
        try clear c83
        try clear c83b0
        try clear c84
        try clear c84b0
        try clear c85
        try clear c86
        try clear c87
        try clear hcz59_0
        try clear hcz59_1
        try clear hcz59_2
        try clear hcz59_3
        try clear hcz67_0
        try clear hcz67_1
        try clear hcz67_2
        try clear hcz67_3
        try clear hcz73_0
        try clear hcz73_1
        try clear hcz73_2
        try clear hcz73_3
        try clear hcz78_0
        try clear hcz78_1
        try clear hcz78_2
        try clear hcz78_3
        try clear hcz79_0
        try clear hcz79_1
        try clear hcz79_2
        try clear hcz79_3
        try clear hcz88_0
        try clear hcz88_1
        try clear hcz88_2
        try clear hcz88_3
        try clear hfz59_0
        try clear hfz59_1
        try clear hfz59_2
        try clear hfz59_3
        try clear hfz67_0
        try clear hfz67_1
        try clear hfz67_2
        try clear hfz67_3
        try clear hfz73_0
        try clear hfz73_1
        try clear hfz73_2
        try clear hfz73_3
        try clear hfz78_0
        try clear hfz78_1
        try clear hfz78_2
        try clear hfz78_3
        try clear hfz79_0
        try clear hfz79_1
        try clear hfz79_2
        try clear hfz79_3
        try clear hfz88_0
        try clear hfz88_1
        try clear hfz88_2
        try clear hfz88_3
        try clear hx300_0
        try clear hx317_0
        try clear p300
        try clear p317
        try clear q300
        try clear q317
        obtain ⟨kq, x129_63, rfl, HA, HJ63, HO_292003, HO_300003, BK291, BK299, BK312, HB⟩ := hcut
        cases kq with
        | zero => exact absurd HA.out (by simp [tilefarmlaw13_IntegralMonotone.j2])
        | succ kj63 =>
         have H := HA.out
         clear HA
         simp only [tilefarmlaw13_IntegralMonotone.j2] at H
         by_cases c89 : x129_63 = true
         ·subst c89
          have H1 : (some false) = some r := by rw [if_pos rfl] at H; exact H
          clear H
          have H := H1
          clear H1
          exact absurd ((Option.some.inj H).trans HT.out) (by decide)
         ·replace c89 := Bool.eq_false_iff.mpr c89
          subst c89
          have H1 : (if (wrap64 (t307 + t313)) = t307 then ((tilefarmlaw13_sane.f kj63).bind fun t318 => (some t318)) else ((integral_Sum.f kj63 t292 t293 t294 t295 t307 t308 (wrap64 (t307 + t313)) t310).bind fun bt319 => ((integral_Sum.f kj63 t292 t293 t294 t295 (wrap64 (t307 + t313)) t308 t309 t310).bind fun bt321 => (if bt319.2 = 0 then (if bt321.2 = 0 then (if (wrap64 (bt319.1 + bt321.1)) = t315 then ((tilefarmlaw13_sane.f kj63).bind fun t323 => (some t323)) else (some false)) else (some false)) else (some false))))) = some r := by rw [if_neg (show ¬ (false = true) by decide)] at H; exact H
          clear H
          have H := H1
          clear H1
          by_cases c90 : (wrap64 (t307 + t313)) = t307
          ·rw [if_pos c90] at H
           have c90b0 : ((wrap64 (t307 + t313)) == t307) = true := beq_iff_eq.mpr c90
           have c90b1 : ((wrap64 (t307 + t313)) != t307) = false := bne_eq_false_iff_eq.mpr c90
           clear c90
           replace H := Option.bind_eq_some_iff.mp H
           obtain ⟨t318, A910, H⟩ := H
           replace H : (some t318) = some r := H
           have A91 := am_ A910
           clear A910
           obtain rfl := Option.some.inj H
           have hnb92 := NB312_291.out
           have hnc92 := NB291_312.out
           have hnb93 := NB312_299.out
           have hnc93 := NB299_312.out
           have hcz94_0 : wc.cell? ⟨gb312, 0, none⟩ = some (.int .i64 t307) := (blk_cell BK312.out 0).trans rfl
           have hcz94_1 : wc.cell? ⟨gb312, 1, none⟩ = some (.int .i64 t308) := (blk_cell BK312.out 1).trans rfl
           have hcz94_2 : wc.cell? ⟨gb312, 2, none⟩ = some (.int .i64 t309) := (blk_cell BK312.out 2).trans rfl
           have hcz94_3 : wc.cell? ⟨gb312, 3, none⟩ = some (.int .i64 t310) := (blk_cell BK312.out 3).trans rfl
           have hfz94_0 := blk_frozen BK312.out 0
           have hfz94_1 := blk_frozen BK312.out 1
           have hfz94_2 := blk_frozen BK312.out 2
           have hfz94_3 := blk_frozen BK312.out 3
           go_wp2_with (first | ((with_reducible refine gate_callee (f := 14) rfl ?_); refine goesL_ (some 134) rfl rfl Try.func14 (by kernel_rfl) rfl #[] rfl q80_ ?_; (with_reducible refine (tilefarmlaw13_sane.calls kj63  t318 _ A91.out).mono ?_); rintro e w95 ⟨rfl, hb⟩; refine ⟨_, rfl, ?_⟩; have n0_ := am_ (Kd.R_below q114_ hb); have n1_ := am_ (Kd.R_below q115_ hb); have n2_ := am_ (blk_below (g := gb291) (o := .cells #[.int .i64 t284, .int .i64 t285, .int .i64 t286, .slice Ao11 t287.length co11] 26 (0, 0)) q109_ hb); have n3_ := am_ (blk_below (g := gb299) (o := .cells #[.int .i64 t292, .int .i64 t293, .int .i64 t294, .slice Ao17 t295.length co17] 26 (0, 0)) q110_ hb); have n4_ := am_ (blk_below (g := gb312) (o := .cells #[.int .i64 t307, .int .i64 t308, .int .i64 t309, .int .i64 t310] 32 (0, 0)) q111_ hb); have n5_ := am_ (below_step q35_ hb); clear HO_292003; clear HO_300003; clear BK291; clear BK299; clear BK312; clear HB; have HO_292003 := n0_; have HO_300003 := n1_; have BK291 := n2_; have BK299 := n3_; have BK312 := n4_; have HB := n5_; clear n0_ n1_ n2_ n3_ n4_ n5_))
           go_ret
           exact ⟨q126_, q35_⟩
          ·rw [if_neg c90] at H
           have c90b0 : ((wrap64 (t307 + t313)) == t307) = false := beq_eq_false_iff_ne.mpr c90
           have c90b1 : ((wrap64 (t307 + t313)) != t307) = true := bne_iff_ne.mpr c90
           replace H := Option.bind_eq_some_iff.mp H
           obtain ⟨⟨t319, t320⟩, A960, H⟩ := H
           replace H : ((integral_Sum.f kj63 t292 t293 t294 t295 (wrap64 (t307 + t313)) t308 t309 t310).bind fun bt321 => (if t320 = 0 then (if bt321.2 = 0 then (if (wrap64 (t319 + bt321.1)) = t315 then ((tilefarmlaw13_sane.f kj63).bind fun t323 => (some t323)) else (some false)) else (some false)) else (some false))) = some r := H
           have A96 := am_ A960
           clear A960
           replace H := Option.bind_eq_some_iff.mp H
           obtain ⟨⟨t321, t322⟩, A970, H⟩ := H
           replace H : (if t320 = 0 then (if t322 = 0 then (if (wrap64 (t319 + t321)) = t315 then ((tilefarmlaw13_sane.f kj63).bind fun t323 => (some t323)) else (some false)) else (some false)) else (some false)) = some r := H
           have A97 := am_ A970
           clear A970
           by_cases c98 : t320 = 0
           ·rw [if_pos c98] at H
            have c98b0 : (t320 == 0) = true := beq_iff_eq.mpr c98
            have c98b1 : (t320 != 0) = false := bne_eq_false_iff_eq.mpr c98
            clear c98
            by_cases c99 : t322 = 0
            ·rw [if_pos c99] at H
             have c99b0 : (t322 == 0) = true := beq_iff_eq.mpr c99
             have c99b1 : (t322 != 0) = false := bne_eq_false_iff_eq.mpr c99
             clear c99
             by_cases c100 : (wrap64 (t319 + t321)) = t315
             ·rw [if_pos c100] at H
              have c100b0 : ((wrap64 (t319 + t321)) == t315) = true := beq_iff_eq.mpr c100
              have c100b1 : ((wrap64 (t319 + t321)) != t315) = false := bne_eq_false_iff_eq.mpr c100
              clear c100
              replace H := Option.bind_eq_some_iff.mp H
              obtain ⟨t323, A1010, H⟩ := H
              replace H : (some t323) = some r := H
              have A101 := am_ A1010
              clear A1010
              obtain rfl := Option.some.inj H
              have hnb102 := NB312_291.out
              have hnc102 := NB291_312.out
              have hnb103 := NB312_299.out
              have hnc103 := NB299_312.out
              have hcz104_0 : wc.cell? ⟨gb312, 0, none⟩ = some (.int .i64 t307) := (blk_cell BK312.out 0).trans rfl
              have hcz104_1 : wc.cell? ⟨gb312, 1, none⟩ = some (.int .i64 t308) := (blk_cell BK312.out 1).trans rfl
              have hcz104_2 : wc.cell? ⟨gb312, 2, none⟩ = some (.int .i64 t309) := (blk_cell BK312.out 2).trans rfl
              have hcz104_3 : wc.cell? ⟨gb312, 3, none⟩ = some (.int .i64 t310) := (blk_cell BK312.out 3).trans rfl
              have hfz104_0 := blk_frozen BK312.out 0
              have hfz104_1 := blk_frozen BK312.out 1
              have hfz104_2 := blk_frozen BK312.out 2
              have hfz104_3 := blk_frozen BK312.out 3
              have hnb105 := NB299_291.out
              have hnc105 := NB291_299.out
              have hcz106_0 : wc.cell? ⟨gb299, 0, none⟩ = some (.int .i64 t292) := (blk_cell BK299.out 0).trans rfl
              have hcz106_1 : wc.cell? ⟨gb299, 1, none⟩ = some (.int .i64 t293) := (blk_cell BK299.out 1).trans rfl
              have hcz106_2 : wc.cell? ⟨gb299, 2, none⟩ = some (.int .i64 t294) := (blk_cell BK299.out 2).trans rfl
              have hcz106_3 : wc.cell? ⟨gb299, 3, none⟩ = some (.slice Ao17 t295.length co17) := (blk_cell BK299.out 3).trans rfl
              have hfz106_0 := blk_frozen BK299.out 0
              have hfz106_1 := blk_frozen BK299.out 1
              have hfz106_2 := blk_frozen BK299.out 2
              have hfz106_3 := blk_frozen BK299.out 3
              go_wp2_with (first | ((with_reducible refine gate_callee (f := 13) rfl ?_); refine goesL_ (some 145) rfl rfl Try.func13 (by kernel_rfl) rfl #[.agg #[.int .i64 t292, .int .i64 t293, .int .i64 t294, .slice Ao17 t295.length co17], .agg #[.int .i64 t307, .int .i64 t308, .int .i64 (wrap64 (t307 + t313)), .int .i64 t310]] rfl q80_ ?_; (with_reducible refine (integral_Sum.calls kj63 t292 t293 t294 _ _ t295 t307 t308 (wrap64 (t307 + t313)) t310 t319 t320 _ ?side1 ?side2 A96.out).mono ?_); (case side1 => repeat (first | exact (Kd.R_reads' HO_300003.out).2.2 | (with_reducible refine Kd.C_alloc ?_ _) | (with_reducible refine Kd.C_drewN ?_ _) | (with_reducible refine Kd.C_drew ?_))); (case side2 => exact (Kd.R_reads' HO_300003.out).2.1); rintro e w107 ⟨rfl, hb⟩; refine ⟨_, rfl, ?_⟩; have n0_ := am_ (Kd.R_below q114_ hb); have n1_ := am_ (Kd.R_below q115_ hb); have n2_ := am_ (blk_below (g := gb291) (o := .cells #[.int .i64 t284, .int .i64 t285, .int .i64 t286, .slice Ao11 t287.length co11] 26 (0, 0)) q109_ hb); have n3_ := am_ (blk_below (g := gb299) (o := .cells #[.int .i64 t292, .int .i64 t293, .int .i64 t294, .slice Ao17 t295.length co17] 26 (0, 0)) q110_ hb); have n4_ := am_ (blk_below (g := gb312) (o := .cells #[.int .i64 t307, .int .i64 t308, .int .i64 t309, .int .i64 t310] 32 (0, 0)) q111_ hb); have n5_ := am_ (below_step q35_ hb); clear HO_292003; clear HO_300003; clear BK291; clear BK299; clear BK312; clear HB; have HO_292003 := n0_; have HO_300003 := n1_; have BK291 := n2_; have BK299 := n3_; have BK312 := n4_; have HB := n5_; clear n0_ n1_ n2_ n3_ n4_ n5_; have hcz108_0 : w107.cell? ⟨gb299, 0, none⟩ = some (.int .i64 t292) := (blk_cell BK299.out 0).trans rfl; have hcz108_1 : w107.cell? ⟨gb299, 1, none⟩ = some (.int .i64 t293) := (blk_cell BK299.out 1).trans rfl; have hcz108_2 : w107.cell? ⟨gb299, 2, none⟩ = some (.int .i64 t294) := (blk_cell BK299.out 2).trans rfl; have hcz108_3 : w107.cell? ⟨gb299, 3, none⟩ = some (.slice Ao17 t295.length co17) := (blk_cell BK299.out 3).trans rfl; have hfz108_0 := blk_frozen BK299.out 0; have hfz108_1 := blk_frozen BK299.out 1; have hfz108_2 := blk_frozen BK299.out 2; have hfz108_3 := blk_frozen BK299.out 3; have hcz109_0 : w107.cell? ⟨gb312, 0, none⟩ = some (.int .i64 t307) := (blk_cell BK312.out 0).trans rfl; have hcz109_1 : w107.cell? ⟨gb312, 1, none⟩ = some (.int .i64 t308) := (blk_cell BK312.out 1).trans rfl; have hcz109_2 : w107.cell? ⟨gb312, 2, none⟩ = some (.int .i64 t309) := (blk_cell BK312.out 2).trans rfl; have hcz109_3 : w107.cell? ⟨gb312, 3, none⟩ = some (.int .i64 t310) := (blk_cell BK312.out 3).trans rfl; have hfz109_0 := blk_frozen BK312.out 0; have hfz109_1 := blk_frozen BK312.out 1; have hfz109_2 := blk_frozen BK312.out 2; have hfz109_3 := blk_frozen BK312.out 3) | ((with_reducible refine gate_callee (f := 13) rfl ?_); refine goesL_ (some 158) rfl rfl Try.func13 (by kernel_rfl) rfl #[.agg #[.int .i64 t292, .int .i64 t293, .int .i64 t294, .slice Ao17 t295.length co17], .agg #[.int .i64 (wrap64 (t307 + t313)), .int .i64 t308, .int .i64 t309, .int .i64 t310]] rfl q80_ ?_; (with_reducible refine (integral_Sum.calls kj63 t292 t293 t294 _ _ t295 (wrap64 (t307 + t313)) t308 t309 t310 t321 t322 _ ?side1 ?side2 A97.out).mono ?_); (case side1 => repeat (first | exact (Kd.R_reads' HO_300003.out).2.2 | (with_reducible refine Kd.C_alloc ?_ _) | (with_reducible refine Kd.C_drewN ?_ _) | (with_reducible refine Kd.C_drew ?_))); (case side2 => exact (Kd.R_reads' HO_300003.out).2.1); rintro e w110 ⟨rfl, hb⟩; refine ⟨_, rfl, ?_⟩; have n0_ := am_ (Kd.R_below q114_ hb); have n1_ := am_ (Kd.R_below q115_ hb); have n2_ := am_ (blk_below (g := gb291) (o := .cells #[.int .i64 t284, .int .i64 t285, .int .i64 t286, .slice Ao11 t287.length co11] 26 (0, 0)) q109_ hb); have n3_ := am_ (blk_below (g := gb299) (o := .cells #[.int .i64 t292, .int .i64 t293, .int .i64 t294, .slice Ao17 t295.length co17] 26 (0, 0)) q110_ hb); have n4_ := am_ (blk_below (g := gb312) (o := .cells #[.int .i64 t307, .int .i64 t308, .int .i64 t309, .int .i64 t310] 32 (0, 0)) q111_ hb); have n5_ := am_ (below_step q35_ hb); clear HO_292003; clear HO_300003; clear BK291; clear BK299; clear BK312; clear HB; have HO_292003 := n0_; have HO_300003 := n1_; have BK291 := n2_; have BK299 := n3_; have BK312 := n4_; have HB := n5_; clear n0_ n1_ n2_ n3_ n4_ n5_) | (go_at_call 14; (with_reducible refine (tilefarmlaw13_sane.calls kj63  t323 _ A101.out).mono ?_); rintro e w111 ⟨rfl, hb⟩; have n0_ := am_ (Kd.R_below q114_ hb); have n1_ := am_ (Kd.R_below q115_ hb); have n2_ := am_ (blk_below (g := gb291) (o := .cells #[.int .i64 t284, .int .i64 t285, .int .i64 t286, .slice Ao11 t287.length co11] 26 (0, 0)) q109_ hb); have n3_ := am_ (blk_below (g := gb299) (o := .cells #[.int .i64 t292, .int .i64 t293, .int .i64 t294, .slice Ao17 t295.length co17] 26 (0, 0)) q110_ hb); have n4_ := am_ (blk_below (g := gb312) (o := .cells #[.int .i64 t307, .int .i64 t308, .int .i64 t309, .int .i64 t310] 32 (0, 0)) q111_ hb); have n5_ := am_ (below_step q35_ hb); clear HO_292003; clear HO_300003; clear BK291; clear BK299; clear BK312; clear HB; have HO_292003 := n0_; have HO_300003 := n1_; have BK291 := n2_; have BK299 := n3_; have BK312 := n4_; have HB := n5_; clear n0_ n1_ n2_ n3_ n4_ n5_))
              go_ret
              exact ⟨q126_, q35_⟩
             ·rw [if_neg c100] at H
              have c100b0 : ((wrap64 (t319 + t321)) == t315) = false := beq_eq_false_iff_ne.mpr c100
              have c100b1 : ((wrap64 (t319 + t321)) != t315) = true := bne_iff_ne.mpr c100
              exact absurd ((Option.some.inj H).trans HT.out) (by decide)
            ·rw [if_neg c99] at H
             have c99b0 : (t322 == 0) = false := beq_eq_false_iff_ne.mpr c99
             have c99b1 : (t322 != 0) = true := bne_iff_ne.mpr c99
             exact absurd ((Option.some.inj H).trans HT.out) (by decide)
           ·rw [if_neg c98] at H
            have c98b0 : (t320 == 0) = false := beq_eq_false_iff_ne.mpr c98
            have c98b1 : (t320 != 0) = true := bne_iff_ne.mpr c98
            exact absurd ((Option.some.inj H).trans HT.out) (by decide)


def tilefarmlaw13_IntegralMonotone.Pure : Prop := ∀ (l0 : List Int), l0.length ≤ maxLen → l0.length * 8 ≤ 140737488351232 → (∀ x ∈ l0, (Lit.int .i64 x).wf = true) → ∃ k, tilefarmlaw13_IntegralMonotone.f k l0 = some true
theorem tilefarmlaw13_IntegralMonotone.walk (P : tilefarmlaw13_IntegralMonotone.Pure) (a0 : Option Addr) (len0 cap0 : Nat) (z0 : List Int) (w : World) (w0 : (a0 = none ∧ len0 = 0 ∧ cap0 = 0 ∧ z0 = []) ∨ ∃ x, a0 = some x ∧ len0 ≤ cap0 ∧ cap0 ≤ maxLen ∧ z0.length = cap0 ∧ (∀ i, i < z0.length → w.cell? (x.add i) = some (.int .i64 (z0.getD i 0))) ∧ ∀ n ∈ z0, (Lit.int .i64 n).wf = true) (y0 : len0 * 8 ≤ 140737488351232) :
  Calls Try.prog 3 #[.slice a0 len0 cap0] w fun e w' => e = .returned (.bool true) ∧ Below w.heap.size w w' := by
 obtain ⟨l0, rfl, hr0, hm0, hw0, hc0⟩ := ReadsInt.ofRowC w0
 obtain ⟨k, h⟩ := P l0 hm0 y0 hw0
 refine (tilefarmlaw13_IntegralMonotone.calls k _ _ l0 true w (Kd.C_of_reads (d := (0 : Int)) (h1 := fun _ => rfl) hr0) hc0 h).mono ?_
 rintro e w' ⟨rfl, hd⟩
 exact ⟨rfl, hd⟩

end Go.Proofs.Ytkipnpgcpohlcaa.PIntegralMonotone
