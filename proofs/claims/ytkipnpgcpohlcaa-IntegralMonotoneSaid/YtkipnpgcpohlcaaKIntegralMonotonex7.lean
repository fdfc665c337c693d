-- Written by a program of the session (wip/tools/pack.py): the printed texts, pruned; checked by Lean.
import Derived.Test.YtkipnpgcpohlcaaKIntegralMonotonea
import Derived.Test.YtkipnpgcpohlcaaKIntegralMonotonex0
import Derived.Test.YtkipnpgcpohlcaaKIntegralMonotonex4
import Derived.Test.YtkipnpgcpohlcaaKIntegralMonotonex6
namespace Go.Proofs.Ytkipnpgcpohlcaa.PIntegralMonotone
open Go.RowKit Go.Proofs.YtkipnpgcpohlcaaW.PrintWords Go.Proofs.YtkipnpgcpohlcaaW.PrintLast Go.Proofs.YtkipnpgcpohlcaaW.PrintMore
attribute [local go_sem] max2_int min2_int max_two min_two max_three min_three max_four min_four   -- for this text's walks alone
set_option linter.unusedVariables false
set_option linter.unusedSimpArgs false
mutual
def integral_Tile.j0 : Nat → List Int → List Int → Int → Bool → Int → Int → Int → List Int → Int → Int → Int → Int → Option (Int × Int × Int × List Int × Int)
  | 0, _, _, _, _, _, _, _, _, _, _, _, _ => none
  | k + 1, x2, x3, x4, x58, x183000, x183001, x183002, x183003, x184000, x184001, x184002, x184003 => if x58 = true then (some (0, 0, 0, ([] : List Int), 8)) else ((integral_shape.f x183000 x183001 x183002 x183003).bind fun bt188 => ((integral_most.f k bt188.1 bt188.2.1 bt188.2.2).bind fun bt191 => ((integral_Tile_1.f k (([x4] : List Int)) bt191.1).bind fun t197 => (if t197 = true then ((integral_Tile_1.f k x2 bt191.1).bind fun t198 => (if t198 = true then ((integral_Tile_1.f k x3 bt191.1).bind fun t199 => (integral_Tile.j1 k x2 x3 x4 (!t199) x183000 x183001 x183002 x183003 x184000 x184001 x184002 x184003 bt191.1)) else (integral_Tile.j1 k x2 x3 x4 true x183000 x183001 x183002 x183003 x184000 x184001 x184002 x184003 bt191.1))) else (integral_Tile.j1 k x2 x3 x4 true x183000 x183001 x183002 x183003 x184000 x184001 x184002 x184003 bt191.1)))))
def integral_Tile.j1 : Nat → List Int → List Int → Int → Bool → Int → Int → Int → List Int → Int → Int → Int → Int → Int → Option (Int × Int × Int × List Int × Int)
  | 0, _, _, _, _, _, _, _, _, _, _, _, _, _ => none
  | k + 1, x2, x3, x4, x83, x183000, x183001, x183002, x183003, x184000, x184001, x184002, x184003, x194000 => if x83 = true then (some (0, 0, 0, ([] : List Int), 2)) else (if 0 ≤ (x3.length : Int) then (if ((x3.length : Int) : Int).toNat ≤ 35184372088832 then (integral_Tile.l0 k x2 x3 x4 (List.replicate ((x3.length : Int) : Int).toNat 0) (x2.length : Int) 0 x183000 x183001 x183002 x183003 x184000 x184001 x184002 x184003 x194000 (x3.length : Int) (x2.length : Int) x194000 ([] : List Int)) else (none)) else (none))
def integral_Tile.l0 : Nat → List Int → List Int → Int → List Int → Int → Int → Int → Int → Int → List Int → Int → Int → Int → Int → Int → Int → Int → Int → List Int → Option (Int × Int × Int × List Int × Int)
  | 0, _, _, _, _, _, _, _, _, _, _, _, _, _, _, _, _, _, _, _ => none
  | k + 1, x2, x3, x4, x17, x95, x96, x183000, x183001, x183002, x183003, x184000, x184001, x184002, x184003, x194000, x201000, x201001, x201002, x201003 => if x96 < x95 then (integral_Tile.l1 k x2 x3 x4 x17 x96 0 x95 x96 x201000 0 x183000 x183001 x183002 x183003 x184000 x184001 x184002 x184003 x194000 x201000 x201001 x201002 x201003) else ((integral_Tile_1.f k x201003 x194000).bind fun t204 => (if t204 = true then (some (x201000, x201001, x201002, x201003, 0)) else (some (0, 0, 0, ([] : List Int), 2))))
def integral_Tile.l1 : Nat → List Int → List Int → Int → List Int → Int → Int → Int → Int → Int → Int → Int → Int → Int → List Int → Int → Int → Int → Int → Int → Int → Int → Int → List Int → Option (Int × Int × Int × List Int × Int)
  | 0, _, _, _, _, _, _, _, _, _, _, _, _, _, _, _, _, _, _, _, _, _, _, _ => none
  | k + 1, x2, x3, x4, x17, x18, x19, x95, x96, x100, x101, x183000, x183001, x183002, x183003, x184000, x184001, x184002, x184003, x194000, x201000, x201001, x201002, x201003 => if x101 < x100 then (if 0 ≤ (wrap64 ((wrap64 ((wrap64 ((wrap64 (x184001 + x18)) * x183000)) + x184000)) + x101)) then (if (wrap64 ((wrap64 ((wrap64 ((wrap64 (x184001 + x18)) * x183000)) + x184000)) + x101)) < (x183003.length : Int) then (if 0 ≤ x101 then (if x101 < (x17.length : Int) then ((some (x17.set (x101 : Int).toNat (wrap64 ((rd x17 x101) + (wrap64 (x19 + (rd x183003 (wrap64 ((wrap64 ((wrap64 ((wrap64 (x184001 + x18)) * x183000)) + x184000)) + x101))))))) : List Int)).bind fun y207 => (if 0 ≤ x18 then (if x18 < (x2.length : Int) then (if x101 < (x3.length : Int) then (if x201003.length < 17592186044416 then (integral_Tile.l1 k x2 x3 x4 y207 x18 (wrap64 (x19 + (rd x183003 (wrap64 ((wrap64 ((wrap64 ((wrap64 (x184001 + x18)) * x183000)) + x184000)) + x101))))) x95 x96 x100 (wrap64 (x101 + 1)) x183000 x183001 x183002 x183003 x184000 x184001 x184002 x184003 x194000 x201000 x201001 x201002 (x201003 ++ [wrap64 ((wrap64 ((wrap64 ((rd x2 x18) + (rd x3 x101))) - x4)) + (rd y207 x101))])) else (none)) else (none)) else (none)) else (none))) else (none)) else (none)) else (none)) else (none)) else (integral_Tile.l0 k x2 x3 x4 x17 x95 (wrap64 (x96 + 1)) x183000 x183001 x183002 x183003 x184000 x184001 x184002 x184003 x194000 x201000 x201001 x201002 x201003)
end
def integral_Tile.f (k : Nat) (a0_0 : Int) (a0_1 : Int) (a0_2 : Int) (l0_3 : List Int) (a1_0 : Int) (a1_1 : Int) (a1_2 : Int) (a1_3 : Int) (l2 : List Int) (l3 : List Int) (a4 : Int) : Option (Int × Int × Int × List Int × Int) := (integral_check.f k a0_0 a0_1 a0_2 l0_3).bind fun t185 => (if t185 = 0 then ((rect_Empty.f a1_0 a1_1 a1_2 a1_3).bind fun t186 => (if t186 = true then (integral_Tile.j0 k l2 l3 a4 true a0_0 a0_1 a0_2 l0_3 a1_0 a1_1 a1_2 a1_3) else ((rect_Inside.f k a1_0 a1_1 a1_2 a1_3 0 0 a0_0 a0_1).bind fun t187 => (if t187 = true then (if (l2.length : Int) = (wrap64 (a1_3 - a1_1)) then (integral_Tile.j0 k l2 l3 a4 ((l3.length : Int) != (wrap64 (a1_2 - a1_0))) a0_0 a0_1 a0_2 l0_3 a1_0 a1_1 a1_2 a1_3) else (integral_Tile.j0 k l2 l3 a4 true a0_0 a0_1 a0_2 l0_3 a1_0 a1_1 a1_2 a1_3)) else (integral_Tile.j0 k l2 l3 a4 true a0_0 a0_1 a0_2 l0_3 a1_0 a1_1 a1_2 a1_3))))) else (some (0, 0, 0, ([] : List Int), t185)))
theorem integral_Tile.mono_l : ∀ k, (∀ y0 y1 y2 y3 y4 y5 y6 y7 y8 y9 y10 y11, LeO (integral_Tile.j0 k y0 y1 y2 y3 y4 y5 y6 y7 y8 y9 y10 y11) (integral_Tile.j0 (k + 1) y0 y1 y2 y3 y4 y5 y6 y7 y8 y9 y10 y11)) ∧ (∀ y0 y1 y2 y3 y4 y5 y6 y7 y8 y9 y10 y11 y12, LeO (integral_Tile.j1 k y0 y1 y2 y3 y4 y5 y6 y7 y8 y9 y10 y11 y12) (integral_Tile.j1 (k + 1) y0 y1 y2 y3 y4 y5 y6 y7 y8 y9 y10 y11 y12)) ∧ (∀ y0 y1 y2 y3 y4 y5 y6 y7 y8 y9 y10 y11 y12 y13 y14 y15 y16 y17 y18, LeO (integral_Tile.l0 k y0 y1 y2 y3 y4 y5 y6 y7 y8 y9 y10 y11 y12 y13 y14 y15 y16 y17 y18) (integral_Tile.l0 (k + 1) y0 y1 y2 y3 y4 y5 y6 y7 y8 y9 y10 y11 y12 y13 y14 y15 y16 y17 y18)) ∧ (∀ y0 y1 y2 y3 y4 y5 y6 y7 y8 y9 y10 y11 y12 y13 y14 y15 y16 y17 y18 y19 y20 y21 y22, LeO (integral_Tile.l1 k y0 y1 y2 y3 y4 y5 y6 y7 y8 y9 y10 y11 y12 y13 y14 y15 y16 y17 y18 y19 y20 y21 y22) (integral_Tile.l1 (k + 1) y0 y1 y2 y3 y4 y5 y6 y7 y8 y9 y10 y11 y12 y13 y14 y15 y16 y17 y18 y19 y20 y21 y22))
  | 0 => ⟨fun _ _ _ _ _ _ _ _ _ _ _ _ r h => by simp [integral_Tile.j0] at h, fun _ _ _ _ _ _ _ _ _ _ _ _ _ r h => by simp [integral_Tile.j1] at h, fun _ _ _ _ _ _ _ _ _ _ _ _ _ _ _ _ _ _ _ r h => by simp [integral_Tile.l0] at h, fun _ _ _ _ _ _ _ _ _ _ _ _ _ _ _ _ _ _ _ _ _ _ _ r h => by simp [integral_Tile.l1] at h⟩
  | k + 1 => by
    obtain ⟨ih0, ih1, ih2, ih3⟩ := integral_Tile.mono_l k
    refine ⟨?_, ?_, ?_, ?_⟩
    · intro y0 y1 y2 y3 y4 y5 y6 y7 y8 y9 y10 y11
      unfold integral_Tile.j0
      repeat' first
      | (with_reducible exact ih0 _ _ _ _ _ _ _ _ _ _ _ _)
      | (with_reducible exact ih1 _ _ _ _ _ _ _ _ _ _ _ _ _)
      | (with_reducible exact ih2 _ _ _ _ _ _ _ _ _ _ _ _ _ _ _ _ _ _ _)
      | (with_reducible exact ih3 _ _ _ _ _ _ _ _ _ _ _ _ _ _ _ _ _ _ _ _ _ _ _)
      | (with_reducible exact integral_Tile_1.mono _ _ _)
      | (with_reducible exact integral_check.mono _ _ _ _ _)
      | (with_reducible exact integral_most.mono _ _ _ _)
      | (with_reducible exact rect_Inside.mono _ _ _ _ _ _ _ _ _)
      | (with_reducible exact LeO.refl _)
      | (with_reducible exact LeO.none _)
      | (with_reducible refine LeO.ite ?_ ?_)
      | (with_reducible refine LeO.bind ?_ (fun _ => ?_))
      | exact ih0 _ _ _ _ _ _ _ _ _ _ _ _
      | exact ih1 _ _ _ _ _ _ _ _ _ _ _ _ _
      | exact ih2 _ _ _ _ _ _ _ _ _ _ _ _ _ _ _ _ _ _ _
      | exact ih3 _ _ _ _ _ _ _ _ _ _ _ _ _ _ _ _ _ _ _ _ _ _ _
      | exact integral_Tile_1.mono _ _ _
      | exact integral_check.mono _ _ _ _ _
      | exact integral_most.mono _ _ _ _
      | exact rect_Inside.mono _ _ _ _ _ _ _ _ _
      | exact LeO.none _
      | refine LeO.ite ?_ ?_
      | refine LeO.bind ?_ (fun _ => ?_)
    · intro y0 y1 y2 y3 y4 y5 y6 y7 y8 y9 y10 y11 y12
      unfold integral_Tile.j1
      repeat' first
      | (with_reducible exact ih0 _ _ _ _ _ _ _ _ _ _ _ _)
      | (with_reducible exact ih1 _ _ _ _ _ _ _ _ _ _ _ _ _)
      | (with_reducible exact ih2 _ _ _ _ _ _ _ _ _ _ _ _ _ _ _ _ _ _ _)
      | (with_reducible exact ih3 _ _ _ _ _ _ _ _ _ _ _ _ _ _ _ _ _ _ _ _ _ _ _)
      | (with_reducible exact integral_Tile_1.mono _ _ _)
      | (with_reducible exact integral_check.mono _ _ _ _ _)
      | (with_reducible exact integral_most.mono _ _ _ _)
      | (with_reducible exact rect_Inside.mono _ _ _ _ _ _ _ _ _)
      | (with_reducible exact LeO.refl _)
      | (with_reducible exact LeO.none _)
      | (with_reducible refine LeO.ite ?_ ?_)
      | (with_reducible refine LeO.bind ?_ (fun _ => ?_))
      | exact ih0 _ _ _ _ _ _ _ _ _ _ _ _
      | exact ih1 _ _ _ _ _ _ _ _ _ _ _ _ _
      | exact ih2 _ _ _ _ _ _ _ _ _ _ _ _ _ _ _ _ _ _ _
      | exact ih3 _ _ _ _ _ _ _ _ _ _ _ _ _ _ _ _ _ _ _ _ _ _ _
      | exact integral_Tile_1.mono _ _ _
      | exact integral_check.mono _ _ _ _ _
      | exact integral_most.mono _ _ _ _
      | exact rect_Inside.mono _ _ _ _ _ _ _ _ _
      | exact LeO.none _
      | refine LeO.ite ?_ ?_
      | refine LeO.bind ?_ (fun _ => ?_)
    · intro y0 y1 y2 y3 y4 y5 y6 y7 y8 y9 y10 y11 y12 y13 y14 y15 y16 y17 y18
      unfold integral_Tile.l0
      repeat' first
      | (with_reducible exact ih0 _ _ _ _ _ _ _ _ _ _ _ _)
      | (with_reducible exact ih1 _ _ _ _ _ _ _ _ _ _ _ _ _)
      | (with_reducible exact ih2 _ _ _ _ _ _ _ _ _ _ _ _ _ _ _ _ _ _ _)
      | (with_reducible exact ih3 _ _ _ _ _ _ _ _ _ _ _ _ _ _ _ _ _ _ _ _ _ _ _)
      | (with_reducible exact integral_Tile_1.mono _ _ _)
      | (with_reducible exact integral_check.mono _ _ _ _ _)
      | (with_reducible exact integral_most.mono _ _ _ _)
      | (with_reducible exact rect_Inside.mono _ _ _ _ _ _ _ _ _)
      | (with_reducible exact LeO.refl _)
      | (with_reducible exact LeO.none _)
      | (with_reducible refine LeO.ite ?_ ?_)
      | (with_reducible refine LeO.bind ?_ (fun _ => ?_))
      | exact ih0 _ _ _ _ _ _ _ _ _ _ _ _
      | exact ih1 _ _ _ _ _ _ _ _ _ _ _ _ _
      | exact ih2 _ _ _ _ _ _ _ _ _ _ _ _ _ _ _ _ _ _ _
      | exact ih3 _ _ _ _ _ _ _ _ _ _ _ _ _ _ _ _ _ _ _ _ _ _ _
      | exact integral_Tile_1.mono _ _ _
      | exact integral_check.mono _ _ _ _ _
      | exact integral_most.mono _ _ _ _
      | exact rect_Inside.mono _ _ _ _ _ _ _ _ _
      | exact LeO.none _
      | refine LeO.ite ?_ ?_
      | refine LeO.bind ?_ (fun _ => ?_)
    · intro y0 y1 y2 y3 y4 y5 y6 y7 y8 y9 y10 y11 y12 y13 y14 y15 y16 y17 y18 y19 y20 y21 y22
      unfold integral_Tile.l1
      repeat' first
      | (with_reducible exact ih0 _ _ _ _ _ _ _ _ _ _ _ _)
      | (with_reducible exact ih1 _ _ _ _ _ _ _ _ _ _ _ _ _)
      | (with_reducible exact ih2 _ _ _ _ _ _ _ _ _ _ _ _ _ _ _ _ _ _ _)
      | (with_reducible exact ih3 _ _ _ _ _ _ _ _ _ _ _ _ _ _ _ _ _ _ _ _ _ _ _)
      | (with_reducible exact integral_Tile_1.mono _ _ _)
      | (with_reducible exact integral_check.mono _ _ _ _ _)
      | (with_reducible exact integral_most.mono _ _ _ _)
      | (with_reducible exact rect_Inside.mono _ _ _ _ _ _ _ _ _)
      | (with_reducible exact LeO.refl _)
      | (with_reducible exact LeO.none _)
      | (with_reducible refine LeO.ite ?_ ?_)
      | (with_reducible refine LeO.bind ?_ (fun _ => ?_))
      | exact ih0 _ _ _ _ _ _ _ _ _ _ _ _
      | exact ih1 _ _ _ _ _ _ _ _ _ _ _ _ _
      | exact ih2 _ _ _ _ _ _ _ _ _ _ _ _ _ _ _ _ _ _ _
      | exact ih3 _ _ _ _ _ _ _ _ _ _ _ _ _ _ _ _ _ _ _ _ _ _ _
      | exact integral_Tile_1.mono _ _ _
      | exact integral_check.mono _ _ _ _ _
      | exact integral_most.mono _ _ _ _
      | exact rect_Inside.mono _ _ _ _ _ _ _ _ _
      | exact LeO.none _
      | refine LeO.ite ?_ ?_
      | refine LeO.bind ?_ (fun _ => ?_)
theorem integral_Tile.mono : ∀ a0 a1 a2 a3 a4 a5 a6 a7 a8 a9 a10 k, LeO (integral_Tile.f k a0 a1 a2 a3 a4 a5 a6 a7 a8 a9 a10) (integral_Tile.f (k + 1) a0 a1 a2 a3 a4 a5 a6 a7 a8 a9 a10) := by
  intro a0 a1 a2 a3 a4 a5 a6 a7 a8 a9 a10 k
  obtain ⟨ih0, ih1, ih2, ih3⟩ := integral_Tile.mono_l k
  unfold integral_Tile.f
  repeat' first
      | (with_reducible exact ih0 _ _ _ _ _ _ _ _ _ _ _ _)
      | (with_reducible exact ih1 _ _ _ _ _ _ _ _ _ _ _ _ _)
      | (with_reducible exact ih2 _ _ _ _ _ _ _ _ _ _ _ _ _ _ _ _ _ _ _)
      | (with_reducible exact ih3 _ _ _ _ _ _ _ _ _ _ _ _ _ _ _ _ _ _ _ _ _ _ _)
      | (with_reducible exact integral_Tile_1.mono _ _ _)
      | (with_reducible exact integral_check.mono _ _ _ _ _)
      | (with_reducible exact integral_most.mono _ _ _ _)
      | (with_reducible exact rect_Inside.mono _ _ _ _ _ _ _ _ _)
      | (with_reducible exact LeO.refl _)
      | (with_reducible exact LeO.none _)
      | (with_reducible refine LeO.ite ?_ ?_)
      | (with_reducible refine LeO.bind ?_ (fun _ => ?_))
      | exact ih0 _ _ _ _ _ _ _ _ _ _ _ _
      | exact ih1 _ _ _ _ _ _ _ _ _ _ _ _ _
      | exact ih2 _ _ _ _ _ _ _ _ _ _ _ _ _ _ _ _ _ _ _
      | exact ih3 _ _ _ _ _ _ _ _ _ _ _ _ _ _ _ _ _ _ _ _ _ _ _
      | exact integral_Tile_1.mono _ _ _
      | exact integral_check.mono _ _ _ _ _
      | exact integral_most.mono _ _ _ _
      | exact rect_Inside.mono _ _ _ _ _ _ _ _ _
      | exact LeO.none _
      | refine LeO.ite ?_ ?_
      | refine LeO.bind ?_ (fun _ => ?_)
def integral_Tile.T21 : Bool × List (List Nat × List Nat) := (true, [([], []), ([0], [0]), ([], []), ([], []), ([2, 3], [2, 3]), ([4], [4]), ([], []), ([], []), ([6, 7], [6, 7]), ([8], [8]), ([5, 9], [5, 9]), ([], []), ([10, 11], [10, 11]), ([], []), ([], []), ([13, 14], [13, 14]), ([15], [15]), ([12, 16], [12, 16]), ([17], [17]), ([1, 18], [1, 18]), ([0, 1, 2, 3, 4, 5, 6, 7, 8, 9, 10, 11, 12, 13, 14, 15, 16, 17, 18, 19], []), ([20, 19, 19, 0, 1, 2, 3, 4, 5, 6, 7, 8, 9, 10, 11, 12, 13, 14, 15, 16, 17, 18, 19], [19, 20])])
def integral_Tile.B21 : List Nat := [0, 1, 0, 0, 12, 28, 0, 0, 192, 448, 1020, 0, 4092, 0, 0, 24576, 57344, 131068, 262140, 524287, 1048575, 2097151]
theorem integral_Tile.tab21 : rtab .any (opsOf Try.f22 21) = integral_Tile.T21 := by kernel_rfl
theorem integral_Tile.bits21 : waitsOk integral_Tile.T21.2 integral_Tile.B21 = true := by kernel_rfl
set_option maxHeartbeats 8000000 in
set_option maxRecDepth 100000 in
theorem integral_Tile.calls (k : Nat) (a0_0 : Int) (a0_1 : Int) (a0_2 : Int) (A0_3 : Option Addr) (c0_3 : Nat) (l0_3 : List Int) (a1_0 : Int) (a1_1 : Int) (a1_2 : Int) (a1_3 : Int) (A2 : Option Addr) (c2 : Nat) (l2 : List Int) (A3 : Option Addr) (c3 : Nat) (l3 : List Int) (a4 : Int) (r1 : Int) (r2 : Int) (r3 : Int) (r4 : List Int) (r5 : Int) (w : World) (hr0_3 : Kd.C (Kd.int .i64) w A0_3 l0_3.length l0_3) (hc0_3 : l0_3.length ≤ c0_3) (hr2 : Kd.C (Kd.int .i64) w A2 l2.length l2) (hc2 : l2.length ≤ c2) (hr3 : Kd.C (Kd.int .i64) w A3 l3.length l3) (hc3 : l3.length ≤ c3) (h : integral_Tile.f k a0_0 a0_1 a0_2 l0_3 a1_0 a1_1 a1_2 a1_3 l2 l3 a4 = some (r1, r2, r3, r4, r5)) :
    Calls Try.prog 22 #[.agg #[.int .i64 a0_0, .int .i64 a0_1, .int .i64 a0_2, .slice A0_3 l0_3.length c0_3], .agg #[.int .i64 a1_0, .int .i64 a1_1, .int .i64 a1_2, .int .i64 a1_3], .slice A2 l2.length c2, .slice A3 l3.length c3, .int .i64 a4] w fun e w' => ∃ v3_ : Value, e = .returned (.tuple #[.agg #[.int .i64 r1, .int .i64 r2, .int .i64 r3, v3_], .int .i64 r5]) ∧ Kd.R (Kd.int .i64) 3 w' w.heap.size (fun _ => True) v3_ r4 ∧ Below w.heap.size w w' := by
  have hu26 := Try.underlying26
  have hu32 := Try.underlying32
  have HR0_3 := Aside0.mk hr0_3
  have HC0_3 := Aside0.mk hc0_3
  clear hr0_3 hc0_3
  have HR2 := Aside0.mk hr2
  have HC2 := Aside0.mk hc2
  clear hr2 hc2
  have HR3 := Aside0.mk hr3
  have HC3 := Aside0.mk hc3
  clear hr3 hc3
  have HB := Aside0.mk (Below.refl w.heap.size w)
  have H : ((integral_check.f k a0_0 a0_1 a0_2 l0_3).bind fun t185 => (if t185 = 0 then ((rect_Empty.f a1_0 a1_1 a1_2 a1_3).bind fun t186 => (if t186 = true then (integral_Tile.j0 k l2 l3 a4 true a0_0 a0_1 a0_2 l0_3 a1_0 a1_1 a1_2 a1_3) else ((rect_Inside.f k a1_0 a1_1 a1_2 a1_3 0 0 a0_0 a0_1).bind fun t187 => (if t187 = true then (if (l2.length : Int) = (wrap64 (a1_3 - a1_1)) then (integral_Tile.j0 k l2 l3 a4 ((l3.length : Int) != (wrap64 (a1_2 - a1_0))) a0_0 a0_1 a0_2 l0_3 a1_0 a1_1 a1_2 a1_3) else (integral_Tile.j0 k l2 l3 a4 true a0_0 a0_1 a0_2 l0_3 a1_0 a1_1 a1_2 a1_3)) else (integral_Tile.j0 k l2 l3 a4 true a0_0 a0_1 a0_2 l0_3 a1_0 a1_1 a1_2 a1_3))))) else (some (0, 0, 0, ([] : List Int), t185)))) = some (r1, r2, r3, r4, r5) := h
  clear h
  replace H := Option.bind_eq_some_iff.mp H
  obtain ⟨t185, A60, H⟩ := H
  replace H : (if t185 = 0 then ((rect_Empty.f a1_0 a1_1 a1_2 a1_3).bind fun t186 => (if t186 = true then (integral_Tile.j0 k l2 l3 a4 true a0_0 a0_1 a0_2 l0_3 a1_0 a1_1 a1_2 a1_3) else ((rect_Inside.f k a1_0 a1_1 a1_2 a1_3 0 0 a0_0 a0_1).bind fun t187 => (if t187 = true then (if (l2.length : Int) = (wrap64 (a1_3 - a1_1)) then (integral_Tile.j0 k l2 l3 a4 ((l3.length : Int) != (wrap64 (a1_2 - a1_0))) a0_0 a0_1 a0_2 l0_3 a1_0 a1_1 a1_2 a1_3) else (integral_Tile.j0 k l2 l3 a4 true a0_0 a0_1 a0_2 l0_3 a1_0 a1_1 a1_2 a1_3)) else (integral_Tile.j0 k l2 l3 a4 true a0_0 a0_1 a0_2 l0_3 a1_0 a1_1 a1_2 a1_3))))) else (some (0, 0, 0, ([] : List Int), t185))) = some (r1, r2, r3, r4, r5) := H
  have A6 := Aside0.mk A60
  clear A60
  by_cases c7 : t185 = 0
  · rw [if_pos c7] at H
    have c7b0 : (t185 == 0) = true := beq_iff_eq.mpr c7
    have c7b1 : (t185 != 0) = false := bne_eq_false_iff_eq.mpr c7
    clear c7
    have HC8 := Aside0.mk H
    clear H
    go_enter Try.func22, Try.ntmps22
    go_upto_region 4 with (first | ((with_reducible refine gate_dst (N := 5) rfl ?_); (try (refine gate_guard (by rfl) ?_; dsimp only)); refine box_event ?hg (N := 5) ?hd (cs := #[.int .i64 a0_0, .int .i64 a0_1, .int .i64 a0_2, .slice A0_3 l0_3.length c0_3]) (t := 26) ?hr ?_; (case hd => rfl); (case hg => rfl); (case hr => first | (go_simp; done) | (go_simp; rfl)); intro gb182 hg w9 hbox hb; have n0_ := Aside0.mk (below_step q83_ hb); have n1_ := Aside0.mk (hbox); have n2_ := Aside0.mk ((q62_ : w.heap.size ≤ gb182)); have n3_ := Aside0.mk ((q62_ : w.heap.size ≤ gb182)); clear HB; have HB := n0_; have BK182 := n1_; have GW182 := n2_; have GE182 := n3_; clear n0_ n1_ n2_ n3_; clear hb hbox hg) | ((with_reducible refine gate_dst (N := 6) rfl ?_); (try (refine gate_guard (by rfl) ?_; dsimp only)); refine box_event ?hg (N := 6) ?hd (cs := #[.int .i64 a1_0, .int .i64 a1_1, .int .i64 a1_2, .int .i64 a1_3]) (t := 32) ?hr ?_; (case hd => rfl); (case hg => rfl); (case hr => first | (go_simp; done) | (go_simp; rfl)); intro gb183 hg w10 hbox hb; have n0_ := Aside0.mk (blk_below (g := gb182) (o := .cells #[.int .i64 a0_0, .int .i64 a0_1, .int .i64 a0_2, .slice A0_3 l0_3.length c0_3] 26 (0, 0)) q97_ hb); have n1_ := Aside0.mk (below_step q71_ hb); have n2_ := Aside0.mk (hbox); have n3_ := Aside0.mk ((q47_ : w.heap.size ≤ gb183)); have n4_ := Aside0.mk ((q47_ : w.heap.size ≤ gb183)); have n5_ := Aside0.mk ((q4_ : gb182 ≠ gb183)); have n6_ := Aside0.mk ((q5_ : gb183 ≠ gb182)); clear BK182; clear HB; have BK182 := n0_; have HB := n1_; have BK183 := n2_; have GW183 := n3_; have GE183 := n4_; have NB182_183 := n5_; have NB183_182 := n6_; clear n0_ n1_ n2_ n3_ n4_ n5_ n6_; clear hb hbox hg) | ((with_reducible refine gate_dst (N := 10) rfl ?_); (try (refine gate_guard (by rfl) ?_; dsimp only)); refine box_event ?hg (N := 10) ?hd (cs := #[.int .i64 0, .int .i64 0, .int .i64 0, .slice none 0 0]) (t := 26) ?hr ?_; (case hd => rfl); (case hg => rfl); (case hr => first | (go_simp; done) | (go_simp; rfl)); intro gb184 hg w11 hbox hb; have n0_ := Aside0.mk (blk_below (g := gb182) (o := .cells #[.int .i64 a0_0, .int .i64 a0_1, .int .i64 a0_2, .slice A0_3 l0_3.length c0_3] 26 (0, 0)) q97_ hb); have n1_ := Aside0.mk (blk_below (g := gb183) (o := .cells #[.int .i64 a1_0, .int .i64 a1_1, .int .i64 a1_2, .int .i64 a1_3] 32 (0, 0)) q98_ hb); have n2_ := Aside0.mk (below_step q52_ hb); have n3_ := Aside0.mk (hbox); have n4_ := Aside0.mk ((q32_ : w.heap.size ≤ gb184)); have n5_ := Aside0.mk ((q32_ : w.heap.size ≤ gb184)); have n6_ := Aside0.mk ((q4_ : gb182 ≠ gb184)); have n7_ := Aside0.mk ((q5_ : gb184 ≠ gb182)); have n8_ := Aside0.mk ((q16_ : gb183 ≠ gb184)); have n9_ := Aside0.mk ((q17_ : gb184 ≠ gb183)); clear BK182; clear BK183; clear HB; have BK182 := n0_; have BK183 := n1_; have HB := n2_; have BK184 := n3_; have GW184 := n4_; have GE184 := n5_; have NB182_184 := n6_; have NB184_182 := n7_; have NB183_184 := n8_; have NB184_183 := n9_; clear n0_ n1_ n2_ n3_ n4_ n5_ n6_ n7_ n8_ n9_; clear hb hbox hg; have hnb12 := NB182_183.out; have hnc12 := NB183_182.out; have hnb13 := NB182_184.out; have hnc13 := NB184_182.out; have hcz14_0 : w11.cell? ⟨gb182, 0, none⟩ = some (.int .i64 a0_0) := (blk_cell BK182.out 0).trans rfl; have hcz14_1 : w11.cell? ⟨gb182, 1, none⟩ = some (.int .i64 a0_1) := (blk_cell BK182.out 1).trans rfl; have hcz14_2 : w11.cell? ⟨gb182, 2, none⟩ = some (.int .i64 a0_2) := (blk_cell BK182.out 2).trans rfl; have hcz14_3 : w11.cell? ⟨gb182, 3, none⟩ = some (.slice A0_3 l0_3.length c0_3) := (blk_cell BK182.out 3).trans rfl; have hfz14_0 := blk_frozen BK182.out 0; have hfz14_1 := blk_frozen BK182.out 1; have hfz14_2 := blk_frozen BK182.out 2; have hfz14_3 := blk_frozen BK182.out 3) | ((with_reducible refine gate_callee (f := 29) rfl ?_); refine goesL_ (some 22) rfl rfl Try.func29 (by kernel_rfl) rfl #[.agg #[.int .i64 a0_0, .int .i64 a0_1, .int .i64 a0_2, .slice A0_3 l0_3.length c0_3]] rfl q80_ ?_; (with_reducible refine (integral_check.calls k a0_0 a0_1 a0_2 _ _ l0_3 t185 _ ?side1 ?side2 A6.out).mono ?_); (case side1 => repeat (first | exact (Kd.C_below HR0_3.out HB.out) | (with_reducible refine Kd.C_alloc ?_ _) | (with_reducible refine Kd.C_drewN ?_ _) | (with_reducible refine Kd.C_drew ?_))); (case side2 => exact HC0_3.out); rintro e w15 ⟨rfl, hb⟩; refine ⟨_, rfl, ?_⟩; have n0_ := Aside0.mk (blk_below (g := gb182) (o := .cells #[.int .i64 a0_0, .int .i64 a0_1, .int .i64 a0_2, .slice A0_3 l0_3.length c0_3] 26 (0, 0)) q97_ hb); have n1_ := Aside0.mk (blk_below (g := gb183) (o := .cells #[.int .i64 a1_0, .int .i64 a1_1, .int .i64 a1_2, .int .i64 a1_3] 32 (0, 0)) q98_ hb); have n2_ := Aside0.mk (blk_below (g := gb184) (o := .cells #[.int .i64 0, .int .i64 0, .int .i64 0, .slice none 0 0] 26 (0, 0)) q99_ hb); have n3_ := Aside0.mk (below_step q34_ hb); clear BK182; clear BK183; clear BK184; clear HB; have BK182 := n0_; have BK183 := n1_; have BK184 := n2_; have HB := n3_; clear n0_ n1_ n2_ n3_; (try clear hb); (try clear hb2); (try clear hk); (try clear hi)))
    (try simp only [Act.put, List.setIfInBounds_toArray, List.set_cons_zero, List.set_cons_succ])
    go_cut [58] (fun v58 wc => ∃ (kq : Nat) (x58_7 : Bool), v58 = .bool x58_7 ∧ Aside0 (integral_Tile.j0 kq l2 l3 a4 x58_7 a0_0 a0_1 a0_2 l0_3 a1_0 a1_1 a1_2 a1_3 = some (r1, r2, r3, r4, r5)) ∧ Aside0 (kq ≤ k) ∧ Aside0 (wc.heap[gb182]? = some (.cells #[.int .i64 a0_0, .int .i64 a0_1, .int .i64 a0_2, (.slice A0_3 l0_3.length c0_3)] 26 (0, 0))) ∧ Aside0 (wc.heap[gb183]? = some (.cells #[.int .i64 a1_0, .int .i64 a1_1, .int .i64 a1_2, .int .i64 a1_3] 32 (0, 0))) ∧ Aside0 (wc.heap[gb184]? = some (.cells #[.int .i64 0, .int .i64 0, .int .i64 0, (.slice none 0 0)] 26 (0, 0))) ∧ Aside0 (Below w.heap.size w wc))
    case first =>
      have H := HC8.out
      clear HC8
      replace H := Option.bind_eq_some_iff.mp H
      obtain ⟨t186, A160, H⟩ := H
      replace H : (if t186 = true then (integral_Tile.j0 k l2 l3 a4 true a0_0 a0_1 a0_2 l0_3 a1_0 a1_1 a1_2 a1_3) else ((rect_Inside.f k a1_0 a1_1 a1_2 a1_3 0 0 a0_0 a0_1).bind fun t187 => (if t187 = true then (if (l2.length : Int) = (wrap64 (a1_3 - a1_1)) then (integral_Tile.j0 k l2 l3 a4 ((l3.length : Int) != (wrap64 (a1_2 - a1_0))) a0_0 a0_1 a0_2 l0_3 a1_0 a1_1 a1_2 a1_3) else (integral_Tile.j0 k l2 l3 a4 true a0_0 a0_1 a0_2 l0_3 a1_0 a1_1 a1_2 a1_3)) else (integral_Tile.j0 k l2 l3 a4 true a0_0 a0_1 a0_2 l0_3 a1_0 a1_1 a1_2 a1_3)))) = some (r1, r2, r3, r4, r5) := H
      have A16 := Aside0.mk A160
      clear A160
      by_cases c17 : t186 = true
      · subst c17
        have H1 : (integral_Tile.j0 k l2 l3 a4 true a0_0 a0_1 a0_2 l0_3 a1_0 a1_1 a1_2 a1_3) = some (r1, r2, r3, r4, r5) := by rw [if_pos rfl] at H; exact H
        clear H
        have H := H1
        clear H1
        have H' := Aside0.mk H
        clear H
        have hnb18 := NB183_182.out
        have hnc18 := NB182_183.out
        have hnb19 := NB183_184.out
        have hnc19 := NB184_183.out
        have hcz20_0 : w15.cell? ⟨gb183, 0, none⟩ = some (.int .i64 a1_0) := (blk_cell BK183.out 0).trans rfl
        have hcz20_1 : w15.cell? ⟨gb183, 1, none⟩ = some (.int .i64 a1_1) := (blk_cell BK183.out 1).trans rfl
        have hcz20_2 : w15.cell? ⟨gb183, 2, none⟩ = some (.int .i64 a1_2) := (blk_cell BK183.out 2).trans rfl
        have hcz20_3 : w15.cell? ⟨gb183, 3, none⟩ = some (.int .i64 a1_3) := (blk_cell BK183.out 3).trans rfl
        have hfz20_0 := blk_frozen BK183.out 0
        have hfz20_1 := blk_frozen BK183.out 1
        have hfz20_2 := blk_frozen BK183.out 2
        have hfz20_3 := blk_frozen BK183.out 3
        go_wp2_with (first | ((with_reducible refine gate_callee (f := 32) rfl ?_); refine goesL_ (some 28) rfl rfl Try.func32 (by kernel_rfl) rfl #[.agg #[.int .i64 a1_0, .int .i64 a1_1, .int .i64 a1_2, .int .i64 a1_3]] rfl q80_ ?_; (with_reducible refine (rect_Empty.calls a1_0 a1_1 a1_2 a1_3 true _ A16.out).mono ?_); rintro e w21 ⟨rfl, hb⟩; refine ⟨_, rfl, ?_⟩; have n0_ := Aside0.mk (blk_below (g := gb182) (o := .cells #[.int .i64 a0_0, .int .i64 a0_1, .int .i64 a0_2, .slice A0_3 l0_3.length c0_3] 26 (0, 0)) q97_ hb); have n1_ := Aside0.mk (blk_below (g := gb183) (o := .cells #[.int .i64 a1_0, .int .i64 a1_1, .int .i64 a1_2, .int .i64 a1_3] 32 (0, 0)) q98_ hb); have n2_ := Aside0.mk (blk_below (g := gb184) (o := .cells #[.int .i64 0, .int .i64 0, .int .i64 0, .slice none 0 0] 26 (0, 0)) q99_ hb); have n3_ := Aside0.mk (below_step q34_ hb); clear BK182; clear BK183; clear BK184; clear HB; have BK182 := n0_; have BK183 := n1_; have BK184 := n2_; have HB := n3_; clear n0_ n1_ n2_ n3_; (try clear hb); (try clear hb2); (try clear hk); (try clear hi)))
        go_meet
        case rel => exact ⟨_, (true), q130_, H', ⟨by first | omega | exact Nat.le_refl _⟩, ⟨q97_⟩, ⟨q98_⟩, ⟨q99_⟩, ⟨q34_⟩⟩
      · replace c17 := Bool.eq_false_iff.mpr c17
        subst c17
        have H1 : ((rect_Inside.f k a1_0 a1_1 a1_2 a1_3 0 0 a0_0 a0_1).bind fun t187 => (if t187 = true then (if (l2.length : Int) = (wrap64 (a1_3 - a1_1)) then (integral_Tile.j0 k l2 l3 a4 ((l3.length : Int) != (wrap64 (a1_2 - a1_0))) a0_0 a0_1 a0_2 l0_3 a1_0 a1_1 a1_2 a1_3) else (integral_Tile.j0 k l2 l3 a4 true a0_0 a0_1 a0_2 l0_3 a1_0 a1_1 a1_2 a1_3)) else (integral_Tile.j0 k l2 l3 a4 true a0_0 a0_1 a0_2 l0_3 a1_0 a1_1 a1_2 a1_3))) = some (r1, r2, r3, r4, r5) := by rw [if_neg (show ¬ (false = true) by decide)] at H; exact H
        clear H
        have H := H1
        clear H1
        replace H := Option.bind_eq_some_iff.mp H
        obtain ⟨t187, A220, H⟩ := H
        replace H : (if t187 = true then (if (l2.length : Int) = (wrap64 (a1_3 - a1_1)) then (integral_Tile.j0 k l2 l3 a4 ((l3.length : Int) != (wrap64 (a1_2 - a1_0))) a0_0 a0_1 a0_2 l0_3 a1_0 a1_1 a1_2 a1_3) else (integral_Tile.j0 k l2 l3 a4 true a0_0 a0_1 a0_2 l0_3 a1_0 a1_1 a1_2 a1_3)) else (integral_Tile.j0 k l2 l3 a4 true a0_0 a0_1 a0_2 l0_3 a1_0 a1_1 a1_2 a1_3)) = some (r1, r2, r3, r4, r5) := H
        have A22 := Aside0.mk A220
        clear A220
        by_cases c23 : t187 = true
        · subst c23
          have H1 : (if (l2.length : Int) = (wrap64 (a1_3 - a1_1)) then (integral_Tile.j0 k l2 l3 a4 ((l3.length : Int) != (wrap64 (a1_2 - a1_0))) a0_0 a0_1 a0_2 l0_3 a1_0 a1_1 a1_2 a1_3) else (integral_Tile.j0 k l2 l3 a4 true a0_0 a0_1 a0_2 l0_3 a1_0 a1_1 a1_2 a1_3)) = some (r1, r2, r3, r4, r5) := by rw [if_pos rfl] at H; exact H
          clear H
          have H := H1
          clear H1
          by_cases c24 : (l2.length : Int) = (wrap64 (a1_3 - a1_1))
          · rw [if_pos c24] at H
            have c24b0 : ((l2.length : Int) == (wrap64 (a1_3 - a1_1))) = true := beq_iff_eq.mpr c24
            have c24b1 : ((l2.length : Int) != (wrap64 (a1_3 - a1_1))) = false := bne_eq_false_iff_eq.mpr c24
            clear c24
            (first | rw [c24b0] | (simp only [i64_w, i32_w]; rw [c24b0]) | skip)
            have H' := Aside0.mk H
            clear H
            have hnb25 := NB183_182.out
            have hnc25 := NB182_183.out
            have hnb26 := NB183_184.out
            have hnc26 := NB184_183.out
            have hcz27_0 : w15.cell? ⟨gb183, 0, none⟩ = some (.int .i64 a1_0) := (blk_cell BK183.out 0).trans rfl
            have hcz27_1 : w15.cell? ⟨gb183, 1, none⟩ = some (.int .i64 a1_1) := (blk_cell BK183.out 1).trans rfl
            have hcz27_2 : w15.cell? ⟨gb183, 2, none⟩ = some (.int .i64 a1_2) := (blk_cell BK183.out 2).trans rfl
            have hcz27_3 : w15.cell? ⟨gb183, 3, none⟩ = some (.int .i64 a1_3) := (blk_cell BK183.out 3).trans rfl
            have hfz27_0 := blk_frozen BK183.out 0
            have hfz27_1 := blk_frozen BK183.out 1
            have hfz27_2 := blk_frozen BK183.out 2
            have hfz27_3 := blk_frozen BK183.out 3
            go_wp2_with (first | ((with_reducible refine gate_callee (f := 32) rfl ?_); refine goesL_ (some 28) rfl rfl Try.func32 (by kernel_rfl) rfl #[.agg #[.int .i64 a1_0, .int .i64 a1_1, .int .i64 a1_2, .int .i64 a1_3]] rfl q80_ ?_; (with_reducible refine (rect_Empty.calls a1_0 a1_1 a1_2 a1_3 false _ A16.out).mono ?_); rintro e w28 ⟨rfl, hb⟩; refine ⟨_, rfl, ?_⟩; have n0_ := Aside0.mk (blk_below (g := gb182) (o := .cells #[.int .i64 a0_0, .int .i64 a0_1, .int .i64 a0_2, .slice A0_3 l0_3.length c0_3] 26 (0, 0)) q97_ hb); have n1_ := Aside0.mk (blk_below (g := gb183) (o := .cells #[.int .i64 a1_0, .int .i64 a1_1, .int .i64 a1_2, .int .i64 a1_3] 32 (0, 0)) q98_ hb); have n2_ := Aside0.mk (blk_below (g := gb184) (o := .cells #[.int .i64 0, .int .i64 0, .int .i64 0, .slice none 0 0] 26 (0, 0)) q99_ hb); have n3_ := Aside0.mk (below_step q34_ hb); clear BK182; clear BK183; clear BK184; clear HB; have BK182 := n0_; have BK183 := n1_; have BK184 := n2_; have HB := n3_; clear n0_ n1_ n2_ n3_; (try clear hb); (try clear hb2); (try clear hk); (try clear hi); have hcz29_0 : w28.cell? ⟨gb183, 0, none⟩ = some (.int .i64 a1_0) := (blk_cell BK183.out 0).trans rfl; have hcz29_1 : w28.cell? ⟨gb183, 1, none⟩ = some (.int .i64 a1_1) := (blk_cell BK183.out 1).trans rfl; have hcz29_2 : w28.cell? ⟨gb183, 2, none⟩ = some (.int .i64 a1_2) := (blk_cell BK183.out 2).trans rfl; have hcz29_3 : w28.cell? ⟨gb183, 3, none⟩ = some (.int .i64 a1_3) := (blk_cell BK183.out 3).trans rfl; have hfz29_0 := blk_frozen BK183.out 0; have hfz29_1 := blk_frozen BK183.out 1; have hfz29_2 := blk_frozen BK183.out 2; have hfz29_3 := blk_frozen BK183.out 3; have hnb30 := NB182_184.out; have hnc30 := NB184_182.out; have hcz31_0 : w28.cell? ⟨gb182, 0, none⟩ = some (.int .i64 a0_0) := (blk_cell BK182.out 0).trans rfl; have hcz31_1 : w28.cell? ⟨gb182, 1, none⟩ = some (.int .i64 a0_1) := (blk_cell BK182.out 1).trans rfl; have hcz31_2 : w28.cell? ⟨gb182, 2, none⟩ = some (.int .i64 a0_2) := (blk_cell BK182.out 2).trans rfl; have hcz31_3 : w28.cell? ⟨gb182, 3, none⟩ = some (.slice A0_3 l0_3.length c0_3) := (blk_cell BK182.out 3).trans rfl; have hfz31_0 := blk_frozen BK182.out 0; have hfz31_1 := blk_frozen BK182.out 1; have hfz31_2 := blk_frozen BK182.out 2; have hfz31_3 := blk_frozen BK182.out 3) | (go_at_call 33; (with_reducible refine (rect_Inside.calls k a1_0 a1_1 a1_2 a1_3 0 0 a0_0 a0_1 true _ A22.out).mono ?_); rintro e w32 ⟨rfl, hb⟩; have n0_ := Aside0.mk (blk_below (g := gb182) (o := .cells #[.int .i64 a0_0, .int .i64 a0_1, .int .i64 a0_2, .slice A0_3 l0_3.length c0_3] 26 (0, 0)) q97_ hb); have n1_ := Aside0.mk (blk_below (g := gb183) (o := .cells #[.int .i64 a1_0, .int .i64 a1_1, .int .i64 a1_2, .int .i64 a1_3] 32 (0, 0)) q98_ hb); have n2_ := Aside0.mk (blk_below (g := gb184) (o := .cells #[.int .i64 0, .int .i64 0, .int .i64 0, .slice none 0 0] 26 (0, 0)) q99_ hb); have n3_ := Aside0.mk (below_step q34_ hb); clear BK182; clear BK183; clear BK184; clear HB; have BK182 := n0_; have BK183 := n1_; have BK184 := n2_; have HB := n3_; clear n0_ n1_ n2_ n3_; (try clear hb); (try clear hb2); (try clear hk); (try clear hi); have hcz33_0 : w32.cell? ⟨gb183, 0, none⟩ = some (.int .i64 a1_0) := (blk_cell BK183.out 0).trans rfl; have hcz33_1 : w32.cell? ⟨gb183, 1, none⟩ = some (.int .i64 a1_1) := (blk_cell BK183.out 1).trans rfl; have hcz33_2 : w32.cell? ⟨gb183, 2, none⟩ = some (.int .i64 a1_2) := (blk_cell BK183.out 2).trans rfl; have hcz33_3 : w32.cell? ⟨gb183, 3, none⟩ = some (.int .i64 a1_3) := (blk_cell BK183.out 3).trans rfl; have hfz33_0 := blk_frozen BK183.out 0; have hfz33_1 := blk_frozen BK183.out 1; have hfz33_2 := blk_frozen BK183.out 2; have hfz33_3 := blk_frozen BK183.out 3))
            go_meet
            case rel => exact ⟨_, (((l3.length : Int) != (wrap64 (a1_2 - a1_0)))), q130_, H', ⟨by first | omega | exact Nat.le_refl _⟩, ⟨q97_⟩, ⟨q98_⟩, ⟨q99_⟩, ⟨q34_⟩⟩
          · rw [if_neg c24] at H
            have c24b0 : ((l2.length : Int) == (wrap64 (a1_3 - a1_1))) = false := beq_eq_false_iff_ne.mpr c24
            have c24b1 : ((l2.length : Int) != (wrap64 (a1_3 - a1_1))) = true := bne_iff_ne.mpr c24
            (first | rw [c24b0] | (simp only [i64_w, i32_w]; rw [c24b0]) | skip)
            have H' := Aside0.mk H
            clear H
            have hnb34 := NB183_182.out
            have hnc34 := NB182_183.out
            have hnb35 := NB183_184.out
            have hnc35 := NB184_183.out
            have hcz36_0 : w15.cell? ⟨gb183, 0, none⟩ = some (.int .i64 a1_0) := (blk_cell BK183.out 0).trans rfl
            have hcz36_1 : w15.cell? ⟨gb183, 1, none⟩ = some (.int .i64 a1_1) := (blk_cell BK183.out 1).trans rfl
            have hcz36_2 : w15.cell? ⟨gb183, 2, none⟩ = some (.int .i64 a1_2) := (blk_cell BK183.out 2).trans rfl
            have hcz36_3 : w15.cell? ⟨gb183, 3, none⟩ = some (.int .i64 a1_3) := (blk_cell BK183.out 3).trans rfl
            have hfz36_0 := blk_frozen BK183.out 0
            have hfz36_1 := blk_frozen BK183.out 1
            have hfz36_2 := blk_frozen BK183.out 2
            have hfz36_3 := blk_frozen BK183.out 3
            go_wp2_with (first | ((with_reducible refine gate_callee (f := 32) rfl ?_); refine goesL_ (some 28) rfl rfl Try.func32 (by kernel_rfl) rfl #[.agg #[.int .i64 a1_0, .int .i64 a1_1, .int .i64 a1_2, .int .i64 a1_3]] rfl q80_ ?_; (with_reducible refine (rect_Empty.calls a1_0 a1_1 a1_2 a1_3 false _ A16.out).mono ?_); rintro e w37 ⟨rfl, hb⟩; refine ⟨_, rfl, ?_⟩; have n0_ := Aside0.mk (blk_below (g := gb182) (o := .cells #[.int .i64 a0_0, .int .i64 a0_1, .int .i64 a0_2, .slice A0_3 l0_3.length c0_3] 26 (0, 0)) q97_ hb); have n1_ := Aside0.mk (blk_below (g := gb183) (o := .cells #[.int .i64 a1_0, .int .i64 a1_1, .int .i64 a1_2, .int .i64 a1_3] 32 (0, 0)) q98_ hb); have n2_ := Aside0.mk (blk_below (g := gb184) (o := .cells #[.int .i64 0, .int .i64 0, .int .i64 0, .slice none 0 0] 26 (0, 0)) q99_ hb); have n3_ := Aside0.mk (below_step q34_ hb); clear BK182; clear BK183; clear BK184; clear HB; have BK182 := n0_; have BK183 := n1_; have BK184 := n2_; have HB := n3_; clear n0_ n1_ n2_ n3_; (try clear hb); (try clear hb2); (try clear hk); (try clear hi); have hcz38_0 : w37.cell? ⟨gb183, 0, none⟩ = some (.int .i64 a1_0) := (blk_cell BK183.out 0).trans rfl; have hcz38_1 : w37.cell? ⟨gb183, 1, none⟩ = some (.int .i64 a1_1) := (blk_cell BK183.out 1).trans rfl; have hcz38_2 : w37.cell? ⟨gb183, 2, none⟩ = some (.int .i64 a1_2) := (blk_cell BK183.out 2).trans rfl; have hcz38_3 : w37.cell? ⟨gb183, 3, none⟩ = some (.int .i64 a1_3) := (blk_cell BK183.out 3).trans rfl; have hfz38_0 := blk_frozen BK183.out 0; have hfz38_1 := blk_frozen BK183.out 1; have hfz38_2 := blk_frozen BK183.out 2; have hfz38_3 := blk_frozen BK183.out 3; have hnb39 := NB182_184.out; have hnc39 := NB184_182.out; have hcz40_0 : w37.cell? ⟨gb182, 0, none⟩ = some (.int .i64 a0_0) := (blk_cell BK182.out 0).trans rfl; have hcz40_1 : w37.cell? ⟨gb182, 1, none⟩ = some (.int .i64 a0_1) := (blk_cell BK182.out 1).trans rfl; have hcz40_2 : w37.cell? ⟨gb182, 2, none⟩ = some (.int .i64 a0_2) := (blk_cell BK182.out 2).trans rfl; have hcz40_3 : w37.cell? ⟨gb182, 3, none⟩ = some (.slice A0_3 l0_3.length c0_3) := (blk_cell BK182.out 3).trans rfl; have hfz40_0 := blk_frozen BK182.out 0; have hfz40_1 := blk_frozen BK182.out 1; have hfz40_2 := blk_frozen BK182.out 2; have hfz40_3 := blk_frozen BK182.out 3) | (go_at_call 33; (with_reducible refine (rect_Inside.calls k a1_0 a1_1 a1_2 a1_3 0 0 a0_0 a0_1 true _ A22.out).mono ?_); rintro e w41 ⟨rfl, hb⟩; have n0_ := Aside0.mk (blk_below (g := gb182) (o := .cells #[.int .i64 a0_0, .int .i64 a0_1, .int .i64 a0_2, .slice A0_3 l0_3.length c0_3] 26 (0, 0)) q97_ hb); have n1_ := Aside0.mk (blk_below (g := gb183) (o := .cells #[.int .i64 a1_0, .int .i64 a1_1, .int .i64 a1_2, .int .i64 a1_3] 32 (0, 0)) q98_ hb); have n2_ := Aside0.mk (blk_below (g := gb184) (o := .cells #[.int .i64 0, .int .i64 0, .int .i64 0, .slice none 0 0] 26 (0, 0)) q99_ hb); have n3_ := Aside0.mk (below_step q34_ hb); clear BK182; clear BK183; clear BK184; clear HB; have BK182 := n0_; have BK183 := n1_; have BK184 := n2_; have HB := n3_; clear n0_ n1_ n2_ n3_; (try clear hb); (try clear hb2); (try clear hk); (try clear hi); have hcz42_0 : w41.cell? ⟨gb183, 0, none⟩ = some (.int .i64 a1_0) := (blk_cell BK183.out 0).trans rfl; have hcz42_1 : w41.cell? ⟨gb183, 1, none⟩ = some (.int .i64 a1_1) := (blk_cell BK183.out 1).trans rfl; have hcz42_2 : w41.cell? ⟨gb183, 2, none⟩ = some (.int .i64 a1_2) := (blk_cell BK183.out 2).trans rfl; have hcz42_3 : w41.cell? ⟨gb183, 3, none⟩ = some (.int .i64 a1_3) := (blk_cell BK183.out 3).trans rfl; have hfz42_0 := blk_frozen BK183.out 0; have hfz42_1 := blk_frozen BK183.out 1; have hfz42_2 := blk_frozen BK183.out 2; have hfz42_3 := blk_frozen BK183.out 3))
            go_meet
            case rel => exact ⟨_, (true), q130_, H', ⟨by first | omega | exact Nat.le_refl _⟩, ⟨q97_⟩, ⟨q98_⟩, ⟨q99_⟩, ⟨q34_⟩⟩
        · replace c23 := Bool.eq_false_iff.mpr c23
          subst c23
          have H1 : (integral_Tile.j0 k l2 l3 a4 true a0_0 a0_1 a0_2 l0_3 a1_0 a1_1 a1_2 a1_3) = some (r1, r2, r3, r4, r5) := by rw [if_neg (show ¬ (false = true) by decide)] at H; exact H
          clear H
          have H := H1
          clear H1
          have H' := Aside0.mk H
          clear H
          have hnb43 := NB183_182.out
          have hnc43 := NB182_183.out
          have hnb44 := NB183_184.out
          have hnc44 := NB184_183.out
          have hcz45_0 : w15.cell? ⟨gb183, 0, none⟩ = some (.int .i64 a1_0) := (blk_cell BK183.out 0).trans rfl
          have hcz45_1 : w15.cell? ⟨gb183, 1, none⟩ = some (.int .i64 a1_1) := (blk_cell BK183.out 1).trans rfl
          have hcz45_2 : w15.cell? ⟨gb183, 2, none⟩ = some (.int .i64 a1_2) := (blk_cell BK183.out 2).trans rfl
          have hcz45_3 : w15.cell? ⟨gb183, 3, none⟩ = some (.int .i64 a1_3) := (blk_cell BK183.out 3).trans rfl
          have hfz45_0 := blk_frozen BK183.out 0
          have hfz45_1 := blk_frozen BK183.out 1
          have hfz45_2 := blk_frozen BK183.out 2
          have hfz45_3 := blk_frozen BK183.out 3
          go_wp2_with (first | ((with_reducible refine gate_callee (f := 32) rfl ?_); refine goesL_ (some 28) rfl rfl Try.func32 (by kernel_rfl) rfl #[.agg #[.int .i64 a1_0, .int .i64 a1_1, .int .i64 a1_2, .int .i64 a1_3]] rfl q80_ ?_; (with_reducible refine (rect_Empty.calls a1_0 a1_1 a1_2 a1_3 false _ A16.out).mono ?_); rintro e w46 ⟨rfl, hb⟩; refine ⟨_, rfl, ?_⟩; have n0_ := Aside0.mk (blk_below (g := gb182) (o := .cells #[.int .i64 a0_0, .int .i64 a0_1, .int .i64 a0_2, .slice A0_3 l0_3.length c0_3] 26 (0, 0)) q97_ hb); have n1_ := Aside0.mk (blk_below (g := gb183) (o := .cells #[.int .i64 a1_0, .int .i64 a1_1, .int .i64 a1_2, .int .i64 a1_3] 32 (0, 0)) q98_ hb); have n2_ := Aside0.mk (blk_below (g := gb184) (o := .cells #[.int .i64 0, .int .i64 0, .int .i64 0, .slice none 0 0] 26 (0, 0)) q99_ hb); have n3_ := Aside0.mk (below_step q34_ hb); clear BK182; clear BK183; clear BK184; clear HB; have BK182 := n0_; have BK183 := n1_; have BK184 := n2_; have HB := n3_; clear n0_ n1_ n2_ n3_; (try clear hb); (try clear hb2); (try clear hk); (try clear hi); have hcz47_0 : w46.cell? ⟨gb183, 0, none⟩ = some (.int .i64 a1_0) := (blk_cell BK183.out 0).trans rfl; have hcz47_1 : w46.cell? ⟨gb183, 1, none⟩ = some (.int .i64 a1_1) := (blk_cell BK183.out 1).trans rfl; have hcz47_2 : w46.cell? ⟨gb183, 2, none⟩ = some (.int .i64 a1_2) := (blk_cell BK183.out 2).trans rfl; have hcz47_3 : w46.cell? ⟨gb183, 3, none⟩ = some (.int .i64 a1_3) := (blk_cell BK183.out 3).trans rfl; have hfz47_0 := blk_frozen BK183.out 0; have hfz47_1 := blk_frozen BK183.out 1; have hfz47_2 := blk_frozen BK183.out 2; have hfz47_3 := blk_frozen BK183.out 3; have hnb48 := NB182_184.out; have hnc48 := NB184_182.out; have hcz49_0 : w46.cell? ⟨gb182, 0, none⟩ = some (.int .i64 a0_0) := (blk_cell BK182.out 0).trans rfl; have hcz49_1 : w46.cell? ⟨gb182, 1, none⟩ = some (.int .i64 a0_1) := (blk_cell BK182.out 1).trans rfl; have hcz49_2 : w46.cell? ⟨gb182, 2, none⟩ = some (.int .i64 a0_2) := (blk_cell BK182.out 2).trans rfl; have hcz49_3 : w46.cell? ⟨gb182, 3, none⟩ = some (.slice A0_3 l0_3.length c0_3) := (blk_cell BK182.out 3).trans rfl; have hfz49_0 := blk_frozen BK182.out 0; have hfz49_1 := blk_frozen BK182.out 1; have hfz49_2 := blk_frozen BK182.out 2; have hfz49_3 := blk_frozen BK182.out 3) | (go_at_call 33; (with_reducible refine (rect_Inside.calls k a1_0 a1_1 a1_2 a1_3 0 0 a0_0 a0_1 false _ A22.out).mono ?_); rintro e w50 ⟨rfl, hb⟩; have n0_ := Aside0.mk (blk_below (g := gb182) (o := .cells #[.int .i64 a0_0, .int .i64 a0_1, .int .i64 a0_2, .slice A0_3 l0_3.length c0_3] 26 (0, 0)) q97_ hb); have n1_ := Aside0.mk (blk_below (g := gb183) (o := .cells #[.int .i64 a1_0, .int .i64 a1_1, .int .i64 a1_2, .int .i64 a1_3] 32 (0, 0)) q98_ hb); have n2_ := Aside0.mk (blk_below (g := gb184) (o := .cells #[.int .i64 0, .int .i64 0, .int .i64 0, .slice none 0 0] 26 (0, 0)) q99_ hb); have n3_ := Aside0.mk (below_step q34_ hb); clear BK182; clear BK183; clear BK184; clear HB; have BK182 := n0_; have BK183 := n1_; have BK184 := n2_; have HB := n3_; clear n0_ n1_ n2_ n3_; (try clear hb); (try clear hb2); (try clear hk); (try clear hi)))
          go_meet
          case rel => exact ⟨_, (true), q130_, H', ⟨by first | omega | exact Nat.le_refl _⟩, ⟨q97_⟩, ⟨q98_⟩, ⟨q99_⟩, ⟨q34_⟩⟩
    case rest =>
      clear HC8
      try clear c1
      try clear c2
      try clear p2
      try clear c3
      try clear c4
      try clear p6
      try clear c7
      try clear c7b0
      try clear c7b1
      try clear c12
      try clear c13
      try clear c17
      try clear c18
      try clear c19
      try clear c22
      try clear c23
      try clear c24
      try clear c24b0
      try clear c24b1
      try clear c25
      try clear c26
      try clear c29
      try clear c30
      try clear c32
      try clear c34
      try clear c35
      try clear c39
      try clear c43
      try clear c44
      try clear c48
      try clear hcz14_0
      try clear hcz14_1
      try clear hcz14_2
      try clear hcz14_3
      try clear hcz20_0
      try clear hcz20_1
      try clear hcz20_2
      try clear hcz20_3
      try clear hcz27_0
      try clear hcz27_1
      try clear hcz27_2
      try clear hcz27_3
      try clear hcz29_0
      try clear hcz29_1
      try clear hcz29_2
      try clear hcz29_3
      try clear hcz31_0
      try clear hcz31_1
      try clear hcz31_2
      try clear hcz31_3
      try clear hcz33_0
      try clear hcz33_1
      try clear hcz33_2
      try clear hcz33_3
      try clear hcz36_0
      try clear hcz36_1
      try clear hcz36_2
      try clear hcz36_3
      try clear hcz38_0
      try clear hcz38_1
      try clear hcz38_2
      try clear hcz38_3
      try clear hcz40_0
      try clear hcz40_1
      try clear hcz40_2
      try clear hcz40_3
      try clear hcz42_0
      try clear hcz42_1
      try clear hcz42_2
      try clear hcz42_3
      try clear hcz45_0
      try clear hcz45_1
      try clear hcz45_2
      try clear hcz45_3
      try clear hcz47_0
      try clear hcz47_1
      try clear hcz47_2
      try clear hcz47_3
      try clear hcz49_0
      try clear hcz49_1
      try clear hcz49_2
      try clear hcz49_3
      try clear hfz14_0
      try clear hfz14_1
      try clear hfz14_2
      try clear hfz14_3
      try clear hfz20_0
      try clear hfz20_1
      try clear hfz20_2
      try clear hfz20_3
      try clear hfz27_0
      try clear hfz27_1
      try clear hfz27_2
      try clear hfz27_3
      try clear hfz29_0
      try clear hfz29_1
      try clear hfz29_2
      try clear hfz29_3
      try clear hfz31_0
      try clear hfz31_1
      try clear hfz31_2
      try clear hfz31_3
      try clear hfz33_0
      try clear hfz33_1
      try clear hfz33_2
      try clear hfz33_3
      try clear hfz36_0
      try clear hfz36_1
      try clear hfz36_2
      try clear hfz36_3
      try clear hfz38_0
      try clear hfz38_1
      try clear hfz38_2
      try clear hfz38_3
      try clear hfz40_0
      try clear hfz40_1
      try clear hfz40_2
      try clear hfz40_3
      try clear hfz42_0
      try clear hfz42_1
      try clear hfz42_2
      try clear hfz42_3
      try clear hfz45_0
      try clear hfz45_1
      try clear hfz45_2
      try clear hfz45_3
      try clear hfz47_0
      try clear hfz47_1
      try clear hfz47_2
      try clear hfz47_3
      try clear hfz49_0
      try clear hfz49_1
      try clear hfz49_2
      try clear hfz49_3
      obtain ⟨kq, x58_7, rfl, HA, HJ7, BK182, BK183, BK184, HB⟩ := hcut
      cases kq with
      | zero => exact absurd HA.out (by simp [integral_Tile.j0])
      | succ kj7 =>
        have H := HA.out
        clear HA
        simp only [integral_Tile.j0] at H
        by_cases c51 : x58_7 = true
        · subst c51
          have H1 : (some (0, 0, 0, ([] : List Int), 8)) = some (r1, r2, r3, r4, r5) := by rw [if_pos rfl] at H; exact H
          clear H
          have H := H1
          clear H1
          simp only [Option.some.injEq, Prod.mk.injEq] at H
          obtain ⟨rfl, rfl, rfl, rfl, rfl⟩ := H
          have hnb52 := NB184_182.out
          have hnc52 := NB182_184.out
          have hnb53 := NB184_183.out
          have hnc53 := NB183_184.out
          have hcz54_0 : wc.cell? ⟨gb184, 0, none⟩ = some (.int .i64 0) := (blk_cell BK184.out 0).trans rfl
          have hcz54_1 : wc.cell? ⟨gb184, 1, none⟩ = some (.int .i64 0) := (blk_cell BK184.out 1).trans rfl
          have hcz54_2 : wc.cell? ⟨gb184, 2, none⟩ = some (.int .i64 0) := (blk_cell BK184.out 2).trans rfl
          have hcz54_3 : wc.cell? ⟨gb184, 3, none⟩ = some (.slice none 0 0) := (blk_cell BK184.out 3).trans rfl
          have hfz54_0 := blk_frozen BK184.out 0
          have hfz54_1 := blk_frozen BK184.out 1
          have hfz54_2 := blk_frozen BK184.out 2
          have hfz54_3 := blk_frozen BK184.out 3
          go_wp2
          refine bodyPost_ret (results_ct rfl _ _ gb184 26 #[.int .i64 0, .int .i64 0, .int .i64 0, .slice none 0 0] (0, 0) _ rfl q0_ Try.underlying26 rfl (by kernel_rfl)) rfl ?_
          exact ⟨_, q126_, q79_, q34_⟩
        · replace c51 := Bool.eq_false_iff.mpr c51
          subst c51
          have H1 : ((integral_shape.f a0_0 a0_1 a0_2 l0_3).bind fun bt188 => ((integral_most.f kj7 bt188.1 bt188.2.1 bt188.2.2).bind fun bt191 => ((integral_Tile_1.f kj7 (([a4] : List Int)) bt191.1).bind fun t197 => (if t197 = true then ((integral_Tile_1.f kj7 l2 bt191.1).bind fun t198 => (if t198 = true then ((integral_Tile_1.f kj7 l3 bt191.1).bind fun t199 => (integral_Tile.j1 kj7 l2 l3 a4 (!t199) a0_0 a0_1 a0_2 l0_3 a1_0 a1_1 a1_2 a1_3 bt191.1)) else (integral_Tile.j1 kj7 l2 l3 a4 true a0_0 a0_1 a0_2 l0_3 a1_0 a1_1 a1_2 a1_3 bt191.1))) else (integral_Tile.j1 kj7 l2 l3 a4 true a0_0 a0_1 a0_2 l0_3 a1_0 a1_1 a1_2 a1_3 bt191.1))))) = some (r1, r2, r3, r4, r5) := by rw [if_neg (show ¬ (false = true) by decide)] at H; exact H
          clear H
          have H := H1
          clear H1
          replace H := Option.bind_eq_some_iff.mp H
          obtain ⟨⟨t188, t189, t190⟩, A550, H⟩ := H
          replace H : ((integral_most.f kj7 t188 t189 t190).bind fun bt191 => ((integral_Tile_1.f kj7 (([a4] : List Int)) bt191.1).bind fun t197 => (if t197 = true then ((integral_Tile_1.f kj7 l2 bt191.1).bind fun t198 => (if t198 = true then ((integral_Tile_1.f kj7 l3 bt191.1).bind fun t199 => (integral_Tile.j1 kj7 l2 l3 a4 (!t199) a0_0 a0_1 a0_2 l0_3 a1_0 a1_1 a1_2 a1_3 bt191.1)) else (integral_Tile.j1 kj7 l2 l3 a4 true a0_0 a0_1 a0_2 l0_3 a1_0 a1_1 a1_2 a1_3 bt191.1))) else (integral_Tile.j1 kj7 l2 l3 a4 true a0_0 a0_1 a0_2 l0_3 a1_0 a1_1 a1_2 a1_3 bt191.1)))) = some (r1, r2, r3, r4, r5) := H
          have A55 := Aside0.mk A550
          clear A550
          replace H := Option.bind_eq_some_iff.mp H
          obtain ⟨⟨t191, t192⟩, A560, H⟩ := H
          replace H : ((integral_Tile_1.f kj7 (([a4] : List Int)) t191).bind fun t197 => (if t197 = true then ((integral_Tile_1.f kj7 l2 t191).bind fun t198 => (if t198 = true then ((integral_Tile_1.f kj7 l3 t191).bind fun t199 => (integral_Tile.j1 kj7 l2 l3 a4 (!t199) a0_0 a0_1 a0_2 l0_3 a1_0 a1_1 a1_2 a1_3 t191)) else (integral_Tile.j1 kj7 l2 l3 a4 true a0_0 a0_1 a0_2 l0_3 a1_0 a1_1 a1_2 a1_3 t191))) else (integral_Tile.j1 kj7 l2 l3 a4 true a0_0 a0_1 a0_2 l0_3 a1_0 a1_1 a1_2 a1_3 t191))) = some (r1, r2, r3, r4, r5) := H
          have A56 := Aside0.mk A560
          clear A560
          have HC57 := Aside0.mk H
          clear H
          have hnb58 := NB182_183.out
          have hnc58 := NB183_182.out
          have hnb59 := NB182_184.out
          have hnc59 := NB184_182.out
          have hcz60_0 : wc.cell? ⟨gb182, 0, none⟩ = some (.int .i64 a0_0) := (blk_cell BK182.out 0).trans rfl
          have hcz60_1 : wc.cell? ⟨gb182, 1, none⟩ = some (.int .i64 a0_1) := (blk_cell BK182.out 1).trans rfl
          have hcz60_2 : wc.cell? ⟨gb182, 2, none⟩ = some (.int .i64 a0_2) := (blk_cell BK182.out 2).trans rfl
          have hcz60_3 : wc.cell? ⟨gb182, 3, none⟩ = some (.slice A0_3 l0_3.length c0_3) := (blk_cell BK182.out 3).trans rfl
          have hfz60_0 := blk_frozen BK182.out 0
          have hfz60_1 := blk_frozen BK182.out 1
          have hfz60_2 := blk_frozen BK182.out 2
          have hfz60_3 := blk_frozen BK182.out 3
          go_upto_region 8 with (first | ((with_reducible refine gate_callee (f := 45) rfl ?_); refine goesL_ (some 62) rfl rfl Try.func45 (by kernel_rfl) rfl #[.agg #[.int .i64 a0_0, .int .i64 a0_1, .int .i64 a0_2, .slice A0_3 l0_3.length c0_3]] rfl q80_ ?_; (with_reducible refine (integral_shape.calls a0_0 a0_1 a0_2 _ _ l0_3 t188 t189 t190 _ ?side1 ?side2 A55.out).mono ?_); (case side1 => repeat (first | exact (Kd.C_below HR0_3.out HB.out) | (with_reducible refine Kd.C_alloc ?_ _) | (with_reducible refine Kd.C_drewN ?_ _) | (with_reducible refine Kd.C_drew ?_))); (case side2 => exact HC0_3.out); rintro e w61 ⟨rfl, hb⟩; refine ⟨_, rfl, ?_⟩; have n0_ := Aside0.mk (blk_below (g := gb182) (o := .cells #[.int .i64 a0_0, .int .i64 a0_1, .int .i64 a0_2, .slice A0_3 l0_3.length c0_3] 26 (0, 0)) q97_ hb); have n1_ := Aside0.mk (blk_below (g := gb183) (o := .cells #[.int .i64 a1_0, .int .i64 a1_1, .int .i64 a1_2, .int .i64 a1_3] 32 (0, 0)) q98_ hb); have n2_ := Aside0.mk (blk_below (g := gb184) (o := .cells #[.int .i64 0, .int .i64 0, .int .i64 0, .slice none 0 0] 26 (0, 0)) q99_ hb); have n3_ := Aside0.mk (below_step q34_ hb); clear BK182; clear BK183; clear BK184; clear HB; have BK182 := n0_; have BK183 := n1_; have BK184 := n2_; have HB := n3_; clear n0_ n1_ n2_ n3_; (try clear hb); (try clear hb2); (try clear hk); (try clear hi)) | ((with_reducible refine gate_callee (f := 35) rfl ?_); refine goesL_ (some 63) rfl rfl Try.func35 (by kernel_rfl) rfl #[.agg #[.int .i64 t188, .int .i64 t189, .int .i64 t190]] rfl q80_ ?_; (with_reducible refine (integral_most.calls kj7 t188 t189 t190 t191 t192 _ A56.out).mono ?_); rintro e w62 ⟨rfl, hb⟩; refine ⟨_, rfl, ?_⟩; have n0_ := Aside0.mk (blk_below (g := gb182) (o := .cells #[.int .i64 a0_0, .int .i64 a0_1, .int .i64 a0_2, .slice A0_3 l0_3.length c0_3] 26 (0, 0)) q97_ hb); have n1_ := Aside0.mk (blk_below (g := gb183) (o := .cells #[.int .i64 a1_0, .int .i64 a1_1, .int .i64 a1_2, .int .i64 a1_3] 32 (0, 0)) q98_ hb); have n2_ := Aside0.mk (blk_below (g := gb184) (o := .cells #[.int .i64 0, .int .i64 0, .int .i64 0, .slice none 0 0] 26 (0, 0)) q99_ hb); have n3_ := Aside0.mk (below_step q34_ hb); clear BK182; clear BK183; clear BK184; clear HB; have BK182 := n0_; have BK183 := n1_; have BK184 := n2_; have HB := n3_; clear n0_ n1_ n2_ n3_; (try clear hb); (try clear hb2); (try clear hk); (try clear hi)) | ((with_reducible refine gate_dst (N := 13) rfl ?_); (try (refine gate_guard (by rfl) ?_; dsimp only)); refine box_event ?hg (N := 13) ?hd (cs := #[.int .i64 0]) (t := 3) ?hr ?_; (case hd => rfl); (case hg => rfl); (case hr => first | (go_simp; done) | (go_simp; rfl)); intro gb193 hg w63 hbox hb; have n0_ := Aside0.mk (blk_below (g := gb182) (o := .cells #[.int .i64 a0_0, .int .i64 a0_1, .int .i64 a0_2, .slice A0_3 l0_3.length c0_3] 26 (0, 0)) q97_ hb); have n1_ := Aside0.mk (blk_below (g := gb183) (o := .cells #[.int .i64 a1_0, .int .i64 a1_1, .int .i64 a1_2, .int .i64 a1_3] 32 (0, 0)) q98_ hb); have n2_ := Aside0.mk (blk_below (g := gb184) (o := .cells #[.int .i64 0, .int .i64 0, .int .i64 0, .slice none 0 0] 26 (0, 0)) q99_ hb); have n3_ := Aside0.mk (below_step q34_ hb); have n4_ := Aside0.mk (hbox); have n5_ := Aside0.mk ((by rw [hg]; exact (below_size q34_) : w.heap.size ≤ gb193)); have n6_ := Aside0.mk ((by rw [hg]; exact (below_size q34_) : w.heap.size ≤ gb193)); have n7_ := Aside0.mk ((q4_ : gb182 ≠ gb193)); have n8_ := Aside0.mk ((q5_ : gb193 ≠ gb182)); have n9_ := Aside0.mk ((q16_ : gb183 ≠ gb193)); have n10_ := Aside0.mk ((q17_ : gb193 ≠ gb183)); have n11_ := Aside0.mk ((by rw [hg]; exact Nat.ne_of_lt (blk_lt (g := gb184) (o := .cells #[.int .i64 0, .int .i64 0, .int .i64 0, .slice none 0 0] 26 (0, 0)) q99_) : gb184 ≠ gb193)); have n12_ := Aside0.mk ((by rw [hg]; exact Nat.ne_of_gt (blk_lt (g := gb184) (o := .cells #[.int .i64 0, .int .i64 0, .int .i64 0, .slice none 0 0] 26 (0, 0)) q99_) : gb193 ≠ gb184)); clear BK182; clear BK183; clear BK184; clear HB; have BK182 := n0_; have BK183 := n1_; have BK184 := n2_; have HB := n3_; have BK193 := n4_; have GW193 := n5_; have GE193 := n6_; have NB182_193 := n7_; have NB193_182 := n8_; have NB183_193 := n9_; have NB193_183 := n10_; have NB184_193 := n11_; have NB193_184 := n12_; clear n0_ n1_ n2_ n3_ n4_ n5_ n6_ n7_ n8_ n9_ n10_ n11_ n12_; clear hb hbox hg; have hnb64 := NB193_182.out; have hnc64 := NB182_193.out; have hnb65 := NB193_183.out; have hnc65 := NB183_193.out; have hnb66 := NB193_184.out; have hnc66 := NB184_193.out; have hcz67_0 : w63.cell? ⟨gb193, 0, none⟩ = some (.int .i64 0) := (blk_cell BK193.out 0).trans rfl; have hfz67_0 := blk_frozen BK193.out 0))
          (try simp only [Act.put, List.setIfInBounds_toArray, List.set_cons_zero, List.set_cons_succ])
          go_cut [83] (fun v83 wc => ∃ (kq : Nat) (x83_56 : Bool), v83 = .bool x83_56 ∧ Aside0 (integral_Tile.j1 kq l2 l3 a4 x83_56 a0_0 a0_1 a0_2 l0_3 a1_0 a1_1 a1_2 a1_3 t191 = some (r1, r2, r3, r4, r5)) ∧ Aside0 (kq ≤ kj7) ∧ Aside0 (wc.heap[gb182]? = some (.cells #[.int .i64 a0_0, .int .i64 a0_1, .int .i64 a0_2, (.slice A0_3 l0_3.length c0_3)] 26 (0, 0))) ∧ Aside0 (wc.heap[gb183]? = some (.cells #[.int .i64 a1_0, .int .i64 a1_1, .int .i64 a1_2, .int .i64 a1_3] 32 (0, 0))) ∧ Aside0 (wc.heap[gb184]? = some (.cells #[.int .i64 0, .int .i64 0, .int .i64 0, (.slice none 0 0)] 26 (0, 0))) ∧ Aside0 (wc.heap[gb193]? = some (.cells #[.int .i64 t191] 3 (0, 0))) ∧ Aside0 (Below w.heap.size w wc))
          case first =>
            have H := HC57.out
            clear HC57
            obtain ⟨y194, hy194⟩ : ∃ y_ : List Int, y_ = (([a4] : List Int)) := ⟨_, rfl⟩
            replace H : ((integral_Tile_1.f kj7 y194 t191).bind fun t197 => (if t197 = true then ((integral_Tile_1.f kj7 l2 t191).bind fun t198 => (if t198 = true then ((integral_Tile_1.f kj7 l3 t191).bind fun t199 => (integral_Tile.j1 kj7 l2 l3 a4 (!t199) a0_0 a0_1 a0_2 l0_3 a1_0 a1_1 a1_2 a1_3 t191)) else (integral_Tile.j1 kj7 l2 l3 a4 true a0_0 a0_1 a0_2 l0_3 a1_0 a1_1 a1_2 a1_3 t191))) else (integral_Tile.j1 kj7 l2 l3 a4 true a0_0 a0_1 a0_2 l0_3 a1_0 a1_1 a1_2 a1_3 t191))) = some (r1, r2, r3, r4, r5) := by first | (rw [hy194]; with_reducible exact H) | (have H2_ := (Option.bind_some _ _).symm.trans H; rw [hy194]; with_reducible exact H2_) | (have H2_ := (Option.bind_some _ _).symm.trans H; with_reducible exact H2_) | with_reducible exact H | (rw [hy194]; exact H) | exact H
            have Ny194 := Aside0.mk hy194
            clear hy194
            replace H := Option.bind_eq_some_iff.mp H
            obtain ⟨t197, A680, H⟩ := H
            replace H : (if t197 = true then ((integral_Tile_1.f kj7 l2 t191).bind fun t198 => (if t198 = true then ((integral_Tile_1.f kj7 l3 t191).bind fun t199 => (integral_Tile.j1 kj7 l2 l3 a4 (!t199) a0_0 a0_1 a0_2 l0_3 a1_0 a1_1 a1_2 a1_3 t191)) else (integral_Tile.j1 kj7 l2 l3 a4 true a0_0 a0_1 a0_2 l0_3 a1_0 a1_1 a1_2 a1_3 t191))) else (integral_Tile.j1 kj7 l2 l3 a4 true a0_0 a0_1 a0_2 l0_3 a1_0 a1_1 a1_2 a1_3 t191)) = some (r1, r2, r3, r4, r5) := H
            have A68 := Aside0.mk A680
            clear A680
            by_cases c69 : t197 = true
            · subst c69
              have H1 : ((integral_Tile_1.f kj7 l2 t191).bind fun t198 => (if t198 = true then ((integral_Tile_1.f kj7 l3 t191).bind fun t199 => (integral_Tile.j1 kj7 l2 l3 a4 (!t199) a0_0 a0_1 a0_2 l0_3 a1_0 a1_1 a1_2 a1_3 t191)) else (integral_Tile.j1 kj7 l2 l3 a4 true a0_0 a0_1 a0_2 l0_3 a1_0 a1_1 a1_2 a1_3 t191))) = some (r1, r2, r3, r4, r5) := by rw [if_pos rfl] at H; exact H
              clear H
              have H := H1
              clear H1
              replace H := Option.bind_eq_some_iff.mp H
              obtain ⟨t198, A700, H⟩ := H
              replace H : (if t198 = true then ((integral_Tile_1.f kj7 l3 t191).bind fun t199 => (integral_Tile.j1 kj7 l2 l3 a4 (!t199) a0_0 a0_1 a0_2 l0_3 a1_0 a1_1 a1_2 a1_3 t191)) else (integral_Tile.j1 kj7 l2 l3 a4 true a0_0 a0_1 a0_2 l0_3 a1_0 a1_1 a1_2 a1_3 t191)) = some (r1, r2, r3, r4, r5) := H
              have A70 := Aside0.mk A700
              clear A700
              by_cases c71 : t198 = true
              · subst c71
                have H1 : ((integral_Tile_1.f kj7 l3 t191).bind fun t199 => (integral_Tile.j1 kj7 l2 l3 a4 (!t199) a0_0 a0_1 a0_2 l0_3 a1_0 a1_1 a1_2 a1_3 t191)) = some (r1, r2, r3, r4, r5) := by rw [if_pos rfl] at H; exact H
                clear H
                have H := H1
                clear H1
                replace H := Option.bind_eq_some_iff.mp H
                obtain ⟨t199, A720, H⟩ := H
                replace H : (integral_Tile.j1 kj7 l2 l3 a4 (!t199) a0_0 a0_1 a0_2 l0_3 a1_0 a1_1 a1_2 a1_3 t191) = some (r1, r2, r3, r4, r5) := H
                have A72 := Aside0.mk A720
                clear A720
                have H' := Aside0.mk H
                clear H
                go_wp2_with (first | ((with_reducible refine gate_dst (N := 69) rfl ?_); (try (refine gate_guard (by rfl) ?_; dsimp only)); refine Kd.R_lit (Kd.int .i64) _ 3 ?hg (N := 69) ?hd (xs := ([a4] : List Int)) (inner := [.int .i64 a4]) (ok := fun _ => True) (okp := fun _ => True) ?hr ?hp (fun _ hk => hk) trivial (Below.refl _ _) (Nat.le_refl _) (by simp) ?_; (case hd => rfl); (case hg => rfl); (case hr => first | (go_simp; done) | (go_simp; rfl)); (case hp => exact (Reps.one (show Kd.M (Kd.int .i64) _ _ _ a4 [.int .i64 a4] from rfl) (Reps.none _ _))); intro v195 w73 ho74 hb hg_ hnew_; clear hg_ hnew_; (first | rw [← Ny194.out] at ho74 | (simp only [Int.reduceToNat] at ho74; rw [← Ny194.out] at ho74)); have n0_ := Aside0.mk (Kd.R_lower (Kd.R_newB ho74 (g := gb193) (o := .cells #[.int .i64 t191] 3 (0, 0)) q7_) (below_size q20_)); have n1_ := Aside0.mk (blk_below (g := gb182) (o := .cells #[.int .i64 a0_0, .int .i64 a0_1, .int .i64 a0_2, .slice A0_3 l0_3.length c0_3] 26 (0, 0)) q23_ hb); have n2_ := Aside0.mk (blk_below (g := gb183) (o := .cells #[.int .i64 a1_0, .int .i64 a1_1, .int .i64 a1_2, .int .i64 a1_3] 32 (0, 0)) q24_ hb); have n3_ := Aside0.mk (blk_below (g := gb184) (o := .cells #[.int .i64 0, .int .i64 0, .int .i64 0, .slice none 0 0] 26 (0, 0)) q25_ hb); have n4_ := Aside0.mk (blk_below (g := gb193) (o := .cells #[.int .i64 t191] 3 (0, 0)) q7_ hb); have n5_ := Aside0.mk (below_step q20_ hb); clear BK182; clear BK183; clear BK184; clear BK193; clear HB; have HO196 := n0_; have BK182 := n1_; have BK183 := n2_; have BK184 := n3_; have BK193 := n4_; have HB := n5_; clear n0_ n1_ n2_ n3_ n4_ n5_; clear hb ho74; obtain ⟨Ao75, co75, eo75⟩ := Kd.R_slice HO196.out; subst eo75) | (go_at_call 46; refine calls_of_args (args' := #[.slice Ao75 y194.length co75, .pointer (some ⟨gb193, 0, none⟩)]) (by first | rfl | rfl) ?_; (with_reducible refine (integral_Tile_1.calls kj7 _ _ y194 gb193 t191 true _ ?side1 ?side2 ?side3 A68.out).mono ?_); (case side1 => repeat (first | exact (Kd.R_reads' HO196.out).2.2 | (with_reducible refine Kd.C_alloc ?_ _) | (with_reducible refine Kd.C_drewN ?_ _) | (with_reducible refine Kd.C_drew ?_))); (case side2 => exact (Kd.R_reads' HO196.out).2.1); (case side3 => exact q100_); rintro e w76 ⟨rfl, hb⟩; have n0_ := Aside0.mk (Kd.R_below q118_ hb); have n1_ := Aside0.mk (blk_below (g := gb182) (o := .cells #[.int .i64 a0_0, .int .i64 a0_1, .int .i64 a0_2, .slice A0_3 l0_3.length c0_3] 26 (0, 0)) q97_ hb); have n2_ := Aside0.mk (blk_below (g := gb183) (o := .cells #[.int .i64 a1_0, .int .i64 a1_1, .int .i64 a1_2, .int .i64 a1_3] 32 (0, 0)) q98_ hb); have n3_ := Aside0.mk (blk_below (g := gb184) (o := .cells #[.int .i64 0, .int .i64 0, .int .i64 0, .slice none 0 0] 26 (0, 0)) q99_ hb); have n4_ := Aside0.mk (blk_below (g := gb193) (o := .cells #[.int .i64 t191] 3 (0, 0)) q100_ hb); have n5_ := Aside0.mk (below_step q20_ hb); clear HO196; clear BK182; clear BK183; clear BK184; clear BK193; clear HB; have HO196 := n0_; have BK182 := n1_; have BK183 := n2_; have BK184 := n3_; have BK193 := n4_; have HB := n5_; clear n0_ n1_ n2_ n3_ n4_ n5_; (try clear hb); (try clear hb2); (try clear hk); (try clear hi)) | (go_at_call 46; refine calls_of_args (args' := #[.slice A2 l2.length c2, .pointer (some ⟨gb193, 0, none⟩)]) (by first | rfl | rfl) ?_; (with_reducible refine (integral_Tile_1.calls kj7 _ _ l2 gb193 t191 true _ ?side1 ?side2 ?side3 A70.out).mono ?_); (case side1 => repeat (first | exact (Kd.C_below HR2.out HB.out) | (with_reducible refine Kd.C_alloc ?_ _) | (with_reducible refine Kd.C_drewN ?_ _) | (with_reducible refine Kd.C_drew ?_))); (case side2 => exact HC2.out); (case side3 => exact q100_); rintro e w77 ⟨rfl, hb⟩; have n0_ := Aside0.mk (Kd.R_below q118_ hb); have n1_ := Aside0.mk (blk_below (g := gb182) (o := .cells #[.int .i64 a0_0, .int .i64 a0_1, .int .i64 a0_2, .slice A0_3 l0_3.length c0_3] 26 (0, 0)) q97_ hb); have n2_ := Aside0.mk (blk_below (g := gb183) (o := .cells #[.int .i64 a1_0, .int .i64 a1_1, .int .i64 a1_2, .int .i64 a1_3] 32 (0, 0)) q98_ hb); have n3_ := Aside0.mk (blk_below (g := gb184) (o := .cells #[.int .i64 0, .int .i64 0, .int .i64 0, .slice none 0 0] 26 (0, 0)) q99_ hb); have n4_ := Aside0.mk (blk_below (g := gb193) (o := .cells #[.int .i64 t191] 3 (0, 0)) q100_ hb); have n5_ := Aside0.mk (below_step q20_ hb); clear HO196; clear BK182; clear BK183; clear BK184; clear BK193; clear HB; have HO196 := n0_; have BK182 := n1_; have BK183 := n2_; have BK184 := n3_; have BK193 := n4_; have HB := n5_; clear n0_ n1_ n2_ n3_ n4_ n5_; (try clear hb); (try clear hb2); (try clear hk); (try clear hi)) | (go_at_call 46; refine calls_of_args (args' := #[.slice A3 l3.length c3, .pointer (some ⟨gb193, 0, none⟩)]) (by first | rfl | rfl) ?_; (with_reducible refine (integral_Tile_1.calls kj7 _ _ l3 gb193 t191 t199 _ ?side1 ?side2 ?side3 A72.out).mono ?_); (case side1 => repeat (first | exact (Kd.C_below HR3.out HB.out) | (with_reducible refine Kd.C_alloc ?_ _) | (with_reducible refine Kd.C_drewN ?_ _) | (with_reducible refine Kd.C_drew ?_))); (case side2 => exact HC3.out); (case side3 => exact q100_); rintro e w78 ⟨rfl, hb⟩; have n0_ := Aside0.mk (Kd.R_below q118_ hb); have n1_ := Aside0.mk (blk_below (g := gb182) (o := .cells #[.int .i64 a0_0, .int .i64 a0_1, .int .i64 a0_2, .slice A0_3 l0_3.length c0_3] 26 (0, 0)) q97_ hb); have n2_ := Aside0.mk (blk_below (g := gb183) (o := .cells #[.int .i64 a1_0, .int .i64 a1_1, .int .i64 a1_2, .int .i64 a1_3] 32 (0, 0)) q98_ hb); have n3_ := Aside0.mk (blk_below (g := gb184) (o := .cells #[.int .i64 0, .int .i64 0, .int .i64 0, .slice none 0 0] 26 (0, 0)) q99_ hb); have n4_ := Aside0.mk (blk_below (g := gb193) (o := .cells #[.int .i64 t191] 3 (0, 0)) q100_ hb); have n5_ := Aside0.mk (below_step q20_ hb); clear HO196; clear BK182; clear BK183; clear BK184; clear BK193; clear HB; have HO196 := n0_; have BK182 := n1_; have BK183 := n2_; have BK184 := n3_; have BK193 := n4_; have HB := n5_; clear n0_ n1_ n2_ n3_ n4_ n5_; (try clear hb); (try clear hb2); (try clear hk); (try clear hi)))
                go_meet
                case rel => exact ⟨_, (!t199), q130_, H', ⟨q128_⟩, ⟨q97_⟩, ⟨q98_⟩, ⟨q99_⟩, ⟨q100_⟩, ⟨q20_⟩⟩
              · replace c71 := Bool.eq_false_iff.mpr c71
                subst c71
                have H1 : (integral_Tile.j1 kj7 l2 l3 a4 true a0_0 a0_1 a0_2 l0_3 a1_0 a1_1 a1_2 a1_3 t191) = some (r1, r2, r3, r4, r5) := by rw [if_neg (show ¬ (false = true) by decide)] at H; exact H
                clear H
                have H := H1
                clear H1
                have H' := Aside0.mk H
                clear H
                go_wp2_with (first | ((with_reducible refine gate_dst (N := 69) rfl ?_); (try (refine gate_guard (by rfl) ?_; dsimp only)); refine Kd.R_lit (Kd.int .i64) _ 3 ?hg (N := 69) ?hd (xs := ([a4] : List Int)) (inner := [.int .i64 a4]) (ok := fun _ => True) (okp := fun _ => True) ?hr ?hp (fun _ hk => hk) trivial (Below.refl _ _) (Nat.le_refl _) (by simp) ?_; (case hd => rfl); (case hg => rfl); (case hr => first | (go_simp; done) | (go_simp; rfl)); (case hp => exact (Reps.one (show Kd.M (Kd.int .i64) _ _ _ a4 [.int .i64 a4] from rfl) (Reps.none _ _))); intro v195 w79 ho80 hb hg_ hnew_; clear hg_ hnew_; (first | rw [← Ny194.out] at ho80 | (simp only [Int.reduceToNat] at ho80; rw [← Ny194.out] at ho80)); have n0_ := Aside0.mk (Kd.R_lower (Kd.R_newB ho80 (g := gb193) (o := .cells #[.int .i64 t191] 3 (0, 0)) q7_) (below_size q20_)); have n1_ := Aside0.mk (blk_below (g := gb182) (o := .cells #[.int .i64 a0_0, .int .i64 a0_1, .int .i64 a0_2, .slice A0_3 l0_3.length c0_3] 26 (0, 0)) q23_ hb); have n2_ := Aside0.mk (blk_below (g := gb183) (o := .cells #[.int .i64 a1_0, .int .i64 a1_1, .int .i64 a1_2, .int .i64 a1_3] 32 (0, 0)) q24_ hb); have n3_ := Aside0.mk (blk_below (g := gb184) (o := .cells #[.int .i64 0, .int .i64 0, .int .i64 0, .slice none 0 0] 26 (0, 0)) q25_ hb); have n4_ := Aside0.mk (blk_below (g := gb193) (o := .cells #[.int .i64 t191] 3 (0, 0)) q7_ hb); have n5_ := Aside0.mk (below_step q20_ hb); clear BK182; clear BK183; clear BK184; clear BK193; clear HB; have HO196 := n0_; have BK182 := n1_; have BK183 := n2_; have BK184 := n3_; have BK193 := n4_; have HB := n5_; clear n0_ n1_ n2_ n3_ n4_ n5_; clear hb ho80; obtain ⟨Ao81, co81, eo81⟩ := Kd.R_slice HO196.out; subst eo81) | (go_at_call 46; refine calls_of_args (args' := #[.slice Ao81 y194.length co81, .pointer (some ⟨gb193, 0, none⟩)]) (by first | rfl | rfl) ?_; (with_reducible refine (integral_Tile_1.calls kj7 _ _ y194 gb193 t191 true _ ?side1 ?side2 ?side3 A68.out).mono ?_); (case side1 => repeat (first | exact (Kd.R_reads' HO196.out).2.2 | (with_reducible refine Kd.C_alloc ?_ _) | (with_reducible refine Kd.C_drewN ?_ _) | (with_reducible refine Kd.C_drew ?_))); (case side2 => exact (Kd.R_reads' HO196.out).2.1); (case side3 => exact q100_); rintro e w82 ⟨rfl, hb⟩; have n0_ := Aside0.mk (Kd.R_below q118_ hb); have n1_ := Aside0.mk (blk_below (g := gb182) (o := .cells #[.int .i64 a0_0, .int .i64 a0_1, .int .i64 a0_2, .slice A0_3 l0_3.length c0_3] 26 (0, 0)) q97_ hb); have n2_ := Aside0.mk (blk_below (g := gb183) (o := .cells #[.int .i64 a1_0, .int .i64 a1_1, .int .i64 a1_2, .int .i64 a1_3] 32 (0, 0)) q98_ hb); have n3_ := Aside0.mk (blk_below (g := gb184) (o := .cells #[.int .i64 0, .int .i64 0, .int .i64 0, .slice none 0 0] 26 (0, 0)) q99_ hb); have n4_ := Aside0.mk (blk_below (g := gb193) (o := .cells #[.int .i64 t191] 3 (0, 0)) q100_ hb); have n5_ := Aside0.mk (below_step q20_ hb); clear HO196; clear BK182; clear BK183; clear BK184; clear BK193; clear HB; have HO196 := n0_; have BK182 := n1_; have BK183 := n2_; have BK184 := n3_; have BK193 := n4_; have HB := n5_; clear n0_ n1_ n2_ n3_ n4_ n5_; (try clear hb); (try clear hb2); (try clear hk); (try clear hi)) | (go_at_call 46; refine calls_of_args (args' := #[.slice A2 l2.length c2, .pointer (some ⟨gb193, 0, none⟩)]) (by first | rfl | rfl) ?_; (with_reducible refine (integral_Tile_1.calls kj7 _ _ l2 gb193 t191 false _ ?side1 ?side2 ?side3 A70.out).mono ?_); (case side1 => repeat (first | exact (Kd.C_below HR2.out HB.out) | (with_reducible refine Kd.C_alloc ?_ _) | (with_reducible refine Kd.C_drewN ?_ _) | (with_reducible refine Kd.C_drew ?_))); (case side2 => exact HC2.out); (case side3 => exact q100_); rintro e w83 ⟨rfl, hb⟩; have n0_ := Aside0.mk (Kd.R_below q118_ hb); have n1_ := Aside0.mk (blk_below (g := gb182) (o := .cells #[.int .i64 a0_0, .int .i64 a0_1, .int .i64 a0_2, .slice A0_3 l0_3.length c0_3] 26 (0, 0)) q97_ hb); have n2_ := Aside0.mk (blk_below (g := gb183) (o := .cells #[.int .i64 a1_0, .int .i64 a1_1, .int .i64 a1_2, .int .i64 a1_3] 32 (0, 0)) q98_ hb); have n3_ := Aside0.mk (blk_below (g := gb184) (o := .cells #[.int .i64 0, .int .i64 0, .int .i64 0, .slice none 0 0] 26 (0, 0)) q99_ hb); have n4_ := Aside0.mk (blk_below (g := gb193) (o := .cells #[.int .i64 t191] 3 (0, 0)) q100_ hb); have n5_ := Aside0.mk (below_step q20_ hb); clear HO196; clear BK182; clear BK183; clear BK184; clear BK193; clear HB; have HO196 := n0_; have BK182 := n1_; have BK183 := n2_; have BK184 := n3_; have BK193 := n4_; have HB := n5_; clear n0_ n1_ n2_ n3_ n4_ n5_; (try clear hb); (try clear hb2); (try clear hk); (try clear hi)))
                go_meet
                case rel => exact ⟨_, (true), q130_, H', ⟨q128_⟩, ⟨q97_⟩, ⟨q98_⟩, ⟨q99_⟩, ⟨q100_⟩, ⟨q20_⟩⟩
            · replace c69 := Bool.eq_false_iff.mpr c69
              subst c69
              have H1 : (integral_Tile.j1 kj7 l2 l3 a4 true a0_0 a0_1 a0_2 l0_3 a1_0 a1_1 a1_2 a1_3 t191) = some (r1, r2, r3, r4, r5) := by rw [if_neg (show ¬ (false = true) by decide)] at H; exact H
              clear H
              have H := H1
              clear H1
              have H' := Aside0.mk H
              clear H
              go_wp2_with (first | ((with_reducible refine gate_dst (N := 69) rfl ?_); (try (refine gate_guard (by rfl) ?_; dsimp only)); refine Kd.R_lit (Kd.int .i64) _ 3 ?hg (N := 69) ?hd (xs := ([a4] : List Int)) (inner := [.int .i64 a4]) (ok := fun _ => True) (okp := fun _ => True) ?hr ?hp (fun _ hk => hk) trivial (Below.refl _ _) (Nat.le_refl _) (by simp) ?_; (case hd => rfl); (case hg => rfl); (case hr => first | (go_simp; done) | (go_simp; rfl)); (case hp => exact (Reps.one (show Kd.M (Kd.int .i64) _ _ _ a4 [.int .i64 a4] from rfl) (Reps.none _ _))); intro v195 w84 ho85 hb hg_ hnew_; clear hg_ hnew_; (first | rw [← Ny194.out] at ho85 | (simp only [Int.reduceToNat] at ho85; rw [← Ny194.out] at ho85)); have n0_ := Aside0.mk (Kd.R_lower (Kd.R_newB ho85 (g := gb193) (o := .cells #[.int .i64 t191] 3 (0, 0)) q7_) (below_size q20_)); have n1_ := Aside0.mk (blk_below (g := gb182) (o := .cells #[.int .i64 a0_0, .int .i64 a0_1, .int .i64 a0_2, .slice A0_3 l0_3.length c0_3] 26 (0, 0)) q23_ hb); have n2_ := Aside0.mk (blk_below (g := gb183) (o := .cells #[.int .i64 a1_0, .int .i64 a1_1, .int .i64 a1_2, .int .i64 a1_3] 32 (0, 0)) q24_ hb); have n3_ := Aside0.mk (blk_below (g := gb184) (o := .cells #[.int .i64 0, .int .i64 0, .int .i64 0, .slice none 0 0] 26 (0, 0)) q25_ hb); have n4_ := Aside0.mk (blk_below (g := gb193) (o := .cells #[.int .i64 t191] 3 (0, 0)) q7_ hb); have n5_ := Aside0.mk (below_step q20_ hb); clear BK182; clear BK183; clear BK184; clear BK193; clear HB; have HO196 := n0_; have BK182 := n1_; have BK183 := n2_; have BK184 := n3_; have BK193 := n4_; have HB := n5_; clear n0_ n1_ n2_ n3_ n4_ n5_; clear hb ho85; obtain ⟨Ao86, co86, eo86⟩ := Kd.R_slice HO196.out; subst eo86) | (go_at_call 46; refine calls_of_args (args' := #[.slice Ao86 y194.length co86, .pointer (some ⟨gb193, 0, none⟩)]) (by first | rfl | rfl) ?_; (with_reducible refine (integral_Tile_1.calls kj7 _ _ y194 gb193 t191 false _ ?side1 ?side2 ?side3 A68.out).mono ?_); (case side1 => repeat (first | exact (Kd.R_reads' HO196.out).2.2 | (with_reducible refine Kd.C_alloc ?_ _) | (with_reducible refine Kd.C_drewN ?_ _) | (with_reducible refine Kd.C_drew ?_))); (case side2 => exact (Kd.R_reads' HO196.out).2.1); (case side3 => exact q100_); rintro e w87 ⟨rfl, hb⟩; have n0_ := Aside0.mk (Kd.R_below q118_ hb); have n1_ := Aside0.mk (blk_below (g := gb182) (o := .cells #[.int .i64 a0_0, .int .i64 a0_1, .int .i64 a0_2, .slice A0_3 l0_3.length c0_3] 26 (0, 0)) q97_ hb); have n2_ := Aside0.mk (blk_below (g := gb183) (o := .cells #[.int .i64 a1_0, .int .i64 a1_1, .int .i64 a1_2, .int .i64 a1_3] 32 (0, 0)) q98_ hb); have n3_ := Aside0.mk (blk_below (g := gb184) (o := .cells #[.int .i64 0, .int .i64 0, .int .i64 0, .slice none 0 0] 26 (0, 0)) q99_ hb); have n4_ := Aside0.mk (blk_below (g := gb193) (o := .cells #[.int .i64 t191] 3 (0, 0)) q100_ hb); have n5_ := Aside0.mk (below_step q20_ hb); clear HO196; clear BK182; clear BK183; clear BK184; clear BK193; clear HB; have HO196 := n0_; have BK182 := n1_; have BK183 := n2_; have BK184 := n3_; have BK193 := n4_; have HB := n5_; clear n0_ n1_ n2_ n3_ n4_ n5_; (try clear hb); (try clear hb2); (try clear hk); (try clear hi)))
              go_meet
              case rel => exact ⟨_, (true), q130_, H', ⟨q128_⟩, ⟨q97_⟩, ⟨q98_⟩, ⟨q99_⟩, ⟨q100_⟩, ⟨q20_⟩⟩
          case rest =>
            clear HC57
            try clear c1
            try clear c2
            try clear p2
            try clear c3
            try clear c4
            try clear c5
            try clear c6
            try clear p6
            try clear c7
            try clear c7b0
            try clear c7b1
            try clear c12
            try clear c13
            try clear c17
            try clear c18
            try clear c19
            try clear c22
            try clear c23
            try clear c24
            try clear c24b0
            try clear c24b1
            try clear c25
            try clear c26
            try clear c29
            try clear c30
            try clear c32
            try clear c34
            try clear c35
            try clear c39
            try clear c43
            try clear c44
            try clear c45
            try clear c48
            try clear c51
            try clear c52
            try clear c53
            try clear c58
            try clear c59
            try clear c64
            try clear p64
            try clear c65
            try clear c66
            try clear c69
            try clear c71
            try clear hcz14_0
            try clear hcz14_1
            try clear hcz14_2
            try clear hcz14_3
            try clear hcz20_0
            try clear hcz20_1
            try clear hcz20_2
            try clear hcz20_3
            try clear hcz27_0
            try clear hcz27_1
            try clear hcz27_2
            try clear hcz27_3
            try clear hcz29_0
            try clear hcz29_1
            try clear hcz29_2
            try clear hcz29_3
            try clear hcz31_0
            try clear hcz31_1
            try clear hcz31_2
            try clear hcz31_3
            try clear hcz33_0
            try clear hcz33_1
            try clear hcz33_2
            try clear hcz33_3
            try clear hcz36_0
            try clear hcz36_1
            try clear hcz36_2
            try clear hcz36_3
            try clear hcz38_0
            try clear hcz38_1
            try clear hcz38_2
            try clear hcz38_3
            try clear hcz40_0
            try clear hcz40_1
            try clear hcz40_2
            try clear hcz40_3
            try clear hcz42_0
            try clear hcz42_1
            try clear hcz42_2
            try clear hcz42_3
            try clear hcz45_0
            try clear hcz45_1
            try clear hcz45_2
            try clear hcz45_3
            try clear hcz47_0
            try clear hcz47_1
            try clear hcz47_2
            try clear hcz47_3
            try clear hcz49_0
            try clear hcz49_1
            try clear hcz49_2
            try clear hcz49_3
            try clear hcz54_0
            try clear hcz54_1
            try clear hcz54_2
            try clear hcz54_3
            try clear hcz60_0
            try clear hcz60_1
            try clear hcz60_2
            try clear hcz60_3
            try clear hcz67_0
            try clear hfz14_0
            try clear hfz14_1
            try clear hfz14_2
            try clear hfz14_3
            try clear hfz20_0
            try clear hfz20_1
            try clear hfz20_2
            try clear hfz20_3
            try clear hfz27_0
            try clear hfz27_1
            try clear hfz27_2
            try clear hfz27_3
            try clear hfz29_0
            try clear hfz29_1
            try clear hfz29_2
            try clear hfz29_3
            try clear hfz31_0
            try clear hfz31_1
            try clear hfz31_2
            try clear hfz31_3
            try clear hfz33_0
            try clear hfz33_1
            try clear hfz33_2
            try clear hfz33_3
            try clear hfz36_0
            try clear hfz36_1
            try clear hfz36_2
            try clear hfz36_3
            try clear hfz38_0
            try clear hfz38_1
            try clear hfz38_2
            try clear hfz38_3
            try clear hfz40_0
            try clear hfz40_1
            try clear hfz40_2
            try clear hfz40_3
            try clear hfz42_0
            try clear hfz42_1
            try clear hfz42_2
            try clear hfz42_3
            try clear hfz45_0
            try clear hfz45_1
            try clear hfz45_2
            try clear hfz45_3
            try clear hfz47_0
            try clear hfz47_1
            try clear hfz47_2
            try clear hfz47_3
            try clear hfz49_0
            try clear hfz49_1
            try clear hfz49_2
            try clear hfz49_3
            try clear hfz54_0
            try clear hfz54_1
            try clear hfz54_2
            try clear hfz54_3
            try clear hfz60_0
            try clear hfz60_1
            try clear hfz60_2
            try clear hfz60_3
            try clear hfz67_0
            try clear p2
            try clear p6
            obtain ⟨kq, x83_56, rfl, HA, HJ56, BK182, BK183, BK184, BK193, HB⟩ := hcut
            cases kq with
            | zero => exact absurd HA.out (by simp [integral_Tile.j1])
            | succ kj56 =>
              have H := HA.out
              clear HA
              simp only [integral_Tile.j1] at H
              by_cases c88 : x83_56 = true
              · subst c88
                have H1 : (some (0, 0, 0, ([] : List Int), 2)) = some (r1, r2, r3, r4, r5) := by rw [if_pos rfl] at H; exact H
                clear H
                have H := H1
                clear H1
                simp only [Option.some.injEq, Prod.mk.injEq] at H
                obtain ⟨rfl, rfl, rfl, rfl, rfl⟩ := H
                have hnb89 := NB184_182.out
                have hnc89 := NB182_184.out
                have hnb90 := NB184_183.out
                have hnc90 := NB183_184.out
                have hnb91 := NB184_193.out
                have hnc91 := NB193_184.out
                have hcz92_0 : wc.cell? ⟨gb184, 0, none⟩ = some (.int .i64 0) := (blk_cell BK184.out 0).trans rfl
                have hcz92_1 : wc.cell? ⟨gb184, 1, none⟩ = some (.int .i64 0) := (blk_cell BK184.out 1).trans rfl
                have hcz92_2 : wc.cell? ⟨gb184, 2, none⟩ = some (.int .i64 0) := (blk_cell BK184.out 2).trans rfl
                have hcz92_3 : wc.cell? ⟨gb184, 3, none⟩ = some (.slice none 0 0) := (blk_cell BK184.out 3).trans rfl
                have hfz92_0 := blk_frozen BK184.out 0
                have hfz92_1 := blk_frozen BK184.out 1
                have hfz92_2 := blk_frozen BK184.out 2
                have hfz92_3 := blk_frozen BK184.out 3
                go_wp2
                refine bodyPost_ret (results_ct rfl _ _ gb184 26 #[.int .i64 0, .int .i64 0, .int .i64 0, .slice none 0 0] (0, 0) _ rfl q0_ Try.underlying26 rfl (by kernel_rfl)) rfl ?_
                exact ⟨_, q126_, q79_, q20_⟩
              · replace c88 := Bool.eq_false_iff.mpr c88
                subst c88
                have H1 : (if 0 ≤ (l3.length : Int) then (if ((l3.length : Int) : Int).toNat ≤ 35184372088832 then (integral_Tile.l0 kj56 l2 l3 a4 (List.replicate ((l3.length : Int) : Int).toNat 0) (l2.length : Int) 0 a0_0 a0_1 a0_2 l0_3 a1_0 a1_1 a1_2 a1_3 t191 (l3.length : Int) (l2.length : Int) t191 ([] : List Int)) else (none)) else (none)) = some (r1, r2, r3, r4, r5) := by rw [if_neg (show ¬ (false = true) by decide)] at H; exact H
                clear H
                have H := H1
                clear H1
                by_cases c93 : 0 ≤ (l3.length : Int)
                · rw [if_pos c93] at H
                  have c93b0 := eq_true c93
                  have c93b1 : decide (0 ≤ (l3.length : Int)) = true := decide_eq_true c93
                  clear c93
                  by_cases c94 : ((l3.length : Int) : Int).toNat ≤ 35184372088832
                  · rw [if_pos c94] at H
                    have c94b0 := eq_true c94
                    have c94b1 : decide (((l3.length : Int) : Int).toNat ≤ 35184372088832) = true := decide_eq_true c94
                    clear c94
                    obtain ⟨y201, hy201⟩ : ∃ y_ : List Int, y_ = (List.replicate ((l3.length : Int) : Int).toNat 0) := ⟨_, rfl⟩
                    replace H : (integral_Tile.l0 kj56 l2 l3 a4 y201 (l2.length : Int) 0 a0_0 a0_1 a0_2 l0_3 a1_0 a1_1 a1_2 a1_3 t191 (l3.length : Int) (l2.length : Int) t191 ([] : List Int)) = some (r1, r2, r3, r4, r5) := by first | (rw [hy201]; with_reducible exact H) | (have H2_ := (Option.bind_some _ _).symm.trans H; rw [hy201]; with_reducible exact H2_) | (have H2_ := (Option.bind_some _ _).symm.trans H; with_reducible exact H2_) | with_reducible exact H | (rw [hy201]; exact H) | exact H
                    have Ny201 := Aside0.mk hy201
                    clear hy201
                    have H' := Aside0.mk H
                    clear H
                    have hnb95 := NB193_182.out
                    have hnc95 := NB182_193.out
                    have hnb96 := NB193_183.out
                    have hnc96 := NB183_193.out
                    have hnb97 := NB193_184.out
                    have hnc97 := NB184_193.out
                    have hcz98_0 : wc.cell? ⟨gb193, 0, none⟩ = some (.int .i64 t191) := (blk_cell BK193.out 0).trans rfl
                    have hfz98_0 := blk_frozen BK193.out 0
                    go_wp2_with (first | ((with_reducible refine gate_dst (N := 16) rfl ?_); (try (refine gate_guard (by rfl) ?_; dsimp only)); refine box_event ?hg (N := 16) ?hd (cs := #[.int .i64 0, .int .i64 0, .int .i64 0, .slice none 0 0]) (t := 26) ?hr ?_; (case hd => rfl); (case hg => rfl); (case hr => first | (go_simp; done) | (go_simp; rfl)); intro gb200 hg w99 hbox hb; have n0_ := Aside0.mk (blk_below (g := gb182) (o := .cells #[.int .i64 a0_0, .int .i64 a0_1, .int .i64 a0_2, .slice A0_3 l0_3.length c0_3] 26 (0, 0)) q97_ hb); have n1_ := Aside0.mk (blk_below (g := gb183) (o := .cells #[.int .i64 a1_0, .int .i64 a1_1, .int .i64 a1_2, .int .i64 a1_3] 32 (0, 0)) q98_ hb); have n2_ := Aside0.mk (blk_below (g := gb184) (o := .cells #[.int .i64 0, .int .i64 0, .int .i64 0, .slice none 0 0] 26 (0, 0)) q99_ hb); have n3_ := Aside0.mk (blk_below (g := gb193) (o := .cells #[.int .i64 t191] 3 (0, 0)) q100_ hb); have n4_ := Aside0.mk (below_step q20_ hb); have n5_ := Aside0.mk (hbox); have n6_ := Aside0.mk ((by rw [hg]; exact (below_size q20_) : w.heap.size ≤ gb200)); have n7_ := Aside0.mk ((by rw [hg]; exact (below_size q20_) : w.heap.size ≤ gb200)); have n8_ := Aside0.mk ((q4_ : gb182 ≠ gb200)); have n9_ := Aside0.mk ((q5_ : gb200 ≠ gb182)); have n10_ := Aside0.mk ((q16_ : gb183 ≠ gb200)); have n11_ := Aside0.mk ((q17_ : gb200 ≠ gb183)); have n12_ := Aside0.mk ((by rw [hg]; exact Nat.ne_of_lt (blk_lt (g := gb184) (o := .cells #[.int .i64 0, .int .i64 0, .int .i64 0, .slice none 0 0] 26 (0, 0)) q99_) : gb184 ≠ gb200)); have n13_ := Aside0.mk ((by rw [hg]; exact Nat.ne_of_gt (blk_lt (g := gb184) (o := .cells #[.int .i64 0, .int .i64 0, .int .i64 0, .slice none 0 0] 26 (0, 0)) q99_) : gb200 ≠ gb184)); have n14_ := Aside0.mk ((by rw [hg]; exact Nat.ne_of_lt (blk_lt (g := gb193) (o := .cells #[.int .i64 t191] 3 (0, 0)) q100_) : gb193 ≠ gb200)); have n15_ := Aside0.mk ((by rw [hg]; exact Nat.ne_of_gt (blk_lt (g := gb193) (o := .cells #[.int .i64 t191] 3 (0, 0)) q100_) : gb200 ≠ gb193)); clear BK182; clear BK183; clear BK184; clear BK193; clear HB; have BK182 := n0_; have BK183 := n1_; have BK184 := n2_; have BK193 := n3_; have HB := n4_; have BK200 := n5_; have GW200 := n6_; have GE200 := n7_; have NB182_200 := n8_; have NB200_182 := n9_; have NB183_200 := n10_; have NB200_183 := n11_; have NB184_200 := n12_; have NB200_184 := n13_; have NB193_200 := n14_; have NB200_193 := n15_; clear n0_ n1_ n2_ n3_ n4_ n5_ n6_ n7_ n8_ n9_ n10_ n11_ n12_ n13_ n14_ n15_; clear hb hbox hg; have hnb100 := NB200_182.out; have hnc100 := NB182_200.out; have hnb101 := NB200_183.out; have hnc101 := NB183_200.out; have hnb102 := NB200_184.out; have hnc102 := NB184_200.out; have hnb103 := NB200_193.out; have hnc103 := NB193_200.out; have hcz104_0 : w99.cell? ⟨gb200, 0, none⟩ = some (.int .i64 0) := (blk_cell BK200.out 0).trans rfl; have hcz104_1 : w99.cell? ⟨gb200, 1, none⟩ = some (.int .i64 0) := (blk_cell BK200.out 1).trans rfl; have hcz104_2 : w99.cell? ⟨gb200, 2, none⟩ = some (.int .i64 0) := (blk_cell BK200.out 2).trans rfl; have hcz104_3 : w99.cell? ⟨gb200, 3, none⟩ = some (.slice none 0 0) := (blk_cell BK200.out 3).trans rfl; have hfz104_0 := blk_frozen BK200.out 0; have hfz104_1 := blk_frozen BK200.out 1; have hfz104_2 := blk_frozen BK200.out 2; have hfz104_3 := blk_frozen BK200.out 3) | ((with_reducible refine gate_dst (N := 93) rfl ?_); (try (refine gate_guard (by rfl) ?_; dsimp only)); refine Kd.R_make (Kd.int .i64) _ 3 rfl (N := 93) rfl 22 _ _ rfl (l3.length : Int) rfl rfl Try.underlying22 (.int .i64 0) 8 info3 rfl (by decide) (by omega) 0 (ok := fun _ => True) (okp := fun _ => True) rfl (fun _ hk => hk) trivial (of_decide_eq_true q129_) (Nat.le_trans (Nat.mul_le_mul_right _ (of_decide_eq_true q129_ : (l3.length : Int).toNat ≤ 35184372088832)) (by omega)) (Below.refl _ _) (Nat.le_refl _) ?_; intro v202 w105 ho106 hb hg_ hnew_; clear hg_ hnew_; (first | rw [← Ny201.out] at ho106 | (simp only [Int.reduceToNat] at ho106; rw [← Ny201.out] at ho106)); have n0_ := Aside0.mk (Kd.R_lower (Kd.R_newB ho106 (g := gb193) (o := .cells #[.int .i64 t191] 3 (0, 0)) (by (with_reducible repeat (first | refine blk_drewN ?_ _ | refine blk_drew ?_ | refine blk_alloc ?_ _)); refine blk_far ?_ NB193_200.out _; (with_reducible repeat (first | refine blk_drewN ?_ _ | refine blk_drew ?_ | refine blk_alloc ?_ _)); refine blk_far ?_ NB193_200.out _; (with_reducible repeat (first | refine blk_drewN ?_ _ | refine blk_drew ?_ | refine blk_alloc ?_ _)); refine blk_far ?_ NB193_200.out _; (with_reducible repeat (first | refine blk_drewN ?_ _ | refine blk_drew ?_ | refine blk_alloc ?_ _)); refine blk_far ?_ NB193_200.out _; (with_reducible repeat (first | refine blk_drewN ?_ _ | refine blk_drew ?_ | refine blk_alloc ?_ _)); exact BK193.out)) (below_size q3_)); have n1_ := Aside0.mk (blk_below (g := gb182) (o := .cells #[.int .i64 a0_0, .int .i64 a0_1, .int .i64 a0_2, .slice A0_3 l0_3.length c0_3] 26 (0, 0)) (by (with_reducible repeat (first | refine blk_drewN ?_ _ | refine blk_drew ?_ | refine blk_alloc ?_ _)); refine blk_far ?_ NB182_200.out _; (with_reducible repeat (first | refine blk_drewN ?_ _ | refine blk_drew ?_ | refine blk_alloc ?_ _)); refine blk_far ?_ NB182_200.out _; (with_reducible repeat (first | refine blk_drewN ?_ _ | refine blk_drew ?_ | refine blk_alloc ?_ _)); refine blk_far ?_ NB182_200.out _; (with_reducible repeat (first | refine blk_drewN ?_ _ | refine blk_drew ?_ | refine blk_alloc ?_ _)); refine blk_far ?_ NB182_200.out _; (with_reducible repeat (first | refine blk_drewN ?_ _ | refine blk_drew ?_ | refine blk_alloc ?_ _)); exact BK182.out) hb); have n2_ := Aside0.mk (blk_below (g := gb183) (o := .cells #[.int .i64 a1_0, .int .i64 a1_1, .int .i64 a1_2, .int .i64 a1_3] 32 (0, 0)) (by (with_reducible repeat (first | refine blk_drewN ?_ _ | refine blk_drew ?_ | refine blk_alloc ?_ _)); refine blk_far ?_ NB183_200.out _; (with_reducible repeat (first | refine blk_drewN ?_ _ | refine blk_drew ?_ | refine blk_alloc ?_ _)); refine blk_far ?_ NB183_200.out _; (with_reducible repeat (first | refine blk_drewN ?_ _ | refine blk_drew ?_ | refine blk_alloc ?_ _)); refine blk_far ?_ NB183_200.out _; (with_reducible repeat (first | refine blk_drewN ?_ _ | refine blk_drew ?_ | refine blk_alloc ?_ _)); refine blk_far ?_ NB183_200.out _; (with_reducible repeat (first | refine blk_drewN ?_ _ | refine blk_drew ?_ | refine blk_alloc ?_ _)); exact BK183.out) hb); have n3_ := Aside0.mk (blk_below (g := gb184) (o := .cells #[.int .i64 0, .int .i64 0, .int .i64 0, .slice none 0 0] 26 (0, 0)) (by (with_reducible repeat (first | refine blk_drewN ?_ _ | refine blk_drew ?_ | refine blk_alloc ?_ _)); refine blk_far ?_ NB184_200.out _; (with_reducible repeat (first | refine blk_drewN ?_ _ | refine blk_drew ?_ | refine blk_alloc ?_ _)); refine blk_far ?_ NB184_200.out _; (with_reducible repeat (first | refine blk_drewN ?_ _ | refine blk_drew ?_ | refine blk_alloc ?_ _)); refine blk_far ?_ NB184_200.out _; (with_reducible repeat (first | refine blk_drewN ?_ _ | refine blk_drew ?_ | refine blk_alloc ?_ _)); refine blk_far ?_ NB184_200.out _; (with_reducible repeat (first | refine blk_drewN ?_ _ | refine blk_drew ?_ | refine blk_alloc ?_ _)); exact BK184.out) hb); have n4_ := Aside0.mk (blk_below (g := gb193) (o := .cells #[.int .i64 t191] 3 (0, 0)) (by (with_reducible repeat (first | refine blk_drewN ?_ _ | refine blk_drew ?_ | refine blk_alloc ?_ _)); refine blk_far ?_ NB193_200.out _; (with_reducible repeat (first | refine blk_drewN ?_ _ | refine blk_drew ?_ | refine blk_alloc ?_ _)); refine blk_far ?_ NB193_200.out _; (with_reducible repeat (first | refine blk_drewN ?_ _ | refine blk_drew ?_ | refine blk_alloc ?_ _)); refine blk_far ?_ NB193_200.out _; (with_reducible repeat (first | refine blk_drewN ?_ _ | refine blk_drew ?_ | refine blk_alloc ?_ _)); refine blk_far ?_ NB193_200.out _; (with_reducible repeat (first | refine blk_drewN ?_ _ | refine blk_drew ?_ | refine blk_alloc ?_ _)); exact BK193.out) hb); have n5_ := Aside0.mk (blk_below (g := gb200) (o := .cells #[.int .i64 (l3.length : Int), .int .i64 (l2.length : Int), .int .i64 t191, .slice none 0 0] 26 (0, 0)) (by (with_reducible repeat (first | refine blk_drewN ?_ _ | refine blk_drew ?_ | refine blk_alloc ?_ _)); refine blk_put (cs := #[.int .i64 (l3.length : Int), .int .i64 (l2.length : Int), .int .i64 t191, .slice none 0 0]) ?_ 3 _ rfl; (with_reducible repeat (first | refine blk_drewN ?_ _ | refine blk_drew ?_ | refine blk_alloc ?_ _)); refine blk_put (cs := #[.int .i64 (l3.length : Int), .int .i64 (l2.length : Int), .int .i64 0, .slice none 0 0]) ?_ 2 _ rfl; (with_reducible repeat (first | refine blk_drewN ?_ _ | refine blk_drew ?_ | refine blk_alloc ?_ _)); refine blk_put (cs := #[.int .i64 (l3.length : Int), .int .i64 0, .int .i64 0, .slice none 0 0]) ?_ 1 _ rfl; (with_reducible repeat (first | refine blk_drewN ?_ _ | refine blk_drew ?_ | refine blk_alloc ?_ _)); refine blk_put (cs := #[.int .i64 0, .int .i64 0, .int .i64 0, .slice none 0 0]) ?_ 0 _ rfl; (with_reducible repeat (first | refine blk_drewN ?_ _ | refine blk_drew ?_ | refine blk_alloc ?_ _)); exact BK200.out) hb); have n6_ := Aside0.mk (below_step q3_ hb); clear BK182; clear BK183; clear BK184; clear BK193; clear BK200; clear HB; have HO203 := n0_; have BK182 := n1_; have BK183 := n2_; have BK184 := n3_; have BK193 := n4_; have BK200 := n5_; have HB := n6_; clear n0_ n1_ n2_ n3_ n4_ n5_ n6_; clear hb ho106; have hcz107_0 : w105.cell? ⟨gb200, 0, none⟩ = some (.int .i64 (l3.length : Int)) := (blk_cell BK200.out 0).trans rfl; have hcz107_1 : w105.cell? ⟨gb200, 1, none⟩ = some (.int .i64 (l2.length : Int)) := (blk_cell BK200.out 1).trans rfl; have hcz107_2 : w105.cell? ⟨gb200, 2, none⟩ = some (.int .i64 t191) := (blk_cell BK200.out 2).trans rfl; have hcz107_3 : w105.cell? ⟨gb200, 3, none⟩ = some (.slice none 0 0) := (blk_cell BK200.out 3).trans rfl; have hfz107_0 := blk_frozen BK200.out 0; have hfz107_1 := blk_frozen BK200.out 1; have hfz107_2 := blk_frozen BK200.out 2; have hfz107_3 := blk_frozen BK200.out 3))
                    go_loopg [96] kj56 (fun kq v96 w' => ∃ (x17_3 : List Int) (x96_3 : Int) (x201003_3 : List Int) (u201003 : Value), v96 = .int .i64 x96_3 ∧ Aside0 (integral_Tile.l0 kq l2 l3 a4 x17_3 (l2.length : Int) x96_3 a0_0 a0_1 a0_2 l0_3 a1_0 a1_1 a1_2 a1_3 t191 (l3.length : Int) (l2.length : Int) t191 x201003_3 = some (r1, r2, r3, r4, r5)) ∧ Aside0 (kq ≤ kj56) ∧ Aside0 (Kd.R (Kd.int .i64) 3 w' w.heap.size (fun k_ => some k_ ≠ (u201003 : Value).ownBlock ∧ k_ ≠ gb193) v202 x17_3) ∧ Aside0 (Kd.R (Kd.int .i64) 3 w' w.heap.size (fun k_ => some k_ ≠ (v202 : Value).ownBlock ∧ k_ ≠ gb193) u201003 x201003_3) ∧ Aside0 (w'.heap[gb182]? = some (.cells #[.int .i64 a0_0, .int .i64 a0_1, .int .i64 a0_2, (.slice A0_3 l0_3.length c0_3)] 26 (0, 0))) ∧ Aside0 (w'.heap[gb183]? = some (.cells #[.int .i64 a1_0, .int .i64 a1_1, .int .i64 a1_2, .int .i64 a1_3] 32 (0, 0))) ∧ Aside0 (w'.heap[gb184]? = some (.cells #[.int .i64 0, .int .i64 0, .int .i64 0, (.slice none 0 0)] 26 (0, 0))) ∧ Aside0 (w'.heap[gb193]? = some (.cells #[.int .i64 t191] 3 (0, 0))) ∧ Aside0 (w'.heap[gb200]? = some (.cells #[.int .i64 (l3.length : Int), .int .i64 (l2.length : Int), .int .i64 t191, u201003] 26 (0, 0))) ∧ Aside0 (Below w.heap.size w w'))
                    case atStart => exact ⟨(y201), (0), (([] : List Int)), (.slice none 0 0), q130_, H', ⟨Nat.le_refl _⟩, ⟨by (with_reducible repeat (first | apply Kd.R_alloc | apply Kd.R_drewN | apply Kd.R_drew)); exact Kd.R_mono HO203.out (fun _ hk => ⟨(by simp [Value.ownBlock]), hk.2⟩)⟩, ⟨q79_⟩, ⟨q97_⟩, ⟨q98_⟩, ⟨q99_⟩, ⟨q100_⟩, ⟨q101_⟩, ⟨q3_⟩⟩
                    case round =>
                      clear H'
                      try clear c1
                      try clear c2
                      try clear p2
                      try clear c3
                      try clear c4
                      try clear c5
                      try clear c6
                      try clear p6
                      try clear c7
                      try clear c7b0
                      try clear c7b1
                      try clear c8
                      try clear c9
                      try clear c10
                      try clear c12
                      try clear c13
                      try clear c17
                      try clear c18
                      try clear c19
                      try clear c22
                      try clear c23
                      try clear c24
                      try clear c24b0
                      try clear c24b1
                      try clear c25
                      try clear c26
                      try clear c29
                      try clear c30
                      try clear c32
                      try clear c34
                      try clear c35
                      try clear c39
                      try clear c43
                      try clear c44
                      try clear c45
                      try clear c48
                      try clear c51
                      try clear c52
                      try clear c53
                      try clear c58
                      try clear c59
                      try clear c64
                      try clear p64
                      try clear c65
                      try clear c66
                      try clear c69
                      try clear c71
                      try clear c88
                      try clear c89
                      try clear c90
                      try clear c91
                      try clear c93
                      try clear c93b0
                      try clear c93b1
                      try clear c94
                      try clear c94b0
                      try clear c94b1
                      try clear c95
                      try clear c96
                      try clear c97
                      try clear c100
                      try clear c101
                      try clear c102
                      try clear c103
                      try clear hcz104_0
                      try clear hcz104_1
                      try clear hcz104_2
                      try clear hcz104_3
                      try clear hcz107_0
                      try clear hcz107_1
                      try clear hcz107_2
                      try clear hcz107_3
                      try clear hcz14_0
                      try clear hcz14_1
                      try clear hcz14_2
                      try clear hcz14_3
                      try clear hcz20_0
                      try clear hcz20_1
                      try clear hcz20_2
                      try clear hcz20_3
                      try clear hcz27_0
                      try clear hcz27_1
                      try clear hcz27_2
                      try clear hcz27_3
                      try clear hcz29_0
                      try clear hcz29_1
                      try clear hcz29_2
                      try clear hcz29_3
                      try clear hcz31_0
                      try clear hcz31_1
                      try clear hcz31_2
                      try clear hcz31_3
                      try clear hcz33_0
                      try clear hcz33_1
                      try clear hcz33_2
                      try clear hcz33_3
                      try clear hcz36_0
                      try clear hcz36_1
                      try clear hcz36_2
                      try clear hcz36_3
                      try clear hcz38_0
                      try clear hcz38_1
                      try clear hcz38_2
                      try clear hcz38_3
                      try clear hcz40_0
                      try clear hcz40_1
                      try clear hcz40_2
                      try clear hcz40_3
                      try clear hcz42_0
                      try clear hcz42_1
                      try clear hcz42_2
                      try clear hcz42_3
                      try clear hcz45_0
                      try clear hcz45_1
                      try clear hcz45_2
                      try clear hcz45_3
                      try clear hcz47_0
                      try clear hcz47_1
                      try clear hcz47_2
                      try clear hcz47_3
                      try clear hcz49_0
                      try clear hcz49_1
                      try clear hcz49_2
                      try clear hcz49_3
                      try clear hcz54_0
                      try clear hcz54_1
                      try clear hcz54_2
                      try clear hcz54_3
                      try clear hcz60_0
                      try clear hcz60_1
                      try clear hcz60_2
                      try clear hcz60_3
                      try clear hcz67_0
                      try clear hcz92_0
                      try clear hcz92_1
                      try clear hcz92_2
                      try clear hcz92_3
                      try clear hcz98_0
                      try clear hfz104_0
                      try clear hfz104_1
                      try clear hfz104_2
                      try clear hfz104_3
                      try clear hfz107_0
                      try clear hfz107_1
                      try clear hfz107_2
                      try clear hfz107_3
                      try clear hfz14_0
                      try clear hfz14_1
                      try clear hfz14_2
                      try clear hfz14_3
                      try clear hfz20_0
                      try clear hfz20_1
                      try clear hfz20_2
                      try clear hfz20_3
                      try clear hfz27_0
                      try clear hfz27_1
                      try clear hfz27_2
                      try clear hfz27_3
                      try clear hfz29_0
                      try clear hfz29_1
                      try clear hfz29_2
                      try clear hfz29_3
                      try clear hfz31_0
                      try clear hfz31_1
                      try clear hfz31_2
                      try clear hfz31_3
                      try clear hfz33_0
                      try clear hfz33_1
                      try clear hfz33_2
                      try clear hfz33_3
                      try clear hfz36_0
                      try clear hfz36_1
                      try clear hfz36_2
                      try clear hfz36_3
                      try clear hfz38_0
                      try clear hfz38_1
                      try clear hfz38_2
                      try clear hfz38_3
                      try clear hfz40_0
                      try clear hfz40_1
                      try clear hfz40_2
                      try clear hfz40_3
                      try clear hfz42_0
                      try clear hfz42_1
                      try clear hfz42_2
                      try clear hfz42_3
                      try clear hfz45_0
                      try clear hfz45_1
                      try clear hfz45_2
                      try clear hfz45_3
                      try clear hfz47_0
                      try clear hfz47_1
                      try clear hfz47_2
                      try clear hfz47_3
                      try clear hfz49_0
                      try clear hfz49_1
                      try clear hfz49_2
                      try clear hfz49_3
                      try clear hfz54_0
                      try clear hfz54_1
                      try clear hfz54_2
                      try clear hfz54_3
                      try clear hfz60_0
                      try clear hfz60_1
                      try clear hfz60_2
                      try clear hfz60_3
                      try clear hfz67_0
                      try clear hfz92_0
                      try clear hfz92_1
                      try clear hfz92_2
                      try clear hfz92_3
                      try clear hfz98_0
                      try clear p2
                      try clear p6
                      try clear p64
                      obtain ⟨x17_3, x96_3, x201003_3, u201003, rfl, HA, HK3, HO_17, HO_201003, BK182, BK183, BK184, BK193, BK200, HB⟩ := hrel
                      cases gk with
                      | zero => exact absurd HA.out (by simp [integral_Tile.l0])
                      | succ k3 =>
                        have H := HA.out
                        clear HA
                        simp only [integral_Tile.l0] at H
                        by_cases c108 : x96_3 < (l2.length : Int)
                        · rw [if_pos c108] at H
                          have c108b0 : decide (x96_3 < (l2.length : Int)) = true := decide_eq_true c108
                          clear c108
                          have H' := Aside0.mk H
                          clear H
                          have hnb109 := NB200_182.out
                          have hnc109 := NB182_200.out
                          have hnb110 := NB200_183.out
                          have hnc110 := NB183_200.out
                          have hnb111 := NB200_184.out
                          have hnc111 := NB184_200.out
                          have hnb112 := NB200_193.out
                          have hnc112 := NB193_200.out
                          have hcz113_0 : wr.cell? ⟨gb200, 0, none⟩ = some (.int .i64 (l3.length : Int)) := (blk_cell BK200.out 0).trans rfl
                          have hcz113_1 : wr.cell? ⟨gb200, 1, none⟩ = some (.int .i64 (l2.length : Int)) := (blk_cell BK200.out 1).trans rfl
                          have hcz113_2 : wr.cell? ⟨gb200, 2, none⟩ = some (.int .i64 t191) := (blk_cell BK200.out 2).trans rfl
                          have hcz113_3 : wr.cell? ⟨gb200, 3, none⟩ = some (u201003) := (blk_cell BK200.out 3).trans rfl
                          have hfz113_0 := blk_frozen BK200.out 0
                          have hfz113_1 := blk_frozen BK200.out 1
                          have hfz113_2 := blk_frozen BK200.out 2
                          have hfz113_3 := blk_frozen BK200.out 3
                          go_wp2
                          go_loopg [19, 101] k3 (fun kq v19 v101 w' => ∃ (x17_4 : List Int) (x19_4 : Int) (x101_4 : Int) (x201003_4 : List Int) (u201003 : Value), v19 = .int .i64 x19_4 ∧ v101 = .int .i64 x101_4 ∧ Aside0 (integral_Tile.l1 kq l2 l3 a4 x17_4 x96_3 x19_4 (l2.length : Int) x96_3 (l3.length : Int) x101_4 a0_0 a0_1 a0_2 l0_3 a1_0 a1_1 a1_2 a1_3 t191 (l3.length : Int) (l2.length : Int) t191 x201003_4 = some (r1, r2, r3, r4, r5)) ∧ Aside0 (kq ≤ k3) ∧ Aside0 (Kd.R (Kd.int .i64) 3 w' w.heap.size (fun k_ => some k_ ≠ (u201003 : Value).ownBlock ∧ k_ ≠ gb193) v202 x17_4) ∧ Aside0 (Kd.R (Kd.int .i64) 3 w' w.heap.size (fun k_ => some k_ ≠ (v202 : Value).ownBlock ∧ k_ ≠ gb193) u201003 x201003_4) ∧ Aside0 (w'.heap[gb182]? = some (.cells #[.int .i64 a0_0, .int .i64 a0_1, .int .i64 a0_2, (.slice A0_3 l0_3.length c0_3)] 26 (0, 0))) ∧ Aside0 (w'.heap[gb183]? = some (.cells #[.int .i64 a1_0, .int .i64 a1_1, .int .i64 a1_2, .int .i64 a1_3] 32 (0, 0))) ∧ Aside0 (w'.heap[gb184]? = some (.cells #[.int .i64 0, .int .i64 0, .int .i64 0, (.slice none 0 0)] 26 (0, 0))) ∧ Aside0 (w'.heap[gb193]? = some (.cells #[.int .i64 t191] 3 (0, 0))) ∧ Aside0 (w'.heap[gb200]? = some (.cells #[.int .i64 (l3.length : Int), .int .i64 (l2.length : Int), .int .i64 t191, u201003] 26 (0, 0))) ∧ Aside0 (Below w.heap.size w w'))
                          case atStart => exact ⟨(x17_3), (0), (0), (x201003_3), (u201003), q130_, q130_, H', ⟨Nat.le_refl _⟩, ⟨q119_⟩, ⟨q113_⟩, ⟨q97_⟩, ⟨q98_⟩, ⟨q99_⟩, ⟨q100_⟩, ⟨q101_⟩, ⟨q3_⟩⟩
                          case round =>
                            clear H'
                            try clear c1
                            try clear c2
                            try clear p2
                            try clear c3
                            try clear c4
                            try clear c5
                            try clear c6
                            try clear p6
                            try clear c7
                            try clear c7b0
                            try clear c7b1
                            try clear c8
                            try clear c9
                            try clear c10
                            try clear c11
                            try clear c12
                            try clear c13
                            try clear c17
                            try clear c18
                            try clear c19
                            try clear c22
                            try clear c23
                            try clear c24
                            try clear c24b0
                            try clear c24b1
                            try clear c25
                            try clear c26
                            try clear c29
                            try clear c30
                            try clear c32
                            try clear c34
                            try clear c35
                            try clear c39
                            try clear c43
                            try clear c44
                            try clear c45
                            try clear c48
                            try clear c51
                            try clear c52
                            try clear c53
                            try clear c58
                            try clear c59
                            try clear c64
                            try clear p64
                            try clear c65
                            try clear c66
                            try clear c69
                            try clear c71
                            try clear c88
                            try clear c89
                            try clear c90
                            try clear c91
                            try clear c93
                            try clear c93b0
                            try clear c93b1
                            try clear c94
                            try clear c94b0
                            try clear c94b1
                            try clear c95
                            try clear c96
                            try clear c97
                            try clear c100
                            try clear c101
                            try clear c102
                            try clear c103
                            try clear c108
                            try clear c108b0
                            try clear c109
                            try clear c110
                            try clear c111
                            try clear c112
                            try clear hcz104_0
                            try clear hcz104_1
                            try clear hcz104_2
                            try clear hcz104_3
                            try clear hcz107_0
                            try clear hcz107_1
                            try clear hcz107_2
                            try clear hcz107_3
                            try clear hcz113_0
                            try clear hcz113_1
                            try clear hcz113_2
                            try clear hcz113_3
                            try clear hcz14_0
                            try clear hcz14_1
                            try clear hcz14_2
                            try clear hcz14_3
                            try clear hcz20_0
                            try clear hcz20_1
                            try clear hcz20_2
                            try clear hcz20_3
                            try clear hcz27_0
                            try clear hcz27_1
                            try clear hcz27_2
                            try clear hcz27_3
                            try clear hcz29_0
                            try clear hcz29_1
                            try clear hcz29_2
                            try clear hcz29_3
                            try clear hcz31_0
                            try clear hcz31_1
                            try clear hcz31_2
                            try clear hcz31_3
                            try clear hcz33_0
                            try clear hcz33_1
                            try clear hcz33_2
                            try clear hcz33_3
                            try clear hcz36_0
                            try clear hcz36_1
                            try clear hcz36_2
                            try clear hcz36_3
                            try clear hcz38_0
                            try clear hcz38_1
                            try clear hcz38_2
                            try clear hcz38_3
                            try clear hcz40_0
                            try clear hcz40_1
                            try clear hcz40_2
                            try clear hcz40_3
                            try clear hcz42_0
                            try clear hcz42_1
                            try clear hcz42_2
                            try clear hcz42_3
                            try clear hcz45_0
                            try clear hcz45_1
                            try clear hcz45_2
                            try clear hcz45_3
                            try clear hcz47_0
                            try clear hcz47_1
                            try clear hcz47_2
                            try clear hcz47_3
                            try clear hcz49_0
                            try clear hcz49_1
                            try clear hcz49_2
                            try clear hcz49_3
                            try clear hcz54_0
                            try clear hcz54_1
                            try clear hcz54_2
                            try clear hcz54_3
                            try clear hcz60_0
                            try clear hcz60_1
                            try clear hcz60_2
                            try clear hcz60_3
                            try clear hcz67_0
                            try clear hcz92_0
                            try clear hcz92_1
                            try clear hcz92_2
                            try clear hcz92_3
                            try clear hcz98_0
                            try clear hfz104_0
                            try clear hfz104_1
                            try clear hfz104_2
                            try clear hfz104_3
                            try clear hfz107_0
                            try clear hfz107_1
                            try clear hfz107_2
                            try clear hfz107_3
                            try clear hfz113_0
                            try clear hfz113_1
                            try clear hfz113_2
                            try clear hfz113_3
                            try clear hfz14_0
                            try clear hfz14_1
                            try clear hfz14_2
                            try clear hfz14_3
                            try clear hfz20_0
                            try clear hfz20_1
                            try clear hfz20_2
                            try clear hfz20_3
                            try clear hfz27_0
                            try clear hfz27_1
                            try clear hfz27_2
                            try clear hfz27_3
                            try clear hfz29_0
                            try clear hfz29_1
                            try clear hfz29_2
                            try clear hfz29_3
                            try clear hfz31_0
                            try clear hfz31_1
                            try clear hfz31_2
                            try clear hfz31_3
                            try clear hfz33_0
                            try clear hfz33_1
                            try clear hfz33_2
                            try clear hfz33_3
                            try clear hfz36_0
                            try clear hfz36_1
                            try clear hfz36_2
                            try clear hfz36_3
                            try clear hfz38_0
                            try clear hfz38_1
                            try clear hfz38_2
                            try clear hfz38_3
                            try clear hfz40_0
                            try clear hfz40_1
                            try clear hfz40_2
                            try clear hfz40_3
                            try clear hfz42_0
                            try clear hfz42_1
                            try clear hfz42_2
                            try clear hfz42_3
                            try clear hfz45_0
                            try clear hfz45_1
                            try clear hfz45_2
                            try clear hfz45_3
                            try clear hfz47_0
                            try clear hfz47_1
                            try clear hfz47_2
                            try clear hfz47_3
                            try clear hfz49_0
                            try clear hfz49_1
                            try clear hfz49_2
                            try clear hfz49_3
                            try clear hfz54_0
                            try clear hfz54_1
                            try clear hfz54_2
                            try clear hfz54_3
                            try clear hfz60_0
                            try clear hfz60_1
                            try clear hfz60_2
                            try clear hfz60_3
                            try clear hfz67_0
                            try clear hfz92_0
                            try clear hfz92_1
                            try clear hfz92_2
                            try clear hfz92_3
                            try clear hfz98_0
                            try clear p2
                            try clear p6
                            try clear p64
                            obtain ⟨x17_4, x19_4, x101_4, x201003_4, u201003, rfl, rfl, HA, HK4, HO_17, HO_201003, BK182, BK183, BK184, BK193, BK200, HB⟩ := hrel
                            cases gk with
                            | zero => exact absurd HA.out (by simp [integral_Tile.l1])
                            | succ k4 =>
                              have H := HA.out
                              clear HA
                              simp only [integral_Tile.l1] at H
                              by_cases c114 : x101_4 < (l3.length : Int)
                              · rw [if_pos c114] at H
                                have c114b0 : decide (x101_4 < (l3.length : Int)) = true := decide_eq_true c114
                                clear c114
                                obtain ⟨ji115, hji115⟩ : ∃ j_ : Int, (wrap64 ((wrap64 ((wrap64 ((wrap64 (a1_1 + x96_3)) * a0_0)) + a1_0)) + x101_4)) = j_ := ⟨_, rfl⟩
                                replace H : (if 0 ≤ (ji115) then (if (ji115) < (l0_3.length : Int) then (if 0 ≤ x101_4 then (if x101_4 < (x17_4.length : Int) then ((some (x17_4.set (x101_4 : Int).toNat (wrap64 ((rd x17_4 x101_4) + (wrap64 (x19_4 + (rd l0_3 (ji115)))))) : List Int)).bind fun y207 => (if 0 ≤ x96_3 then (if x96_3 < (l2.length : Int) then (if x101_4 < (l3.length : Int) then (if x201003_4.length < 17592186044416 then (integral_Tile.l1 k4 l2 l3 a4 y207 x96_3 (wrap64 (x19_4 + (rd l0_3 (ji115)))) (l2.length : Int) x96_3 (l3.length : Int) (wrap64 (x101_4 + 1)) a0_0 a0_1 a0_2 l0_3 a1_0 a1_1 a1_2 a1_3 t191 (l3.length : Int) (l2.length : Int) t191 (x201003_4 ++ [wrap64 ((wrap64 ((wrap64 ((rd l2 x96_3) + (rd l3 x101_4))) - a4)) + (rd y207 x101_4))])) else (none)) else (none)) else (none)) else (none))) else (none)) else (none)) else (none)) else (none)) = some (r1, r2, r3, r4, r5) := by first | (rw [hji115] at H; exact H) | (simp only [hji115] at H ⊢; exact H)
                                have hji115w : (IntKind.i64.wrap ((wrap64 ((wrap64 ((wrap64 (a1_1 + x96_3)) * a0_0)) + a1_0)) + x101_4)) = ji115 := (i64_w _).trans hji115
                                by_cases c116 : 0 ≤ (ji115)
                                · rw [if_pos c116] at H
                                  have c116b0 : decide (0 ≤ (ji115)) = true := decide_eq_true c116
                                  clear c116
                                  by_cases c117 : (ji115) < (l0_3.length : Int)
                                  · rw [if_pos c117] at H
                                    have c117b0 : decide ((ji115) < (l0_3.length : Int)) = true := decide_eq_true c117
                                    clear c117
                                    by_cases c118 : 0 ≤ x101_4
                                    · rw [if_pos c118] at H
                                      have c118b0 : decide (0 ≤ x101_4) = true := decide_eq_true c118
                                      clear c118
                                      by_cases c119 : x101_4 < (x17_4.length : Int)
                                      · rw [if_pos c119] at H
                                        have c119b0 : decide (x101_4 < (x17_4.length : Int)) = true := decide_eq_true c119
                                        clear c119
                                        obtain ⟨y207, hy207⟩ : ∃ y_ : List Int, y_ = (x17_4.set (x101_4 : Int).toNat (wrap64 ((rd x17_4 x101_4) + (wrap64 (x19_4 + (rd l0_3 (ji115))))))) := ⟨_, rfl⟩
                                        replace H : (if 0 ≤ x96_3 then (if x96_3 < (l2.length : Int) then (if x101_4 < (l3.length : Int) then (if x201003_4.length < 17592186044416 then (integral_Tile.l1 k4 l2 l3 a4 y207 x96_3 (wrap64 (x19_4 + (rd l0_3 (ji115)))) (l2.length : Int) x96_3 (l3.length : Int) (wrap64 (x101_4 + 1)) a0_0 a0_1 a0_2 l0_3 a1_0 a1_1 a1_2 a1_3 t191 (l3.length : Int) (l2.length : Int) t191 (x201003_4 ++ [wrap64 ((wrap64 ((wrap64 ((rd l2 x96_3) + (rd l3 x101_4))) - a4)) + (rd y207 x101_4))])) else (none)) else (none)) else (none)) else (none)) = some (r1, r2, r3, r4, r5) := by first | (rw [hy207]; with_reducible exact H) | (have H2_ := (Option.bind_some _ _).symm.trans H; rw [hy207]; with_reducible exact H2_) | (have H2_ := (Option.bind_some _ _).symm.trans H; with_reducible exact H2_) | with_reducible exact H | (rw [hy207]; exact H) | exact H
                                        have Ny207 := Aside0.mk hy207
                                        clear hy207
                                        by_cases c121 : 0 ≤ x96_3
                                        · rw [if_pos c121] at H
                                          have c121b0 : decide (0 ≤ x96_3) = true := decide_eq_true c121
                                          clear c121
                                          by_cases c122 : x96_3 < (l2.length : Int)
                                          · rw [if_pos c122] at H
                                            have c122b0 : decide (x96_3 < (l2.length : Int)) = true := decide_eq_true c122
                                            clear c122
                                            by_cases c123 : x101_4 < (l3.length : Int)
                                            · rw [if_pos c123] at H
                                              have c123b0 : decide (x101_4 < (l3.length : Int)) = true := decide_eq_true c123
                                              clear c123
                                              by_cases c124 : x201003_4.length < 17592186044416
                                              · rw [if_pos c124] at H
                                                have LMc124 := Aside0.mk c124
                                                clear c124
                                                obtain ⟨y211, hy211⟩ : ∃ y_ : List Int, y_ = (x201003_4 ++ [wrap64 ((wrap64 ((wrap64 ((rd l2 x96_3) + (rd l3 x101_4))) - a4)) + (rd y207 x101_4))]) := ⟨_, rfl⟩
                                                replace H : (integral_Tile.l1 k4 l2 l3 a4 y207 x96_3 (wrap64 (x19_4 + (rd l0_3 (ji115)))) (l2.length : Int) x96_3 (l3.length : Int) (wrap64 (x101_4 + 1)) a0_0 a0_1 a0_2 l0_3 a1_0 a1_1 a1_2 a1_3 t191 (l3.length : Int) (l2.length : Int) t191 y211) = some (r1, r2, r3, r4, r5) := by first | (rw [hy211]; with_reducible exact H) | (have H2_ := (Option.bind_some _ _).symm.trans H; rw [hy211]; with_reducible exact H2_) | (have H2_ := (Option.bind_some _ _).symm.trans H; with_reducible exact H2_) | with_reducible exact H | (rw [hy211]; exact H) | exact H
                                                have Ny211 := Aside0.mk hy211
                                                clear hy211
                                                have H' := Aside0.mk H
                                                clear H
                                                have hnb125 := NB182_183.out
                                                have hnc125 := NB183_182.out
                                                have hnb126 := NB182_184.out
                                                have hnc126 := NB184_182.out
                                                have hnb127 := NB182_193.out
                                                have hnc127 := NB193_182.out
                                                have hnb128 := NB182_200.out
                                                have hnc128 := NB200_182.out
                                                have hcz129_0 : wr.cell? ⟨gb182, 0, none⟩ = some (.int .i64 a0_0) := (blk_cell BK182.out 0).trans rfl
                                                have hcz129_1 : wr.cell? ⟨gb182, 1, none⟩ = some (.int .i64 a0_1) := (blk_cell BK182.out 1).trans rfl
                                                have hcz129_2 : wr.cell? ⟨gb182, 2, none⟩ = some (.int .i64 a0_2) := (blk_cell BK182.out 2).trans rfl
                                                have hcz129_3 : wr.cell? ⟨gb182, 3, none⟩ = some (.slice A0_3 l0_3.length c0_3) := (blk_cell BK182.out 3).trans rfl
                                                have hfz129_0 := blk_frozen BK182.out 0
                                                have hfz129_1 := blk_frozen BK182.out 1
                                                have hfz129_2 := blk_frozen BK182.out 2
                                                have hfz129_3 := blk_frozen BK182.out 3
                                                have hnb130 := NB183_184.out
                                                have hnc130 := NB184_183.out
                                                have hnb131 := NB183_193.out
                                                have hnc131 := NB193_183.out
                                                have hnb132 := NB183_200.out
                                                have hnc132 := NB200_183.out
                                                have hcz133_0 : wr.cell? ⟨gb183, 0, none⟩ = some (.int .i64 a1_0) := (blk_cell BK183.out 0).trans rfl
                                                have hcz133_1 : wr.cell? ⟨gb183, 1, none⟩ = some (.int .i64 a1_1) := (blk_cell BK183.out 1).trans rfl
                                                have hcz133_2 : wr.cell? ⟨gb183, 2, none⟩ = some (.int .i64 a1_2) := (blk_cell BK183.out 2).trans rfl
                                                have hcz133_3 : wr.cell? ⟨gb183, 3, none⟩ = some (.int .i64 a1_3) := (blk_cell BK183.out 3).trans rfl
                                                have hfz133_0 := blk_frozen BK183.out 0
                                                have hfz133_1 := blk_frozen BK183.out 1
                                                have hfz133_2 := blk_frozen BK183.out 2
                                                have hfz133_3 := blk_frozen BK183.out 3
                                                have p205 : 0 ≤ ((ji115) : Int) := of_decide_eq_true q129_
                                                have q205 : (ji115) < (l0_3.length : Int) := of_decide_eq_true q129_
                                                obtain ⟨ad205, e205, hx205_0⟩ := Kd.at_int HR0_3.out (ji115) p205 q205
                                                cases e205
                                                replace hx205_0 := (HB.out.cell (World.block_lt_of_cell? w _ hx205_0)).trans hx205_0
                                                replace p205 := eq_true p205
                                                replace q205 := eq_true q205
                                                obtain ⟨Ao134, co134, eo134⟩ := Kd.R_slice HO_17.out
                                                subst eo134
                                                have p206 : 0 ≤ (x101_4 : Int) := of_decide_eq_true q129_
                                                have q206 : x101_4 < (x17_4.length : Int) := of_decide_eq_true q129_
                                                obtain ⟨ad206, e206, hx206_0⟩ := Kd.at_int (Kd.R_reads' HO_17.out).2.2 x101_4 p206 q206
                                                cases e206
                                                replace p206 := eq_true p206
                                                replace q206 := eq_true q206
                                                have p120 : 0 ≤ (x101_4 : Int) := of_decide_eq_true q129_
                                                have q120 : (x101_4 : Int) < ((x17_4.length : Int) : Int) := of_decide_eq_true q129_
                                                obtain ⟨go120, co120, eo120, gb120, gl120, cl120, HG120⟩ := Kd.R_form HO_17.out (by omega)
                                                (first | cases eo120 | (injection eo120 with ea_ en_ ec_; (first | subst ea_ | (injection ea_ with ea_; subst ea_)); subst ec_; clear en_))
                                                have GB120 := Aside0.mk gb120
                                                have GG120 := Aside0.mk HG120
                                                clear gb120 gl120 HG120
                                                (first | simp only [add_plain] at hx206_0 | skip)
                                                obtain ⟨hx120_0, hf120_0⟩ := Kd.R_celln 0 HO_17.out (x101_4 : Int) p120 q120
                                                replace p120 := eq_true p120
                                                replace q120 := eq_true q120
                                                have HP135 := Kd.R_putg HO_17.out (x101_4 : Int) (wrap64 ((rd x17_4 x101_4) + (wrap64 (x19_4 + (rd l0_3 (ji115))))))
                                                try go_wp2_with (first | ((with_reducible refine gate_store (t := 3) (p := 128) rfl ?_); refine store_event (t := 3) (p := 128) (v := ?vo_w136) (w1 := (wr.setCell ⟨go120, (x101_4 : Int).toNat, none⟩ (.int .i64 (wrap64 ((rd x17_4 x101_4) + (wrap64 (x19_4 + (rd l0_3 (ji115))))))))) ?hg ?ho ?hn ?hr ?_; (case ho => rfl); (case hg => rfl); (case hn => rfl); (case hr => first | (go_simp; done) | (go_simp; rfl)); intro w136 hw; have hg : wr.grownBy w136 (some go120) := (by rw [hw]; exact HP135.2); have hp_ : Kd.R (Kd.int .i64) 3 w136 w.heap.size (fun k_ => some k_ ≠ (u201003 : Value).ownBlock ∧ k_ ≠ gb193) (.slice (some ⟨go120, 0, none⟩) x17_4.length co134) y207 := (by rw [hw, Ny207.out]; exact HP135.1); clear HP135; have n0_ := Aside0.mk (hp_); have n1_ := Aside0.mk (Kd.R_after (v := (.slice (some ⟨go120, 0, none⟩) x17_4.length co134)) (v1 := (.slice (some ⟨go120, 0, none⟩) x17_4.length co134)) (ok := (fun k_ => k_ ≠ gb193)) (by (with_reducible repeat (first | apply Kd.R_alloc | apply Kd.R_drewN | apply Kd.R_drew)); exact Kd.R_mono HO_201003.out (fun _ hk => ⟨hk.2, hk.1⟩)) hg (.inl rfl)); have n2_ := Aside0.mk (blk_grown (g := gb182) (o := .cells #[.int .i64 a0_0, .int .i64 a0_1, .int .i64 a0_2, .slice (some ad205) l0_3.length c0_3] 26 (0, 0)) q97_ hg (Kd.R_ne HO_17.out BK182.out (by decide))); have n3_ := Aside0.mk (blk_grown (g := gb183) (o := .cells #[.int .i64 a1_0, .int .i64 a1_1, .int .i64 a1_2, .int .i64 a1_3] 32 (0, 0)) q98_ hg (Kd.R_ne HO_17.out BK183.out (by decide))); have n4_ := Aside0.mk (blk_grown (g := gb184) (o := .cells #[.int .i64 0, .int .i64 0, .int .i64 0, .slice none 0 0] 26 (0, 0)) q99_ hg (Kd.R_ne HO_17.out BK184.out (by decide))); have n5_ := Aside0.mk (blk_grown (g := gb193) (o := .cells #[.int .i64 t191] 3 (0, 0)) q100_ hg (Kd.R_away HO_17.out (fun _ hk => hk.2))); have n6_ := Aside0.mk (blk_grown (g := gb200) (o := .cells #[.int .i64 (l3.length : Int), .int .i64 (l2.length : Int), .int .i64 t191, u201003] 26 (0, 0)) q101_ hg (Kd.R_ne HO_17.out BK200.out (by decide))); have n7_ := Aside0.mk ((by rw [hw]; exact below_set (HB.out) GB120.out : Below w.heap.size w w136)); clear HO_17; clear HO_201003; clear BK182; clear BK183; clear BK184; clear BK193; clear BK200; clear HB; have HO_17 := n0_; have HO_201003 := n1_; have BK182 := n2_; have BK183 := n3_; have BK184 := n4_; have BK193 := n5_; have BK200 := n6_; have HB := n7_; clear n0_ n1_ n2_ n3_ n4_ n5_ n6_ n7_; clear hg hw hp_))
                                                have n0_ := Aside0.mk (Kd.R_drew HO_17.out)
                                                have n1_ := Aside0.mk (Kd.R_drew HO_201003.out)
                                                have n2_ := Aside0.mk (blk_drew BK182.out)
                                                have n3_ := Aside0.mk (blk_drew BK183.out)
                                                have n4_ := Aside0.mk (blk_drew BK184.out)
                                                have n5_ := Aside0.mk (blk_drew BK193.out)
                                                have n6_ := Aside0.mk (blk_drew BK200.out)
                                                have n7_ := Aside0.mk (below_drew1 HB.out)
                                                clear HO_17
                                                clear HO_201003
                                                clear BK182
                                                clear BK183
                                                clear BK184
                                                clear BK193
                                                clear BK200
                                                clear HB
                                                have HO_17 := n0_
                                                have HO_201003 := n1_
                                                have BK182 := n2_
                                                have BK183 := n3_
                                                have BK184 := n4_
                                                have BK193 := n5_
                                                have BK200 := n6_
                                                have HB := n7_
                                                clear n0_ n1_ n2_ n3_ n4_ n5_ n6_ n7_
                                                have p208 : 0 ≤ (x96_3 : Int) := of_decide_eq_true q129_
                                                have q208 : x96_3 < (l2.length : Int) := of_decide_eq_true q129_
                                                obtain ⟨ad208, e208, hx208_0⟩ := Kd.at_int HR2.out x96_3 p208 q208
                                                have hw208_0 := hx208_0
                                                cases e208
                                                replace hx208_0 := (HB.out.cell (World.block_lt_of_cell? w _ hx208_0)).trans hx208_0
                                                replace p208 := eq_true p208
                                                replace q208 := eq_true q208
                                                have p209 : 0 ≤ (x101_4 : Int) := of_decide_eq_true q129_
                                                have q209 : x101_4 < (l3.length : Int) := of_decide_eq_true q129_
                                                obtain ⟨ad209, e209, hx209_0⟩ := Kd.at_int HR3.out x101_4 p209 q209
                                                have hw209_0 := hx209_0
                                                cases e209
                                                replace hx209_0 := (HB.out.cell (World.block_lt_of_cell? w _ hx209_0)).trans hx209_0
                                                replace p209 := eq_true p209
                                                replace q209 := eq_true q209
                                                have p210 : 0 ≤ (x101_4 : Int) := of_decide_eq_true q129_
                                                have q210 : x101_4 < (y207.length : Int) := (by have h_ : (x101_4 : Int) < ((x17_4.length : Int) : Int) := of_decide_eq_true q129_; first | (have e_ := (Kd.R_reads' HO_17.out).1; omega) | simpa only [Ny207.out, List.length_set] using h_)
                                                have ql210 : ((x101_4 : Int) < ((x17_4.length : Int) : Int)) = True := eq_true (of_decide_eq_true q129_)
                                                obtain ⟨ad210, e210, hx210_0⟩ := Kd.at_int (Kd.R_reads' HO_17.out).2.2 x101_4 p210 q210
                                                obtain rfl : (⟨go120, 0, none⟩ : Addr) = ad210 := (by injection e210)
                                                (first | simp only [add_plain] at hx210_0 | simp only [add_at] at hx210_0 | simp only [Addr.add, Nat.zero_add] at hx210_0 | skip)
                                                replace p210 := eq_true p210
                                                replace q210 := eq_true q210
                                                refine start_ (n := 22) (S := fun w' => w'.cell? ⟨gb200, 0, none⟩ = some (.int .i64 (l3.length : Int)) ∧ w'.cell? ⟨gb200, 1, none⟩ = some (.int .i64 (l2.length : Int)) ∧ w'.cell? ⟨gb200, 2, none⟩ = some (.int .i64 t191) ∧ w'.cell? ⟨gb200, 3, none⟩ = some (u201003) ∧ w'.cell? (ad208.add (x96_3).toNat) = some (.int .i64 (rd l2 x96_3)) ∧ w'.cell? (ad209.add (x101_4).toNat) = some (.int .i64 (rd l3 x101_4)) ∧ w'.cell? ⟨go120, (x101_4).toNat, none⟩ = some (.int .i64 (rd y207 x101_4))) (ds := [19, 21]) #[false, false, false, false, false, false, false, false, false, false, false, false, false, false, false, false, false, false, false, false, false, false] (by kernel_rfl) rfl rfl ⟨(blk_cell BK200.out 0).trans rfl, (blk_cell BK200.out 1).trans rfl, (blk_cell BK200.out 2).trans rfl, (blk_cell BK200.out 3).trans rfl, ((HB.out.cell (World.block_lt_of_cell? w _ hw208_0)).trans hw208_0), ((HB.out.cell (World.block_lt_of_cell? w _ hw209_0)).trans hw209_0), hx210_0⟩ (fun hHeld => ?_); refine with_tabW integral_Tile.tab21 integral_Tile.bits21 (fun HT_ HW_ => ?_)
                                                generalize w136.drew = w137 at HO_17 HO_201003 BK182 BK183 BK184 BK193 BK200 HB hx208_0 hx209_0 hx210_0 hHeld ⊢
                                                refine pure_ (i := 0) (N := some 129) (v := ?_) (a' := ?_) #[true, false, false, false, false, false, false, false, false, false, false, false, false, false, false, false, false, false, false, false, false, false] rfl rfl (any_of HT_.out (by kernel_rfl)) (fun _ _ _ h => h) (Or.inl ⟨by rfl, ?_⟩) ?_ ?_
                                                rotate_left
                                                · intro w'
                                                  go_simp
                                                  with_reducible rfl
                                                rotate_left
                                                · simp only [Act.put, List.setIfInBounds_toArray, List.set_cons_zero, List.set_cons_succ, i64_w, i32_w]
                                                  rfl
                                                refine pure_ (i := 2) (N := some 131) (v := ?_) (a' := ?_) #[true, false, true, false, false, false, false, false, false, false, false, false, false, false, false, false, false, false, false, false, false, false] rfl rfl (any_of HT_.out (by kernel_rfl)) (fun _ _ _ h => h) (Or.inl ⟨by rfl, ?_⟩) ?_ ?_
                                                rotate_left
                                                · intro w'
                                                  go_simp
                                                  with_reducible rfl
                                                rotate_left
                                                · simp only [Act.put, List.setIfInBounds_toArray, List.set_cons_zero, List.set_cons_succ, i64_w, i32_w]
                                                  rfl
                                                refine pure_ (i := 3) (N := some 132) (v := ?_) (a' := ?_) #[true, false, true, true, false, false, false, false, false, false, false, false, false, false, false, false, false, false, false, false, false, false] rfl rfl (any_of HT_.out (by kernel_rfl)) (fun _ _ _ h => h) (Or.inl ⟨by rfl, ?_⟩) ?_ ?_
                                                rotate_left
                                                · intro w'
                                                  go_simp
                                                  with_reducible rfl
                                                rotate_left
                                                · simp only [Act.put, List.setIfInBounds_toArray, List.set_cons_zero, List.set_cons_succ, i64_w, i32_w]
                                                  rfl
                                                refine pure_ (i := 4) (N := some 133) (v := ?_) (a' := ?_) #[true, false, true, true, true, false, false, false, false, false, false, false, false, false, false, false, false, false, false, false, false, false] rfl rfl (any_of HT_.out (by kernel_rfl)) (fun _ _ _ h => h) (Or.inl ⟨by rfl, ?_⟩) ?_ ?_
                                                rotate_left
                                                · intro w'
                                                  go_simp
                                                  with_reducible rfl
                                                rotate_left
                                                · simp only [Act.put, List.setIfInBounds_toArray, List.set_cons_zero, List.set_cons_succ, i64_w, i32_w]
                                                  rfl
                                                refine pure_ (i := 6) (N := some 135) (v := ?_) (a' := ?_) #[true, false, true, true, true, false, true, false, false, false, false, false, false, false, false, false, false, false, false, false, false, false] rfl rfl (any_of HT_.out (by kernel_rfl)) (fun _ _ _ h => h) (Or.inl ⟨by rfl, ?_⟩) ?_ ?_
                                                rotate_left
                                                · intro w'
                                                  go_simp
                                                  with_reducible rfl
                                                rotate_left
                                                · simp only [Act.put, List.setIfInBounds_toArray, List.set_cons_zero, List.set_cons_succ, i64_w, i32_w]
                                                  rfl
                                                refine pure_ (i := 7) (N := some 136) (v := ?_) (a' := ?_) #[true, false, true, true, true, false, true, true, false, false, false, false, false, false, false, false, false, false, false, false, false, false] rfl rfl (any_of HT_.out (by kernel_rfl)) (fun _ _ _ h => h) (Or.inl ⟨by rfl, ?_⟩) ?_ ?_
                                                rotate_left
                                                · intro w'
                                                  go_simp
                                                  with_reducible rfl
                                                rotate_left
                                                · simp only [Act.put, List.setIfInBounds_toArray, List.set_cons_zero, List.set_cons_succ, i64_w, i32_w]
                                                  rfl
                                                refine pure_ (i := 8) (N := some 137) (v := ?_) (a' := ?_) #[true, false, true, true, true, false, true, true, true, false, false, false, false, false, false, false, false, false, false, false, false, false] rfl rfl (any_of HT_.out (by kernel_rfl)) (fun _ _ _ h => h) (Or.inl ⟨by rfl, ?_⟩) ?_ ?_
                                                rotate_left
                                                · intro w'
                                                  go_simp
                                                  with_reducible rfl
                                                rotate_left
                                                · simp only [Act.put, List.setIfInBounds_toArray, List.set_cons_zero, List.set_cons_succ, i64_w, i32_w]
                                                  rfl
                                                refine pure_ (i := 11) (N := some 140) (v := ?_) (a' := ?_) #[true, false, true, true, true, false, true, true, true, false, false, true, false, false, false, false, false, false, false, false, false, false] rfl rfl (any_of HT_.out (by kernel_rfl)) (fun _ _ _ h => h) (Or.inl ⟨by rfl, ?_⟩) ?_ ?_
                                                rotate_left
                                                · intro w'
                                                  go_simp
                                                  with_reducible rfl
                                                rotate_left
                                                · simp only [Act.put, List.setIfInBounds_toArray, List.set_cons_zero, List.set_cons_succ, i64_w, i32_w]
                                                  rfl
                                                refine pure_ (i := 13) (N := some 142) (v := ?_) (a' := ?_) #[true, false, true, true, true, false, true, true, true, false, false, true, false, true, false, false, false, false, false, false, false, false] rfl rfl (any_of HT_.out (by kernel_rfl)) (fun _ _ _ h => h) (Or.inl ⟨by rfl, ?_⟩) ?_ ?_
                                                rotate_left
                                                · intro w'
                                                  go_simp
                                                  with_reducible rfl
                                                rotate_left
                                                · simp only [Act.put, List.setIfInBounds_toArray, List.set_cons_zero, List.set_cons_succ, i64_w, i32_w]
                                                  rfl
                                                refine pure_ (i := 14) (N := some 143) (v := ?_) (a' := ?_) #[true, false, true, true, true, false, true, true, true, false, false, true, false, true, true, false, false, false, false, false, false, false] rfl rfl (any_of HT_.out (by kernel_rfl)) (fun _ _ _ h => h) (Or.inl ⟨by rfl, ?_⟩) ?_ ?_
                                                rotate_left
                                                · intro w'
                                                  go_simp
                                                  with_reducible rfl
                                                rotate_left
                                                · simp only [Act.put, List.setIfInBounds_toArray, List.set_cons_zero, List.set_cons_succ, i64_w, i32_w]
                                                  rfl
                                                refine pure_ (i := 15) (N := some 144) (v := ?_) (a' := ?_) #[true, false, true, true, true, false, true, true, true, false, false, true, false, true, true, true, false, false, false, false, false, false] rfl rfl (any_of HT_.out (by kernel_rfl)) (fun _ _ _ h => h) (Or.inl ⟨by rfl, ?_⟩) ?_ ?_
                                                rotate_left
                                                · intro w'
                                                  go_simp
                                                  with_reducible rfl
                                                rotate_left
                                                · simp only [Act.put, List.setIfInBounds_toArray, List.set_cons_zero, List.set_cons_succ, i64_w, i32_w]
                                                  rfl
                                                refine take_ (i := 1) (N := some 130) (v := ?_) (a' := ?_) #[true, true, true, true, true, false, true, true, true, false, false, true, false, true, true, true, false, false, false, false, false, false] rfl rfl (take_ofW HT_.out HW_.out (by kernel_rfl)) (fun _ _ _ h => h) (Or.inl ⟨by rfl, ?_⟩) hHeld ?_ ?_
                                                rotate_left
                                                · rintro w' ⟨s0, s1, s2, s3, s4, s5, s6⟩
                                                  go_simp
                                                  with_reducible rfl
                                                rotate_left
                                                · simp only [Act.put, List.setIfInBounds_toArray, List.set_cons_zero, List.set_cons_succ, i64_w, i32_w]
                                                  rfl
                                                refine take_ (i := 5) (N := some 134) (v := ?_) (a' := ?_) #[true, true, true, true, true, true, true, true, true, false, false, true, false, true, true, true, false, false, false, false, false, false] rfl rfl (take_ofW HT_.out HW_.out (by kernel_rfl)) (fun _ _ _ h => h) (Or.inl ⟨by rfl, ?_⟩) hHeld ?_ ?_
                                                rotate_left
                                                · rintro w' ⟨s0, s1, s2, s3, s4, s5, s6⟩
                                                  go_simp
                                                  with_reducible rfl
                                                rotate_left
                                                · simp only [Act.put, List.setIfInBounds_toArray, List.set_cons_zero, List.set_cons_succ, i64_w, i32_w]
                                                  rfl
                                                refine take_ (i := 9) (N := some 138) (v := ?_) (a' := ?_) #[true, true, true, true, true, true, true, true, true, true, false, true, false, true, true, true, false, false, false, false, false, false] rfl rfl (take_ofW HT_.out HW_.out (by kernel_rfl)) (fun _ _ _ h => h) (Or.inl ⟨by rfl, ?_⟩) hHeld ?_ ?_
                                                rotate_left
                                                · rintro w' ⟨s0, s1, s2, s3, s4, s5, s6⟩
                                                  go_simp
                                                  with_reducible rfl
                                                rotate_left
                                                · simp only [Act.put, List.setIfInBounds_toArray, List.set_cons_zero, List.set_cons_succ, i64_w, i32_w]
                                                  rfl
                                                refine pure_ (i := 10) (N := some 139) (v := ?_) (a' := ?_) #[true, true, true, true, true, true, true, true, true, true, true, true, false, true, true, true, false, false, false, false, false, false] rfl rfl (any_of HT_.out (by kernel_rfl)) (fun _ _ _ h => h) (Or.inl ⟨by rfl, ?_⟩) ?_ ?_
                                                rotate_left
                                                · intro w'
                                                  go_simp
                                                  with_reducible rfl
                                                rotate_left
                                                · simp only [Act.put, List.setIfInBounds_toArray, List.set_cons_zero, List.set_cons_succ, i64_w, i32_w]
                                                  rfl
                                                refine pure_ (i := 12) (N := some 141) (v := ?_) (a' := ?_) #[true, true, true, true, true, true, true, true, true, true, true, true, true, true, true, true, false, false, false, false, false, false] rfl rfl (any_of HT_.out (by kernel_rfl)) (fun _ _ _ h => h) (Or.inl ⟨by rfl, ?_⟩) ?_ ?_
                                                rotate_left
                                                · intro w'
                                                  go_simp
                                                  with_reducible rfl
                                                rotate_left
                                                · simp only [Act.put, List.setIfInBounds_toArray, List.set_cons_zero, List.set_cons_succ, i64_w, i32_w]
                                                  rfl
                                                refine take_ (i := 16) (N := some 145) (v := ?_) (a' := ?_) #[true, true, true, true, true, true, true, true, true, true, true, true, true, true, true, true, true, false, false, false, false, false] rfl rfl (take_ofW HT_.out HW_.out (by kernel_rfl)) (fun _ _ _ h => h) (Or.inl ⟨by rfl, ?_⟩) hHeld ?_ ?_
                                                rotate_left
                                                · rintro w' ⟨s0, s1, s2, s3, s4, s5, s6⟩
                                                  go_simp
                                                  with_reducible rfl
                                                rotate_left
                                                · simp only [Act.put, List.setIfInBounds_toArray, List.set_cons_zero, List.set_cons_succ, i64_w, i32_w]
                                                  rfl
                                                refine pure_ (i := 17) (N := some 146) (v := ?_) (a' := ?_) #[true, true, true, true, true, true, true, true, true, true, true, true, true, true, true, true, true, true, false, false, false, false] rfl rfl (any_of HT_.out (by kernel_rfl)) (fun _ _ _ h => h) (Or.inl ⟨by rfl, ?_⟩) ?_ ?_
                                                rotate_left
                                                · intro w'
                                                  go_simp
                                                  with_reducible rfl
                                                rotate_left
                                                · simp only [Act.put, List.setIfInBounds_toArray, List.set_cons_zero, List.set_cons_succ, i64_w, i32_w]
                                                  rfl
                                                refine one_ (i := 18) (N := some 147) #[true, true, true, true, true, true, true, true, true, true, true, true, true, true, true, true, true, true, true, false, false, false] rfl rfl (one_of HT_.out (by kernel_rfl)) (by decide) (fun K hK => ?_)
                                                refine value_ (w1 := ?_) (v := ?_) (by rfl) rfl ?_ ?_
                                                rotate_left 2
                                                · go_simp
                                                  constructor
                                                  · rfl
                                                  · rfl
                                                refine hK.out _ _ ⟨(blk_cell (blk_alloc BK200.out _) 0).trans rfl, (blk_cell (blk_alloc BK200.out _) 1).trans rfl, (blk_cell (blk_alloc BK200.out _) 2).trans rfl, (blk_cell (blk_alloc BK200.out _) 3).trans rfl, (World.cell?_alloc_lt _ _ _ (World.block_lt_of_cell? _ _ (((HB.out.cell (World.block_lt_of_cell? w _ hw208_0)).trans hw208_0)))).trans (((HB.out.cell (World.block_lt_of_cell? w _ hw208_0)).trans hw208_0)), (World.cell?_alloc_lt _ _ _ (World.block_lt_of_cell? _ _ (((HB.out.cell (World.block_lt_of_cell? w _ hw209_0)).trans hw209_0)))).trans (((HB.out.cell (World.block_lt_of_cell? w _ hw209_0)).trans hw209_0)), (World.cell?_alloc_lt _ _ _ (World.block_lt_of_cell? _ _ (hHeld.2.2.2.2.2.2))).trans (hHeld.2.2.2.2.2.2)⟩ (fun hHeld => ?_)
                                                clear hK K
                                                refine norm_ (a' := ?_) ?_ ?_
                                                rotate_left
                                                · show Act.put _ (some 147) _ = _
                                                  simp only [Act.put, List.setIfInBounds_toArray, List.set_cons_zero, List.set_cons_succ, i64_w, i32_w]
                                                  rfl
                                                refine last_ (i := 19) (N := some 148) #[true, true, true, true, true, true, true, true, true, true, true, true, true, true, true, true, true, true, true, true, false, false] rfl rfl (one_of HT_.out (by kernel_rfl)) (by decide) (fun K hK => ?_)
                                                refine Kd.R_append_step (Kd.int .i64) (w0 := w) w.heap.size (by rfl) (.tmp 130) (.tmp 147) 22 3 (.int .i64 0) 8 rfl Try.underlying22 info3 rfl (by decide) (by omega) u201003 x201003_4 (wrap64 ((wrap64 ((wrap64 ((rd l2 x96_3) + (rd l3 x101_4))) - a4)) + (rd y207 x101_4))) [.int .i64 (wrap64 ((wrap64 ((wrap64 ((rd l2 x96_3) + (rd l3 x101_4))) - a4)) + (rd y207 x101_4)))] (fun k_ => some k_ ≠ (.slice (some ⟨go120, 0, none⟩) x17_4.length co134 : Value).ownBlock ∧ k_ ≠ gb193) (fun _ => False) rfl rfl ?aP (fun _ hk => hk.elim) ?aF ?aO ?aB ?aS ?aL ?_
                                                (case aP => exact rfl)
                                                (case aB => exact q3_)
                                                (case aF => exact (fun k_ hk => ⟨Kd.fresh' (Kd.R_lt q119_) k_ hk, Kd.freshB (g := gb193) (o := .cells #[.int .i64 t191] 3 (0, 0)) q100_ k_ hk⟩))
                                                (case aO => exact (by (with_reducible repeat (first | apply Kd.R_alloc | apply Kd.R_drewN | apply Kd.R_drew)); exact Kd.R_mono HO_201003.out (fun _ hk => ⟨hk.2, hk.1⟩)))
                                                (case aS => exact (below_size q3_))
                                                (case aL => have := LMc124.out; omega)
                                                intro v212 w138 ho hb hg hat
                                                rw [← Ny211.out] at ho
                                                have n0_ := Aside0.mk (Kd.R_after (ok := (fun k_ => k_ ≠ gb193)) (by (with_reducible repeat (first | apply Kd.R_alloc | apply Kd.R_drewN | apply Kd.R_drew)); exact Kd.R_mono HO_17.out (fun _ hk => ⟨hk.2, hk.1⟩)) hg hat)
                                                have n1_ := Aside0.mk (blk_grown (g := gb182) (o := .cells #[.int .i64 a0_0, .int .i64 a0_1, .int .i64 a0_2, .slice (some ad205) l0_3.length c0_3] 26 (0, 0)) q97_ hg (Kd.R_ne HO_201003.out BK182.out (by decide)))
                                                have n2_ := Aside0.mk (blk_grown (g := gb183) (o := .cells #[.int .i64 a1_0, .int .i64 a1_1, .int .i64 a1_2, .int .i64 a1_3] 32 (0, 0)) q98_ hg (Kd.R_ne HO_201003.out BK183.out (by decide)))
                                                have n3_ := Aside0.mk (blk_grown (g := gb184) (o := .cells #[.int .i64 0, .int .i64 0, .int .i64 0, .slice none 0 0] 26 (0, 0)) q99_ hg (Kd.R_ne HO_201003.out BK184.out (by decide)))
                                                have n4_ := Aside0.mk (blk_grown (g := gb193) (o := .cells #[.int .i64 t191] 3 (0, 0)) q100_ hg (Kd.R_away HO_201003.out (fun _ hk => hk.1)))
                                                have n5_ := Aside0.mk (blk_grown (g := gb200) (o := .cells #[.int .i64 (l3.length : Int), .int .i64 (l2.length : Int), .int .i64 t191, u201003] 26 (0, 0)) q101_ hg (Kd.R_ne HO_201003.out BK200.out (by decide)))
                                                have n6_ := Aside0.mk (hb)
                                                have n7_ := Aside0.mk (ho)
                                                clear HO_17
                                                clear BK182
                                                clear BK183
                                                clear BK184
                                                clear BK193
                                                clear BK200
                                                clear HB
                                                clear HO_201003
                                                have HO_17 := n0_
                                                have BK182 := n1_
                                                have BK183 := n2_
                                                have BK184 := n3_
                                                have BK193 := n4_
                                                have BK200 := n5_
                                                have HB := n6_
                                                have HO213 := n7_
                                                clear n0_ n1_ n2_ n3_ n4_ n5_ n6_ n7_
                                                clear ho hb hg hat
                                                obtain ⟨Ao139, co139, eo139⟩ := Kd.R_slice HO213.out
                                                (first | subst eo139 | (injection eo139 with f1_ f2_ f3_; have f4_ := f1_.symm; have f5_ := f3_.symm; clear f1_ f2_ f3_; subst f4_; subst f5_))
                                                refine hK.out _ _ ?_
                                                clear hK K
                                                refine norm_ (a' := ?_) ?_ ?_
                                                rotate_left
                                                · show Act.put _ (some 148) _ = _
                                                  simp only [Act.put, List.setIfInBounds_toArray, List.set_cons_zero, List.set_cons_succ, i64_w, i32_w]
                                                  rfl
                                                refine pure_ (i := 20) (N := some 149) (v := ?_) (a' := ?_) #[true, true, true, true, true, true, true, true, true, true, true, true, true, true, true, true, true, true, true, true, true, false] rfl rfl (any_of HT_.out (by kernel_rfl)) (fun _ _ _ h => h) (Or.inl ⟨by rfl, ?_⟩) ?_ ?_
                                                rotate_left
                                                · intro w'
                                                  go_simp
                                                  with_reducible rfl
                                                rotate_left
                                                · simp only [Act.put, List.setIfInBounds_toArray, List.set_cons_zero, List.set_cons_succ, i64_w, i32_w]
                                                  rfl
                                                refine last_ (i := 21) (N := none) #[true, true, true, true, true, true, true, true, true, true, true, true, true, true, true, true, true, true, true, true, true, true] rfl rfl (one_of HT_.out (by kernel_rfl)) (by decide) (fun K hK => ?_)
                                                have hs140 : w138.cell? ⟨gb200, 3, none⟩ = some (u201003) := (blk_cell BK200.out 3).trans rfl
                                                have hfs140 := blk_frozen BK200.out 3
                                                have hns140_0 := NB182_200.out
                                                have hns140_1 := NB183_200.out
                                                have hns140_2 := NB184_200.out
                                                have hns140_3 := NB193_200.out
                                                have hms140_0 := NB200_182.out
                                                have hms140_1 := NB200_183.out
                                                have hms140_2 := NB200_184.out
                                                have hms140_3 := NB200_193.out
                                                refine skip_ (w1 := ?_) (by rfl) rfl ?_ ?_
                                                rotate_left
                                                · go_simp
                                                  rfl
                                                refine hK.out _ _ ?_
                                                clear hK K
                                                refine done_ (done_of HT_.out (by kernel_rfl)) ?_
                                                try go_wp2
                                                go_roundg k4
                                                case measure => have := HJ7.out; have := HJ56.out; have := HK3.out; have := HK4.out; omega
                                                case rel => exact ⟨(y207), (wrap64 (x19_4 + (rd l0_3 (ji115)))), (wrap64 (x101_4 + 1)), (y211), (.slice Ao139 y211.length co139), (by first | rfl | (simp; done) | (simp only [← hji115] <;> (first | rfl | simp)) | (simp [*]; done)), q130_, (by first | exact H' | ((try (rw [hji115])); exact H')), ⟨by have := HJ7.out; have := HJ56.out; have := HK3.out; have := HK4.out; omega⟩, ⟨by (with_reducible repeat (first | apply Kd.R_alloc | apply Kd.R_drewN | apply Kd.R_drew)); exact Kd.R_mono (Kd.R_far (p := ⟨gb200, 3, none⟩) (Kd.R_types HO_17.out BK200.out (by decide)) (fun _ hk => hk.2) (.slice Ao139 y211.length co139)) (fun _ hk => ⟨hk.1.2, hk.1.1⟩)⟩, ⟨by (with_reducible repeat (first | apply Kd.R_alloc | apply Kd.R_drewN | apply Kd.R_drew)); exact Kd.R_mono (Kd.R_far (p := ⟨gb200, 3, none⟩) (Kd.R_types HO213.out BK200.out (by decide)) (fun _ hk => hk.2) (.slice Ao139 y211.length co139)) (fun _ hk => ⟨hk.1.1, hk.1.2⟩)⟩, ⟨by (with_reducible repeat (first | refine blk_drewN ?_ _ | refine blk_drew ?_ | refine blk_alloc ?_ _)); refine blk_far ?_ NB182_200.out _; (with_reducible repeat (first | refine blk_drewN ?_ _ | refine blk_drew ?_ | refine blk_alloc ?_ _)); exact BK182.out⟩, ⟨by (with_reducible repeat (first | refine blk_drewN ?_ _ | refine blk_drew ?_ | refine blk_alloc ?_ _)); refine blk_far ?_ NB183_200.out _; (with_reducible repeat (first | refine blk_drewN ?_ _ | refine blk_drew ?_ | refine blk_alloc ?_ _)); exact BK183.out⟩, ⟨by (with_reducible repeat (first | refine blk_drewN ?_ _ | refine blk_drew ?_ | refine blk_alloc ?_ _)); refine blk_far ?_ NB184_200.out _; (with_reducible repeat (first | refine blk_drewN ?_ _ | refine blk_drew ?_ | refine blk_alloc ?_ _)); exact BK184.out⟩, ⟨by (with_reducible repeat (first | refine blk_drewN ?_ _ | refine blk_drew ?_ | refine blk_alloc ?_ _)); refine blk_far ?_ NB193_200.out _; (with_reducible repeat (first | refine blk_drewN ?_ _ | refine blk_drew ?_ | refine blk_alloc ?_ _)); exact BK193.out⟩, ⟨by (with_reducible repeat (first | refine blk_drewN ?_ _ | refine blk_drew ?_ | refine blk_alloc ?_ _)); refine blk_put (cs := #[.int .i64 (l3.length : Int), .int .i64 (l2.length : Int), .int .i64 t191, u201003]) ?_ 3 _ rfl; (with_reducible repeat (first | refine blk_drewN ?_ _ | refine blk_drew ?_ | refine blk_alloc ?_ _)); exact BK200.out⟩, ⟨q3_⟩⟩
                                              · rw [if_neg c124] at H
                                                exact absurd H (by simp)
                                            · rw [if_neg c123] at H
                                              exact absurd H (by simp)
                                          · rw [if_neg c122] at H
                                            exact absurd H (by simp)
                                        · rw [if_neg c121] at H
                                          exact absurd H (by simp)
                                      · rw [if_neg c119] at H
                                        exact absurd H (by simp)
                                    · rw [if_neg c118] at H
                                      exact absurd H (by simp)
                                  · rw [if_neg c117] at H
                                    exact absurd H (by simp)
                                · rw [if_neg c116] at H
                                  exact absurd H (by simp)
                              · rw [if_neg c114] at H
                                have c114b0 : decide (x101_4 < (l3.length : Int)) = false := decide_eq_false c114
                                clear c114
                                have H' := Aside0.mk H
                                clear H
                                go_wp2
                                go_roundg k4
                                case measure => have := HJ7.out; have := HJ56.out; have := HK3.out; have := HK4.out; omega
                                case rel => exact ⟨(x17_4), (wrap64 (x96_3 + 1)), (x201003_4), (u201003), q130_, (by first | exact H' | ((try (rw [hji115])); exact H')), ⟨by have := HJ7.out; have := HJ56.out; have := HK3.out; have := HK4.out; omega⟩, ⟨q119_⟩, ⟨q113_⟩, ⟨q97_⟩, ⟨q98_⟩, ⟨q99_⟩, ⟨q100_⟩, ⟨q101_⟩, ⟨q3_⟩⟩
                        · rw [if_neg c108] at H
                          have c108b0 : decide (x96_3 < (l2.length : Int)) = false := decide_eq_false c108
                          clear c108
                          replace H := Option.bind_eq_some_iff.mp H
                          obtain ⟨t204, A1410, H⟩ := H
                          replace H : (if t204 = true then (some ((l3.length : Int), (l2.length : Int), t191, x201003_3, 0)) else (some (0, 0, 0, ([] : List Int), 2))) = some (r1, r2, r3, r4, r5) := H
                          have A141 := Aside0.mk A1410
                          clear A1410
                          by_cases c142 : t204 = true
                          · subst c142
                            have H1 : (some ((l3.length : Int), (l2.length : Int), t191, x201003_3, 0)) = some (r1, r2, r3, r4, r5) := by rw [if_pos rfl] at H; exact H
                            clear H
                            have H := H1
                            clear H1
                            simp only [Option.some.injEq, Prod.mk.injEq] at H
                            obtain ⟨rfl, rfl, rfl, rfl, rfl⟩ := H
                            have hnb143 := NB200_182.out
                            have hnc143 := NB182_200.out
                            have hnb144 := NB200_183.out
                            have hnc144 := NB183_200.out
                            have hnb145 := NB200_184.out
                            have hnc145 := NB184_200.out
                            have hnb146 := NB200_193.out
                            have hnc146 := NB193_200.out
                            have hcz147_0 : wr.cell? ⟨gb200, 0, none⟩ = some (.int .i64 (l3.length : Int)) := (blk_cell BK200.out 0).trans rfl
                            have hcz147_1 : wr.cell? ⟨gb200, 1, none⟩ = some (.int .i64 (l2.length : Int)) := (blk_cell BK200.out 1).trans rfl
                            have hcz147_2 : wr.cell? ⟨gb200, 2, none⟩ = some (.int .i64 t191) := (blk_cell BK200.out 2).trans rfl
                            have hcz147_3 : wr.cell? ⟨gb200, 3, none⟩ = some (u201003) := (blk_cell BK200.out 3).trans rfl
                            have hfz147_0 := blk_frozen BK200.out 0
                            have hfz147_1 := blk_frozen BK200.out 1
                            have hfz147_2 := blk_frozen BK200.out 2
                            have hfz147_3 := blk_frozen BK200.out 3
                            obtain ⟨Ao148, co148, eo148⟩ := Kd.R_slice HO_201003.out
                            subst eo148
                            go_wp2_with (first | (go_at_call 46; refine calls_of_args (args' := #[.slice Ao148 x201003_3.length co148, .pointer (some ⟨gb193, 0, none⟩)]) (by first | rfl | rfl) ?_; (with_reducible refine (integral_Tile_1.calls k3 _ _ x201003_3 gb193 t191 true _ ?side1 ?side2 ?side3 A141.out).mono ?_); (case side1 => repeat (first | exact (Kd.R_reads' HO_201003.out).2.2 | (with_reducible refine Kd.C_alloc ?_ _) | (with_reducible refine Kd.C_drewN ?_ _) | (with_reducible refine Kd.C_drew ?_))); (case side2 => exact (Kd.R_reads' HO_201003.out).2.1); (case side3 => exact q100_); rintro e w149 ⟨rfl, hb⟩; have n0_ := Aside0.mk (Kd.R_below q119_ hb); have n1_ := Aside0.mk (Kd.R_below q113_ hb); have n2_ := Aside0.mk (blk_below (g := gb182) (o := .cells #[.int .i64 a0_0, .int .i64 a0_1, .int .i64 a0_2, .slice A0_3 l0_3.length c0_3] 26 (0, 0)) q97_ hb); have n3_ := Aside0.mk (blk_below (g := gb183) (o := .cells #[.int .i64 a1_0, .int .i64 a1_1, .int .i64 a1_2, .int .i64 a1_3] 32 (0, 0)) q98_ hb); have n4_ := Aside0.mk (blk_below (g := gb184) (o := .cells #[.int .i64 0, .int .i64 0, .int .i64 0, .slice none 0 0] 26 (0, 0)) q99_ hb); have n5_ := Aside0.mk (blk_below (g := gb193) (o := .cells #[.int .i64 t191] 3 (0, 0)) q100_ hb); have n6_ := Aside0.mk (blk_below (g := gb200) (o := .cells #[.int .i64 (l3.length : Int), .int .i64 (l2.length : Int), .int .i64 t191, .slice Ao148 x201003_3.length co148] 26 (0, 0)) q101_ hb); have n7_ := Aside0.mk (below_step q3_ hb); clear HO_17; clear HO_201003; clear BK182; clear BK183; clear BK184; clear BK193; clear BK200; clear HB; have HO_17 := n0_; have HO_201003 := n1_; have BK182 := n2_; have BK183 := n3_; have BK184 := n4_; have BK193 := n5_; have BK200 := n6_; have HB := n7_; clear n0_ n1_ n2_ n3_ n4_ n5_ n6_ n7_; (try clear hb); (try clear hb2); (try clear hk); (try clear hi); have hcz150_0 : w149.cell? ⟨gb200, 0, none⟩ = some (.int .i64 (l3.length : Int)) := (blk_cell BK200.out 0).trans rfl; have hcz150_1 : w149.cell? ⟨gb200, 1, none⟩ = some (.int .i64 (l2.length : Int)) := (blk_cell BK200.out 1).trans rfl; have hcz150_2 : w149.cell? ⟨gb200, 2, none⟩ = some (.int .i64 t191) := (blk_cell BK200.out 2).trans rfl; have hcz150_3 : w149.cell? ⟨gb200, 3, none⟩ = some (.slice Ao148 x201003_3.length co148) := (blk_cell BK200.out 3).trans rfl; have hfz150_0 := blk_frozen BK200.out 0; have hfz150_1 := blk_frozen BK200.out 1; have hfz150_2 := blk_frozen BK200.out 2; have hfz150_3 := blk_frozen BK200.out 3; have hnb151 := NB184_182.out; have hnc151 := NB182_184.out; have hnb152 := NB184_183.out; have hnc152 := NB183_184.out; have hnb153 := NB184_193.out; have hnc153 := NB193_184.out; have hcz154_0 : w149.cell? ⟨gb184, 0, none⟩ = some (.int .i64 0) := (blk_cell BK184.out 0).trans rfl; have hcz154_1 : w149.cell? ⟨gb184, 1, none⟩ = some (.int .i64 0) := (blk_cell BK184.out 1).trans rfl; have hcz154_2 : w149.cell? ⟨gb184, 2, none⟩ = some (.int .i64 0) := (blk_cell BK184.out 2).trans rfl; have hcz154_3 : w149.cell? ⟨gb184, 3, none⟩ = some (.slice none 0 0) := (blk_cell BK184.out 3).trans rfl; have hfz154_0 := blk_frozen BK184.out 0; have hfz154_1 := blk_frozen BK184.out 1; have hfz154_2 := blk_frozen BK184.out 2; have hfz154_3 := blk_frozen BK184.out 3))
                            refine bodyPost_ret (results_ct rfl _ _ gb184 26 #[.int .i64 (l3.length : Int), .int .i64 (l2.length : Int), .int .i64 t191, .slice Ao148 x201003_3.length co148] (0, 0) _ rfl (by (with_reducible repeat (first | refine blk_drewN ?_ _ | refine blk_drew ?_ | refine blk_alloc ?_ _)); refine blk_put (cs := #[.int .i64 (l3.length : Int), .int .i64 (l2.length : Int), .int .i64 t191, .slice none 0 0]) ?_ 3 _ rfl; (with_reducible repeat (first | refine blk_drewN ?_ _ | refine blk_drew ?_ | refine blk_alloc ?_ _)); refine blk_put (cs := #[.int .i64 (l3.length : Int), .int .i64 (l2.length : Int), .int .i64 0, .slice none 0 0]) ?_ 2 _ rfl; (with_reducible repeat (first | refine blk_drewN ?_ _ | refine blk_drew ?_ | refine blk_alloc ?_ _)); refine blk_put (cs := #[.int .i64 (l3.length : Int), .int .i64 0, .int .i64 0, .slice none 0 0]) ?_ 1 _ rfl; (with_reducible repeat (first | refine blk_drewN ?_ _ | refine blk_drew ?_ | refine blk_alloc ?_ _)); refine blk_put (cs := #[.int .i64 0, .int .i64 0, .int .i64 0, .slice none 0 0]) ?_ 0 _ rfl; (with_reducible repeat (first | refine blk_drewN ?_ _ | refine blk_drew ?_ | refine blk_alloc ?_ _)); exact BK184.out) Try.underlying26 rfl (by kernel_rfl)) rfl ?_
                            exact ⟨_, q126_, by (with_reducible repeat (first | apply Kd.R_alloc | apply Kd.R_drewN | apply Kd.R_drew)); exact Kd.R_mono (Kd.R_far (p := ⟨gb184, 3, none⟩) (Kd.R_far (p := ⟨gb184, 2, none⟩) (Kd.R_far (p := ⟨gb184, 1, none⟩) (Kd.R_far (p := ⟨gb184, 0, none⟩) (Kd.R_types HO_201003.out BK184.out (by decide)) (fun _ hk => hk.2) (.int .i64 (l3.length : Int))) (fun _ hk => hk.2) (.int .i64 (l2.length : Int))) (fun _ hk => hk.2) (.int .i64 t191)) (fun _ hk => hk.2) (.slice Ao148 x201003_3.length co148)) (fun _ hk => trivial), q3_⟩
                          · replace c142 := Bool.eq_false_iff.mpr c142
                            subst c142
                            have H1 : (some (0, 0, 0, ([] : List Int), 2)) = some (r1, r2, r3, r4, r5) := by rw [if_neg (show ¬ (false = true) by decide)] at H; exact H
                            clear H
                            have H := H1
                            clear H1
                            simp only [Option.some.injEq, Prod.mk.injEq] at H
                            obtain ⟨rfl, rfl, rfl, rfl, rfl⟩ := H
                            have hnb155 := NB200_182.out
                            have hnc155 := NB182_200.out
                            have hnb156 := NB200_183.out
                            have hnc156 := NB183_200.out
                            have hnb157 := NB200_184.out
                            have hnc157 := NB184_200.out
                            have hnb158 := NB200_193.out
                            have hnc158 := NB193_200.out
                            have hcz159_0 : wr.cell? ⟨gb200, 0, none⟩ = some (.int .i64 (l3.length : Int)) := (blk_cell BK200.out 0).trans rfl
                            have hcz159_1 : wr.cell? ⟨gb200, 1, none⟩ = some (.int .i64 (l2.length : Int)) := (blk_cell BK200.out 1).trans rfl
                            have hcz159_2 : wr.cell? ⟨gb200, 2, none⟩ = some (.int .i64 t191) := (blk_cell BK200.out 2).trans rfl
                            have hcz159_3 : wr.cell? ⟨gb200, 3, none⟩ = some (u201003) := (blk_cell BK200.out 3).trans rfl
                            have hfz159_0 := blk_frozen BK200.out 0
                            have hfz159_1 := blk_frozen BK200.out 1
                            have hfz159_2 := blk_frozen BK200.out 2
                            have hfz159_3 := blk_frozen BK200.out 3
                            obtain ⟨Ao160, co160, eo160⟩ := Kd.R_slice HO_201003.out
                            subst eo160
                            go_wp2_with (first | (go_at_call 46; refine calls_of_args (args' := #[.slice Ao160 x201003_3.length co160, .pointer (some ⟨gb193, 0, none⟩)]) (by first | rfl | rfl) ?_; (with_reducible refine (integral_Tile_1.calls k3 _ _ x201003_3 gb193 t191 false _ ?side1 ?side2 ?side3 A141.out).mono ?_); (case side1 => repeat (first | exact (Kd.R_reads' HO_201003.out).2.2 | (with_reducible refine Kd.C_alloc ?_ _) | (with_reducible refine Kd.C_drewN ?_ _) | (with_reducible refine Kd.C_drew ?_))); (case side2 => exact (Kd.R_reads' HO_201003.out).2.1); (case side3 => exact q100_); rintro e w161 ⟨rfl, hb⟩; have n0_ := Aside0.mk (Kd.R_below q119_ hb); have n1_ := Aside0.mk (Kd.R_below q113_ hb); have n2_ := Aside0.mk (blk_below (g := gb182) (o := .cells #[.int .i64 a0_0, .int .i64 a0_1, .int .i64 a0_2, .slice A0_3 l0_3.length c0_3] 26 (0, 0)) q97_ hb); have n3_ := Aside0.mk (blk_below (g := gb183) (o := .cells #[.int .i64 a1_0, .int .i64 a1_1, .int .i64 a1_2, .int .i64 a1_3] 32 (0, 0)) q98_ hb); have n4_ := Aside0.mk (blk_below (g := gb184) (o := .cells #[.int .i64 0, .int .i64 0, .int .i64 0, .slice none 0 0] 26 (0, 0)) q99_ hb); have n5_ := Aside0.mk (blk_below (g := gb193) (o := .cells #[.int .i64 t191] 3 (0, 0)) q100_ hb); have n6_ := Aside0.mk (blk_below (g := gb200) (o := .cells #[.int .i64 (l3.length : Int), .int .i64 (l2.length : Int), .int .i64 t191, .slice Ao160 x201003_3.length co160] 26 (0, 0)) q101_ hb); have n7_ := Aside0.mk (below_step q3_ hb); clear HO_17; clear HO_201003; clear BK182; clear BK183; clear BK184; clear BK193; clear BK200; clear HB; have HO_17 := n0_; have HO_201003 := n1_; have BK182 := n2_; have BK183 := n3_; have BK184 := n4_; have BK193 := n5_; have BK200 := n6_; have HB := n7_; clear n0_ n1_ n2_ n3_ n4_ n5_ n6_ n7_; (try clear hb); (try clear hb2); (try clear hk); (try clear hi); have hnb162 := NB184_182.out; have hnc162 := NB182_184.out; have hnb163 := NB184_183.out; have hnc163 := NB183_184.out; have hnb164 := NB184_193.out; have hnc164 := NB193_184.out; have hcz165_0 : w161.cell? ⟨gb184, 0, none⟩ = some (.int .i64 0) := (blk_cell BK184.out 0).trans rfl; have hcz165_1 : w161.cell? ⟨gb184, 1, none⟩ = some (.int .i64 0) := (blk_cell BK184.out 1).trans rfl; have hcz165_2 : w161.cell? ⟨gb184, 2, none⟩ = some (.int .i64 0) := (blk_cell BK184.out 2).trans rfl; have hcz165_3 : w161.cell? ⟨gb184, 3, none⟩ = some (.slice none 0 0) := (blk_cell BK184.out 3).trans rfl; have hfz165_0 := blk_frozen BK184.out 0; have hfz165_1 := blk_frozen BK184.out 1; have hfz165_2 := blk_frozen BK184.out 2; have hfz165_3 := blk_frozen BK184.out 3))
                            refine bodyPost_ret (results_ct rfl _ _ gb184 26 #[.int .i64 0, .int .i64 0, .int .i64 0, .slice none 0 0] (0, 0) _ rfl q0_ Try.underlying26 rfl (by kernel_rfl)) rfl ?_
                            exact ⟨_, q126_, q79_, q3_⟩
                  · rw [if_neg c94] at H
                    exact absurd H (by simp)
                · rw [if_neg c93] at H
                  exact absurd H (by simp)
  · rw [if_neg c7] at H
    have c7b0 : (t185 == 0) = false := beq_eq_false_iff_ne.mpr c7
    have c7b1 : (t185 != 0) = true := bne_iff_ne.mpr c7
    simp only [Option.some.injEq, Prod.mk.injEq] at H
    obtain ⟨rfl, rfl, rfl, rfl, rfl⟩ := H
    go_enter Try.func22, Try.ntmps22
    go_wp2_with (first | ((with_reducible refine gate_dst (N := 5) rfl ?_); (try (refine gate_guard (by rfl) ?_; dsimp only)); refine box_event ?hg (N := 5) ?hd (cs := #[.int .i64 a0_0, .int .i64 a0_1, .int .i64 a0_2, .slice A0_3 l0_3.length c0_3]) (t := 26) ?hr ?_; (case hd => rfl); (case hg => rfl); (case hr => first | (go_simp; done) | (go_simp; rfl)); intro gb182 hg w166 hbox hb; have n0_ := Aside0.mk (below_step q83_ hb); have n1_ := Aside0.mk (hbox); have n2_ := Aside0.mk ((q62_ : w.heap.size ≤ gb182)); have n3_ := Aside0.mk ((q62_ : w.heap.size ≤ gb182)); clear HB; have HB := n0_; have BK182 := n1_; have GW182 := n2_; have GE182 := n3_; clear n0_ n1_ n2_ n3_; clear hb hbox hg) | ((with_reducible refine gate_dst (N := 6) rfl ?_); (try (refine gate_guard (by rfl) ?_; dsimp only)); refine box_event ?hg (N := 6) ?hd (cs := #[.int .i64 a1_0, .int .i64 a1_1, .int .i64 a1_2, .int .i64 a1_3]) (t := 32) ?hr ?_; (case hd => rfl); (case hg => rfl); (case hr => first | (go_simp; done) | (go_simp; rfl)); intro gb183 hg w167 hbox hb; have n0_ := Aside0.mk (blk_below (g := gb182) (o := .cells #[.int .i64 a0_0, .int .i64 a0_1, .int .i64 a0_2, .slice A0_3 l0_3.length c0_3] 26 (0, 0)) q97_ hb); have n1_ := Aside0.mk (below_step q71_ hb); have n2_ := Aside0.mk (hbox); have n3_ := Aside0.mk ((q47_ : w.heap.size ≤ gb183)); have n4_ := Aside0.mk ((q47_ : w.heap.size ≤ gb183)); have n5_ := Aside0.mk ((q4_ : gb182 ≠ gb183)); have n6_ := Aside0.mk ((q5_ : gb183 ≠ gb182)); clear BK182; clear HB; have BK182 := n0_; have HB := n1_; have BK183 := n2_; have GW183 := n3_; have GE183 := n4_; have NB182_183 := n5_; have NB183_182 := n6_; clear n0_ n1_ n2_ n3_ n4_ n5_ n6_; clear hb hbox hg) | ((with_reducible refine gate_dst (N := 10) rfl ?_); (try (refine gate_guard (by rfl) ?_; dsimp only)); refine box_event ?hg (N := 10) ?hd (cs := #[.int .i64 0, .int .i64 0, .int .i64 0, .slice none 0 0]) (t := 26) ?hr ?_; (case hd => rfl); (case hg => rfl); (case hr => first | (go_simp; done) | (go_simp; rfl)); intro gb184 hg w168 hbox hb; have n0_ := Aside0.mk (blk_below (g := gb182) (o := .cells #[.int .i64 a0_0, .int .i64 a0_1, .int .i64 a0_2, .slice A0_3 l0_3.length c0_3] 26 (0, 0)) q97_ hb); have n1_ := Aside0.mk (blk_below (g := gb183) (o := .cells #[.int .i64 a1_0, .int .i64 a1_1, .int .i64 a1_2, .int .i64 a1_3] 32 (0, 0)) q98_ hb); have n2_ := Aside0.mk (below_step q52_ hb); have n3_ := Aside0.mk (hbox); have n4_ := Aside0.mk ((q32_ : w.heap.size ≤ gb184)); have n5_ := Aside0.mk ((q32_ : w.heap.size ≤ gb184)); have n6_ := Aside0.mk ((q4_ : gb182 ≠ gb184)); have n7_ := Aside0.mk ((q5_ : gb184 ≠ gb182)); have n8_ := Aside0.mk ((q16_ : gb183 ≠ gb184)); have n9_ := Aside0.mk ((q17_ : gb184 ≠ gb183)); clear BK182; clear BK183; clear HB; have BK182 := n0_; have BK183 := n1_; have HB := n2_; have BK184 := n3_; have GW184 := n4_; have GE184 := n5_; have NB182_184 := n6_; have NB184_182 := n7_; have NB183_184 := n8_; have NB184_183 := n9_; clear n0_ n1_ n2_ n3_ n4_ n5_ n6_ n7_ n8_ n9_; clear hb hbox hg; have hnb169 := NB182_183.out; have hnc169 := NB183_182.out; have hnb170 := NB182_184.out; have hnc170 := NB184_182.out; have hcz171_0 : w168.cell? ⟨gb182, 0, none⟩ = some (.int .i64 a0_0) := (blk_cell BK182.out 0).trans rfl; have hcz171_1 : w168.cell? ⟨gb182, 1, none⟩ = some (.int .i64 a0_1) := (blk_cell BK182.out 1).trans rfl; have hcz171_2 : w168.cell? ⟨gb182, 2, none⟩ = some (.int .i64 a0_2) := (blk_cell BK182.out 2).trans rfl; have hcz171_3 : w168.cell? ⟨gb182, 3, none⟩ = some (.slice A0_3 l0_3.length c0_3) := (blk_cell BK182.out 3).trans rfl; have hfz171_0 := blk_frozen BK182.out 0; have hfz171_1 := blk_frozen BK182.out 1; have hfz171_2 := blk_frozen BK182.out 2; have hfz171_3 := blk_frozen BK182.out 3) | ((with_reducible refine gate_callee (f := 29) rfl ?_); refine goesL_ (some 22) rfl rfl Try.func29 (by kernel_rfl) rfl #[.agg #[.int .i64 a0_0, .int .i64 a0_1, .int .i64 a0_2, .slice A0_3 l0_3.length c0_3]] rfl q80_ ?_; (with_reducible refine (integral_check.calls k a0_0 a0_1 a0_2 _ _ l0_3 t185 _ ?side1 ?side2 A6.out).mono ?_); (case side1 => repeat (first | exact (Kd.C_below HR0_3.out HB.out) | (with_reducible refine Kd.C_alloc ?_ _) | (with_reducible refine Kd.C_drewN ?_ _) | (with_reducible refine Kd.C_drew ?_))); (case side2 => exact HC0_3.out); rintro e w172 ⟨rfl, hb⟩; refine ⟨_, rfl, ?_⟩; have n0_ := Aside0.mk (blk_below (g := gb182) (o := .cells #[.int .i64 a0_0, .int .i64 a0_1, .int .i64 a0_2, .slice A0_3 l0_3.length c0_3] 26 (0, 0)) q97_ hb); have n1_ := Aside0.mk (blk_below (g := gb183) (o := .cells #[.int .i64 a1_0, .int .i64 a1_1, .int .i64 a1_2, .int .i64 a1_3] 32 (0, 0)) q98_ hb); have n2_ := Aside0.mk (blk_below (g := gb184) (o := .cells #[.int .i64 0, .int .i64 0, .int .i64 0, .slice none 0 0] 26 (0, 0)) q99_ hb); have n3_ := Aside0.mk (below_step q34_ hb); clear BK182; clear BK183; clear BK184; clear HB; have BK182 := n0_; have BK183 := n1_; have BK184 := n2_; have HB := n3_; clear n0_ n1_ n2_ n3_; (try clear hb); (try clear hb2); (try clear hk); (try clear hi); have hnb173 := NB184_183.out; have hnc173 := NB183_184.out; have hcz174_0 : w172.cell? ⟨gb184, 0, none⟩ = some (.int .i64 0) := (blk_cell BK184.out 0).trans rfl; have hcz174_1 : w172.cell? ⟨gb184, 1, none⟩ = some (.int .i64 0) := (blk_cell BK184.out 1).trans rfl; have hcz174_2 : w172.cell? ⟨gb184, 2, none⟩ = some (.int .i64 0) := (blk_cell BK184.out 2).trans rfl; have hcz174_3 : w172.cell? ⟨gb184, 3, none⟩ = some (.slice none 0 0) := (blk_cell BK184.out 3).trans rfl; have hfz174_0 := blk_frozen BK184.out 0; have hfz174_1 := blk_frozen BK184.out 1; have hfz174_2 := blk_frozen BK184.out 2; have hfz174_3 := blk_frozen BK184.out 3))
    refine bodyPost_ret (results_ct rfl _ _ gb184 26 #[.int .i64 0, .int .i64 0, .int .i64 0, .slice none 0 0] (0, 0) _ rfl q0_ Try.underlying26 rfl (by kernel_rfl)) rfl ?_
    exact ⟨_, q126_, q79_, q34_⟩

end Go.Proofs.Ytkipnpgcpohlcaa.PIntegralMonotone
