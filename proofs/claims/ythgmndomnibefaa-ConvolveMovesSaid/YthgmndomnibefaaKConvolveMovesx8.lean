-- Written by a program of the session (wip/tools/pack.py): the printed texts, pruned; checked by Lean.
import Derived.Test.YthgmndomnibefaaKConvolveMovesa
import Derived.Test.YthgmndomnibefaaKConvolveMovesx0
import Derived.Test.YthgmndomnibefaaKConvolveMovesx3
import Derived.Test.YthgmndomnibefaaKConvolveMovesx4
import Derived.Test.YthgmndomnibefaaKConvolveMovesx5
import Derived.Test.YthgmndomnibefaaKConvolveMovesx6
import Derived.Test.YthgmndomnibefaaKConvolveMovesx7
namespace Go.Proofs.Ythgmndomnibefaa.PConvolveMoves
open Go.RowKit Go.Proofs.YthgmndomnibefaaW.PrintWords Go.Proofs.YthgmndomnibefaaW.PrintLast Go.Proofs.YthgmndomnibefaaW.PrintMore
attribute [local go_sem] max2_int min2_int max_two min_two max_three min_three max_four min_four   -- for this text's walks alone
set_option linter.unusedVariables false
set_option linter.unusedSimpArgs false
mutual
def convolve_Tile.j0 : Nat → Int → Int → List Int → Int → Int → Bool → Int → Int → Int → List Int → Int → Int → Int → Int → Int → Int → Option (Int × Int × Int × List Int × Int)
  | 0, _, _, _, _, _, _, _, _, _, _, _, _, _, _, _, _ => none
  | k + 1, x2, x3, x4, x5, x6, x31, x171000, x171001, x171002, x171003, x172000, x172001, x173000, x173001, x173002, x173003 => if x31 = true then (some (0, 0, 0, ([] : List Int), 1)) else ((convolve_Check.f k x171002 x2 x3 x4 x5 x6).bind fun t176 => (if t176 = 0 then ((rect_Empty.f x173000 x173001 x173002 x173003).bind fun t177 => (if t177 = true then (convolve_Tile.j1 k x2 x3 x4 x5 x6 true x171000 x171001 x171002 x171003 x172000 x172001 x173000 x173001 x173002 x173003) else ((rect_Inside.f k x173000 x173001 x173002 x173003 0 0 x171000 x171001).bind fun t178 => (convolve_Tile.j1 k x2 x3 x4 x5 x6 (!t178) x171000 x171001 x171002 x171003 x172000 x172001 x173000 x173001 x173002 x173003)))) else (some (0, 0, 0, ([] : List Int), t176))))
def convolve_Tile.j1 : Nat → Int → Int → List Int → Int → Int → Bool → Int → Int → Int → List Int → Int → Int → Int → Int → Int → Int → Option (Int × Int × Int × List Int × Int)
  | 0, _, _, _, _, _, _, _, _, _, _, _, _, _, _, _, _ => none
  | k + 1, x2, x3, x4, x5, x6, x56, x171000, x171001, x171002, x171003, x172000, x172001, x173000, x173001, x173002, x173003 => if x56 = true then (some (0, 0, 0, ([] : List Int), 8)) else (convolve_Tile.l0 k x2 x3 x4 x5 x6 x173001 x171000 x171001 x171002 x171003 x172000 x172001 x173000 x173001 x173002 x173003 (wrap64 (x173002 - x173000)) (wrap64 (x173003 - x173001)) x6 ([] : List Int))
def convolve_Tile.l0 : Nat → Int → Int → List Int → Int → Int → Int → Int → Int → Int → List Int → Int → Int → Int → Int → Int → Int → Int → Int → Int → List Int → Option (Int × Int × Int × List Int × Int)
  | 0, _, _, _, _, _, _, _, _, _, _, _, _, _, _, _, _, _, _, _, _ => none
  | k + 1, x2, x3, x4, x5, x6, x20, x171000, x171001, x171002, x171003, x172000, x172001, x173000, x173001, x173002, x173003, x180000, x180001, x180002, x180003 => if x20 < x173003 then (convolve_Tile.l1 k x2 x3 x4 x5 x6 x20 x173000 x171000 x171001 x171002 x171003 x172000 x172001 x173000 x173001 x173002 x173003 x180000 x180001 x180002 x180003) else (some (x180000, x180001, x180002, x180003, 0))
def convolve_Tile.l1 : Nat → Int → Int → List Int → Int → Int → Int → Int → Int → Int → Int → List Int → Int → Int → Int → Int → Int → Int → Int → Int → Int → List Int → Option (Int × Int × Int × List Int × Int)
  | 0, _, _, _, _, _, _, _, _, _, _, _, _, _, _, _, _, _, _, _, _, _ => none
  | k + 1, x2, x3, x4, x5, x6, x20, x21, x171000, x171001, x171002, x171003, x172000, x172001, x173000, x173001, x173002, x173003, x180000, x180001, x180002, x180003 => if x21 < x173002 then ((convolve_sum.f k x171000 x171001 x171002 x171003 x172000 x172001 x2 x3 x4 (wrap64 (x21 - (wrap64 (Int.tdiv x2 2)))) (wrap64 (x20 - (wrap64 (Int.tdiv x3 2))))).bind fun t180 => ((fixed_Shift.f k t180 x5).bind fun t181 => ((fixed_Clamp.f t181 x6).bind fun t182 => (if x180003.length < 17592186044416 then (convolve_Tile.l1 k x2 x3 x4 x5 x6 x20 (wrap64 (x21 + 1)) x171000 x171001 x171002 x171003 x172000 x172001 x173000 x173001 x173002 x173003 x180000 x180001 x180002 (x180003 ++ [t182])) else (none))))) else (convolve_Tile.l0 k x2 x3 x4 x5 x6 (wrap64 (x20 + 1)) x171000 x171001 x171002 x171003 x172000 x172001 x173000 x173001 x173002 x173003 x180000 x180001 x180002 x180003)
end
def convolve_Tile.f (k : Nat) (a0_0 : Int) (a0_1 : Int) (a0_2 : Int) (l0_3 : List Int) (a1_0 : Int) (a1_1 : Int) (a2 : Int) (a3 : Int) (l4 : List Int) (a5 : Int) (a6 : Int) (a7_0 : Int) (a7_1 : Int) (a7_2 : Int) (a7_3 : Int) : Option (Int × Int × Int × List Int × Int) := (plane_Valid.f k a0_0 a0_1 a0_2 l0_3).bind fun t174 => (if t174 = true then ((border_Valid.f k a1_0 a1_1 a0_2).bind fun t175 => (convolve_Tile.j0 k a2 a3 l4 a5 a6 (!t175) a0_0 a0_1 a0_2 l0_3 a1_0 a1_1 a7_0 a7_1 a7_2 a7_3)) else (convolve_Tile.j0 k a2 a3 l4 a5 a6 true a0_0 a0_1 a0_2 l0_3 a1_0 a1_1 a7_0 a7_1 a7_2 a7_3))
theorem convolve_Tile.mono_l : ∀ k, (∀ y0 y1 y2 y3 y4 y5 y6 y7 y8 y9 y10 y11 y12 y13 y14 y15, LeO (convolve_Tile.j0 k y0 y1 y2 y3 y4 y5 y6 y7 y8 y9 y10 y11 y12 y13 y14 y15) (convolve_Tile.j0 (k + 1) y0 y1 y2 y3 y4 y5 y6 y7 y8 y9 y10 y11 y12 y13 y14 y15)) ∧ (∀ y0 y1 y2 y3 y4 y5 y6 y7 y8 y9 y10 y11 y12 y13 y14 y15, LeO (convolve_Tile.j1 k y0 y1 y2 y3 y4 y5 y6 y7 y8 y9 y10 y11 y12 y13 y14 y15) (convolve_Tile.j1 (k + 1) y0 y1 y2 y3 y4 y5 y6 y7 y8 y9 y10 y11 y12 y13 y14 y15)) ∧ (∀ y0 y1 y2 y3 y4 y5 y6 y7 y8 y9 y10 y11 y12 y13 y14 y15 y16 y17 y18 y19, LeO (convolve_Tile.l0 k y0 y1 y2 y3 y4 y5 y6 y7 y8 y9 y10 y11 y12 y13 y14 y15 y16 y17 y18 y19) (convolve_Tile.l0 (k + 1) y0 y1 y2 y3 y4 y5 y6 y7 y8 y9 y10 y11 y12 y13 y14 y15 y16 y17 y18 y19)) ∧ (∀ y0 y1 y2 y3 y4 y5 y6 y7 y8 y9 y10 y11 y12 y13 y14 y15 y16 y17 y18 y19 y20, LeO (convolve_Tile.l1 k y0 y1 y2 y3 y4 y5 y6 y7 y8 y9 y10 y11 y12 y13 y14 y15 y16 y17 y18 y19 y20) (convolve_Tile.l1 (k + 1) y0 y1 y2 y3 y4 y5 y6 y7 y8 y9 y10 y11 y12 y13 y14 y15 y16 y17 y18 y19 y20))
  | 0 => ⟨fun _ _ _ _ _ _ _ _ _ _ _ _ _ _ _ _ r h => by simp [convolve_Tile.j0] at h, fun _ _ _ _ _ _ _ _ _ _ _ _ _ _ _ _ r h => by simp [convolve_Tile.j1] at h, fun _ _ _ _ _ _ _ _ _ _ _ _ _ _ _ _ _ _ _ _ r h => by simp [convolve_Tile.l0] at h, fun _ _ _ _ _ _ _ _ _ _ _ _ _ _ _ _ _ _ _ _ _ r h => by simp [convolve_Tile.l1] at h⟩
  | k + 1 => by
    obtain ⟨ih0, ih1, ih2, ih3⟩ := convolve_Tile.mono_l k
    refine ⟨?_, ?_, ?_, ?_⟩
    · intro y0 y1 y2 y3 y4 y5 y6 y7 y8 y9 y10 y11 y12 y13 y14 y15
      unfold convolve_Tile.j0
      repeat' first
      | (with_reducible exact ih0 _ _ _ _ _ _ _ _ _ _ _ _ _ _ _ _)
      | (with_reducible exact ih1 _ _ _ _ _ _ _ _ _ _ _ _ _ _ _ _)
      | (with_reducible exact ih2 _ _ _ _ _ _ _ _ _ _ _ _ _ _ _ _ _ _ _ _)
      | (with_reducible exact ih3 _ _ _ _ _ _ _ _ _ _ _ _ _ _ _ _ _ _ _ _ _)
      | (with_reducible exact border_Valid.mono _ _ _ _)
      | (with_reducible exact convolve_Check.mono _ _ _ _ _ _ _)
      | (with_reducible exact convolve_sum.mono _ _ _ _ _ _ _ _ _ _ _ _)
      | (with_reducible exact fixed_Shift.mono _ _ _)
      | (with_reducible exact plane_Valid.mono _ _ _ _ _)
      | (with_reducible exact rect_Inside.mono _ _ _ _ _ _ _ _ _)
      | (with_reducible exact LeO.refl _)
      | (with_reducible exact LeO.none _)
      | (with_reducible refine LeO.ite ?_ ?_)
      | (with_reducible refine LeO.bind ?_ (fun _ => ?_))
      | exact ih0 _ _ _ _ _ _ _ _ _ _ _ _ _ _ _ _
      | exact ih1 _ _ _ _ _ _ _ _ _ _ _ _ _ _ _ _
      | exact ih2 _ _ _ _ _ _ _ _ _ _ _ _ _ _ _ _ _ _ _ _
      | exact ih3 _ _ _ _ _ _ _ _ _ _ _ _ _ _ _ _ _ _ _ _ _
      | exact border_Valid.mono _ _ _ _
      | exact convolve_Check.mono _ _ _ _ _ _ _
      | exact convolve_sum.mono _ _ _ _ _ _ _ _ _ _ _ _
      | exact fixed_Shift.mono _ _ _
      | exact plane_Valid.mono _ _ _ _ _
      | exact rect_Inside.mono _ _ _ _ _ _ _ _ _
      | exact LeO.none _
      | refine LeO.ite ?_ ?_
      | refine LeO.bind ?_ (fun _ => ?_)
    · intro y0 y1 y2 y3 y4 y5 y6 y7 y8 y9 y10 y11 y12 y13 y14 y15
      unfold convolve_Tile.j1
      repeat' first
      | (with_reducible exact ih0 _ _ _ _ _ _ _ _ _ _ _ _ _ _ _ _)
      | (with_reducible exact ih1 _ _ _ _ _ _ _ _ _ _ _ _ _ _ _ _)
      | (with_reducible exact ih2 _ _ _ _ _ _ _ _ _ _ _ _ _ _ _ _ _ _ _ _)
      | (with_reducible exact ih3 _ _ _ _ _ _ _ _ _ _ _ _ _ _ _ _ _ _ _ _ _)
      | (with_reducible exact border_Valid.mono _ _ _ _)
      | (with_reducible exact convolve_Check.mono _ _ _ _ _ _ _)
      | (with_reducible exact convolve_sum.mono _ _ _ _ _ _ _ _ _ _ _ _)
      | (with_reducible exact fixed_Shift.mono _ _ _)
      | (with_reducible exact plane_Valid.mono _ _ _ _ _)
      | (with_reducible exact rect_Inside.mono _ _ _ _ _ _ _ _ _)
      | (with_reducible exact LeO.refl _)
      | (with_reducible exact LeO.none _)
      | (with_reducible refine LeO.ite ?_ ?_)
      | (with_reducible refine LeO.bind ?_ (fun _ => ?_))
      | exact ih0 _ _ _ _ _ _ _ _ _ _ _ _ _ _ _ _
      | exact ih1 _ _ _ _ _ _ _ _ _ _ _ _ _ _ _ _
      | exact ih2 _ _ _ _ _ _ _ _ _ _ _ _ _ _ _ _ _ _ _ _
      | exact ih3 _ _ _ _ _ _ _ _ _ _ _ _ _ _ _ _ _ _ _ _ _
      | exact border_Valid.mono _ _ _ _
      | exact convolve_Check.mono _ _ _ _ _ _ _
      | exact convolve_sum.mono _ _ _ _ _ _ _ _ _ _ _ _
      | exact fixed_Shift.mono _ _ _
      | exact plane_Valid.mono _ _ _ _ _
      | exact rect_Inside.mono _ _ _ _ _ _ _ _ _
      | exact LeO.none _
      | refine LeO.ite ?_ ?_
      | refine LeO.bind ?_ (fun _ => ?_)
    · intro y0 y1 y2 y3 y4 y5 y6 y7 y8 y9 y10 y11 y12 y13 y14 y15 y16 y17 y18 y19
      unfold convolve_Tile.l0
      repeat' first
      | (with_reducible exact ih0 _ _ _ _ _ _ _ _ _ _ _ _ _ _ _ _)
      | (with_reducible exact ih1 _ _ _ _ _ _ _ _ _ _ _ _ _ _ _ _)
      | (with_reducible exact ih2 _ _ _ _ _ _ _ _ _ _ _ _ _ _ _ _ _ _ _ _)
      | (with_reducible exact ih3 _ _ _ _ _ _ _ _ _ _ _ _ _ _ _ _ _ _ _ _ _)
      | (with_reducible exact border_Valid.mono _ _ _ _)
      | (with_reducible exact convolve_Check.mono _ _ _ _ _ _ _)
      | (with_reducible exact convolve_sum.mono _ _ _ _ _ _ _ _ _ _ _ _)
      | (with_reducible exact fixed_Shift.mono _ _ _)
      | (with_reducible exact plane_Valid.mono _ _ _ _ _)
      | (with_reducible exact rect_Inside.mono _ _ _ _ _ _ _ _ _)
      | (with_reducible exact LeO.refl _)
      | (with_reducible exact LeO.none _)
      | (with_reducible refine LeO.ite ?_ ?_)
      | (with_reducible refine LeO.bind ?_ (fun _ => ?_))
      | exact ih0 _ _ _ _ _ _ _ _ _ _ _ _ _ _ _ _
      | exact ih1 _ _ _ _ _ _ _ _ _ _ _ _ _ _ _ _
      | exact ih2 _ _ _ _ _ _ _ _ _ _ _ _ _ _ _ _ _ _ _ _
      | exact ih3 _ _ _ _ _ _ _ _ _ _ _ _ _ _ _ _ _ _ _ _ _
      | exact border_Valid.mono _ _ _ _
      | exact convolve_Check.mono _ _ _ _ _ _ _
      | exact convolve_sum.mono _ _ _ _ _ _ _ _ _ _ _ _
      | exact fixed_Shift.mono _ _ _
      | exact plane_Valid.mono _ _ _ _ _
      | exact rect_Inside.mono _ _ _ _ _ _ _ _ _
      | exact LeO.none _
      | refine LeO.ite ?_ ?_
      | refine LeO.bind ?_ (fun _ => ?_)
    · intro y0 y1 y2 y3 y4 y5 y6 y7 y8 y9 y10 y11 y12 y13 y14 y15 y16 y17 y18 y19 y20
      unfold convolve_Tile.l1
      repeat' first
      | (with_reducible exact ih0 _ _ _ _ _ _ _ _ _ _ _ _ _ _ _ _)
      | (with_reducible exact ih1 _ _ _ _ _ _ _ _ _ _ _ _ _ _ _ _)
      | (with_reducible exact ih2 _ _ _ _ _ _ _ _ _ _ _ _ _ _ _ _ _ _ _ _)
      | (with_reducible exact ih3 _ _ _ _ _ _ _ _ _ _ _ _ _ _ _ _ _ _ _ _ _)
      | (with_reducible exact border_Valid.mono _ _ _ _)
      | (with_reducible exact convolve_Check.mono _ _ _ _ _ _ _)
      | (with_reducible exact convolve_sum.mono _ _ _ _ _ _ _ _ _ _ _ _)
      | (with_reducible exact fixed_Shift.mono _ _ _)
      | (with_reducible exact plane_Valid.mono _ _ _ _ _)
      | (with_reducible exact rect_Inside.mono _ _ _ _ _ _ _ _ _)
      | (with_reducible exact LeO.refl _)
      | (with_reducible exact LeO.none _)
      | (with_reducible refine LeO.ite ?_ ?_)
      | (with_reducible refine LeO.bind ?_ (fun _ => ?_))
      | exact ih0 _ _ _ _ _ _ _ _ _ _ _ _ _ _ _ _
      | exact ih1 _ _ _ _ _ _ _ _ _ _ _ _ _ _ _ _
      | exact ih2 _ _ _ _ _ _ _ _ _ _ _ _ _ _ _ _ _ _ _ _
      | exact ih3 _ _ _ _ _ _ _ _ _ _ _ _ _ _ _ _ _ _ _ _ _
      | exact border_Valid.mono _ _ _ _
      | exact convolve_Check.mono _ _ _ _ _ _ _
      | exact convolve_sum.mono _ _ _ _ _ _ _ _ _ _ _ _
      | exact fixed_Shift.mono _ _ _
      | exact plane_Valid.mono _ _ _ _ _
      | exact rect_Inside.mono _ _ _ _ _ _ _ _ _
      | exact LeO.none _
      | refine LeO.ite ?_ ?_
      | refine LeO.bind ?_ (fun _ => ?_)
theorem convolve_Tile.mono : ∀ a0 a1 a2 a3 a4 a5 a6 a7 a8 a9 a10 a11 a12 a13 a14 k, LeO (convolve_Tile.f k a0 a1 a2 a3 a4 a5 a6 a7 a8 a9 a10 a11 a12 a13 a14) (convolve_Tile.f (k + 1) a0 a1 a2 a3 a4 a5 a6 a7 a8 a9 a10 a11 a12 a13 a14) := by
  intro a0 a1 a2 a3 a4 a5 a6 a7 a8 a9 a10 a11 a12 a13 a14 k
  obtain ⟨ih0, ih1, ih2, ih3⟩ := convolve_Tile.mono_l k
  unfold convolve_Tile.f
  repeat' first
      | (with_reducible exact ih0 _ _ _ _ _ _ _ _ _ _ _ _ _ _ _ _)
      | (with_reducible exact ih1 _ _ _ _ _ _ _ _ _ _ _ _ _ _ _ _)
      | (with_reducible exact ih2 _ _ _ _ _ _ _ _ _ _ _ _ _ _ _ _ _ _ _ _)
      | (with_reducible exact ih3 _ _ _ _ _ _ _ _ _ _ _ _ _ _ _ _ _ _ _ _ _)
      | (with_reducible exact border_Valid.mono _ _ _ _)
      | (with_reducible exact convolve_Check.mono _ _ _ _ _ _ _)
      | (with_reducible exact convolve_sum.mono _ _ _ _ _ _ _ _ _ _ _ _)
      | (with_reducible exact fixed_Shift.mono _ _ _)
      | (with_reducible exact plane_Valid.mono _ _ _ _ _)
      | (with_reducible exact rect_Inside.mono _ _ _ _ _ _ _ _ _)
      | (with_reducible exact LeO.refl _)
      | (with_reducible exact LeO.none _)
      | (with_reducible refine LeO.ite ?_ ?_)
      | (with_reducible refine LeO.bind ?_ (fun _ => ?_))
      | exact ih0 _ _ _ _ _ _ _ _ _ _ _ _ _ _ _ _
      | exact ih1 _ _ _ _ _ _ _ _ _ _ _ _ _ _ _ _
      | exact ih2 _ _ _ _ _ _ _ _ _ _ _ _ _ _ _ _ _ _ _ _
      | exact ih3 _ _ _ _ _ _ _ _ _ _ _ _ _ _ _ _ _ _ _ _ _
      | exact border_Valid.mono _ _ _ _
      | exact convolve_Check.mono _ _ _ _ _ _ _
      | exact convolve_sum.mono _ _ _ _ _ _ _ _ _ _ _ _
      | exact fixed_Shift.mono _ _ _
      | exact plane_Valid.mono _ _ _ _ _
      | exact rect_Inside.mono _ _ _ _ _ _ _ _ _
      | exact LeO.none _
      | refine LeO.ite ?_ ?_
      | refine LeO.bind ?_ (fun _ => ?_)
def convolve_Tile.T15 : Bool × List (List Nat × List Nat) := (true, [([], []), ([0], [0]), ([], []), ([], []), ([], []), ([], []), ([], []), ([], []), ([], []), ([8], [8]), ([7, 9], [7, 9]), ([], []), ([], []), ([12], [12]), ([11, 13], [11, 13]), ([2, 3, 4, 5, 6, 10, 14], [2, 3, 4, 5, 6, 10, 14]), ([], []), ([15, 16, 15], [15, 16]), ([], []), ([17, 18, 17], [17, 18]), ([19], [19]), ([1, 20, 19], [1, 20]), ([0, 1, 2, 3, 4, 5, 6, 7, 8, 9, 10, 11, 12, 13, 14, 15, 16, 17, 18, 19, 20, 21], []), ([22, 21, 21, 0, 1, 2, 3, 4, 5, 6, 7, 8, 9, 10, 11, 12, 13, 14, 15, 16, 17, 18, 19, 20, 21], [21, 22])])
def convolve_Tile.B15 : List Nat := [0, 1, 0, 0, 0, 0, 0, 0, 0, 256, 896, 0, 0, 4096, 14336, 32764, 0, 131068, 0, 524284, 1048572, 2097151, 4194303, 8388607]
theorem convolve_Tile.tab15 : rtab .any (opsOf Try.f20 15) = convolve_Tile.T15 := by kernel_rfl
theorem convolve_Tile.bits15 : waitsOk convolve_Tile.T15.2 convolve_Tile.B15 = true := by kernel_rfl
set_option maxHeartbeats 8000000 in
set_option maxRecDepth 100000 in
theorem convolve_Tile.calls (k : Nat) (a0_0 : Int) (a0_1 : Int) (a0_2 : Int) (A0_3 : Option Addr) (c0_3 : Nat) (l0_3 : List Int) (a1_0 : Int) (a1_1 : Int) (a2 : Int) (a3 : Int) (A4 : Option Addr) (c4 : Nat) (l4 : List Int) (a5 : Int) (a6 : Int) (a7_0 : Int) (a7_1 : Int) (a7_2 : Int) (a7_3 : Int) (r1 : Int) (r2 : Int) (r3 : Int) (r4 : List Int) (r5 : Int) (w : World) (hr0_3 : Kd.C (Kd.int .i64) w A0_3 l0_3.length l0_3) (hc0_3 : l0_3.length ≤ c0_3) (hr4 : Kd.C (Kd.int .i64) w A4 l4.length l4) (hc4 : l4.length ≤ c4) (h : convolve_Tile.f k a0_0 a0_1 a0_2 l0_3 a1_0 a1_1 a2 a3 l4 a5 a6 a7_0 a7_1 a7_2 a7_3 = some (r1, r2, r3, r4, r5)) :
    Calls Try.prog 20 #[.agg #[.int .i64 a0_0, .int .i64 a0_1, .int .i64 a0_2, .slice A0_3 l0_3.length c0_3], .agg #[.int .i64 a1_0, .int .i64 a1_1], .int .i64 a2, .int .i64 a3, .slice A4 l4.length c4, .int .i64 a5, .int .i64 a6, .agg #[.int .i64 a7_0, .int .i64 a7_1, .int .i64 a7_2, .int .i64 a7_3]] w fun e w' => ∃ v3_ : Value, e = .returned (.tuple #[.agg #[.int .i64 r1, .int .i64 r2, .int .i64 r3, v3_], .int .i64 r5]) ∧ Kd.R (Kd.int .i64) 3 w' w.heap.size (fun _ => True) v3_ r4 ∧ Below w.heap.size w w' := by
  have hu35 := Try.underlying35
  have hu38 := Try.underlying38
  have hu33 := Try.underlying33
  have HR0_3 := Aside0.mk hr0_3
  have HC0_3 := Aside0.mk hc0_3
  clear hr0_3 hc0_3
  have HR4 := Aside0.mk hr4
  have HC4 := Aside0.mk hc4
  clear hr4 hc4
  have HB := Aside0.mk (Below.refl w.heap.size w)
  have H : ((plane_Valid.f k a0_0 a0_1 a0_2 l0_3).bind fun t174 => (if t174 = true then ((border_Valid.f k a1_0 a1_1 a0_2).bind fun t175 => (convolve_Tile.j0 k a2 a3 l4 a5 a6 (!t175) a0_0 a0_1 a0_2 l0_3 a1_0 a1_1 a7_0 a7_1 a7_2 a7_3)) else (convolve_Tile.j0 k a2 a3 l4 a5 a6 true a0_0 a0_1 a0_2 l0_3 a1_0 a1_1 a7_0 a7_1 a7_2 a7_3))) = some (r1, r2, r3, r4, r5) := h
  clear h
  have HC9 := Aside0.mk H
  clear H
  go_enter Try.func20, Try.ntmps20
  go_upto_region 1 with (first | ((with_reducible refine gate_dst (N := 8) rfl ?_); refine box_event ?hg (N := 8) ?hd (cs := #[.int .i64 a0_0, .int .i64 a0_1, .int .i64 a0_2, .slice A0_3 l0_3.length c0_3]) (t := 35) ?hr ?_; (case hd => rfl); (case hg => rfl); (case hr => first | (go_simp; done) | (go_simp; rfl)); intro gb170 hg w10 hbox hb; have n0_ := Aside0.mk (below_step q96_ hb); have n1_ := Aside0.mk (hbox); have n2_ := Aside0.mk ((q76_ : w.heap.size ≤ gb170)); have n3_ := Aside0.mk ((q76_ : w.heap.size ≤ gb170)); clear HB; have HB := n0_; have BK170 := n1_; have GW170 := n2_; have GE170 := n3_; clear n0_ n1_ n2_ n3_; clear hb hbox hg) | ((with_reducible refine gate_dst (N := 9) rfl ?_); refine box_event ?hg (N := 9) ?hd (cs := #[.int .i64 a1_0, .int .i64 a1_1]) (t := 38) ?hr ?_; (case hd => rfl); (case hg => rfl); (case hr => first | (go_simp; done) | (go_simp; rfl)); intro gb171 hg w11 hbox hb; have n0_ := Aside0.mk (blk_below (g := gb170) (o := .cells #[.int .i64 a0_0, .int .i64 a0_1, .int .i64 a0_2, .slice A0_3 l0_3.length c0_3] 35 (0, 0)) q109_ hb); have n1_ := Aside0.mk (below_step q84_ hb); have n2_ := Aside0.mk (hbox); have n3_ := Aside0.mk ((by rw [hg]; exact (below_size q84_) : w.heap.size ≤ gb171)); have n4_ := Aside0.mk ((by rw [hg]; exact (below_size q84_) : w.heap.size ≤ gb171)); have n5_ := Aside0.mk ((q23_ : gb170 ≠ gb171)); have n6_ := Aside0.mk ((q24_ : gb171 ≠ gb170)); clear BK170; clear HB; have BK170 := n0_; have HB := n1_; have BK171 := n2_; have GW171 := n3_; have GE171 := n4_; have NB170_171 := n5_; have NB171_170 := n6_; clear n0_ n1_ n2_ n3_ n4_ n5_ n6_; clear hb hbox hg) | ((with_reducible refine gate_dst (N := 15) rfl ?_); refine box_event ?hg (N := 15) ?hd (cs := #[.int .i64 a7_0, .int .i64 a7_1, .int .i64 a7_2, .int .i64 a7_3]) (t := 33) ?hr ?_; (case hd => rfl); (case hg => rfl); (case hr => first | (go_simp; done) | (go_simp; rfl)); intro gb172 hg w12 hbox hb; have n0_ := Aside0.mk (blk_below (g := gb170) (o := .cells #[.int .i64 a0_0, .int .i64 a0_1, .int .i64 a0_2, .slice A0_3 l0_3.length c0_3] 35 (0, 0)) q109_ hb); have n1_ := Aside0.mk (blk_below (g := gb171) (o := .cells #[.int .i64 a1_0, .int .i64 a1_1] 38 (0, 0)) q110_ hb); have n2_ := Aside0.mk (below_step q66_ hb); have n3_ := Aside0.mk (hbox); have n4_ := Aside0.mk ((by rw [hg]; exact (below_size q66_) : w.heap.size ≤ gb172)); have n5_ := Aside0.mk ((by rw [hg]; exact (below_size q66_) : w.heap.size ≤ gb172)); have n6_ := Aside0.mk ((q23_ : gb170 ≠ gb172)); have n7_ := Aside0.mk ((q24_ : gb172 ≠ gb170)); have n8_ := Aside0.mk ((q48_ : gb171 ≠ gb172)); have n9_ := Aside0.mk ((q49_ : gb172 ≠ gb171)); clear BK170; clear BK171; clear HB; have BK170 := n0_; have BK171 := n1_; have HB := n2_; have BK172 := n3_; have GW172 := n4_; have GE172 := n5_; have NB170_172 := n6_; have NB172_170 := n7_; have NB171_172 := n8_; have NB172_171 := n9_; clear n0_ n1_ n2_ n3_ n4_ n5_ n6_ n7_ n8_ n9_; clear hb hbox hg) | ((with_reducible refine gate_dst (N := 16) rfl ?_); refine box_event ?hg (N := 16) ?hd (cs := #[.int .i64 0, .int .i64 0, .int .i64 0, .slice none 0 0]) (t := 35) ?hr ?_; (case hd => rfl); (case hg => rfl); (case hr => first | (go_simp; done) | (go_simp; rfl)); intro gb173 hg w13 hbox hb; have n0_ := Aside0.mk (blk_below (g := gb170) (o := .cells #[.int .i64 a0_0, .int .i64 a0_1, .int .i64 a0_2, .slice A0_3 l0_3.length c0_3] 35 (0, 0)) q109_ hb); have n1_ := Aside0.mk (blk_below (g := gb171) (o := .cells #[.int .i64 a1_0, .int .i64 a1_1] 38 (0, 0)) q110_ hb); have n2_ := Aside0.mk (blk_below (g := gb172) (o := .cells #[.int .i64 a7_0, .int .i64 a7_1, .int .i64 a7_2, .int .i64 a7_3] 33 (0, 0)) q111_ hb); have n3_ := Aside0.mk (below_step q52_ hb); have n4_ := Aside0.mk (hbox); have n5_ := Aside0.mk ((by rw [hg]; exact (below_size q52_) : w.heap.size ≤ gb173)); have n6_ := Aside0.mk ((by rw [hg]; exact (below_size q52_) : w.heap.size ≤ gb173)); have n7_ := Aside0.mk ((q23_ : gb170 ≠ gb173)); have n8_ := Aside0.mk ((q24_ : gb173 ≠ gb170)); have n9_ := Aside0.mk ((q48_ : gb171 ≠ gb173)); have n10_ := Aside0.mk ((q49_ : gb173 ≠ gb171)); have n11_ := Aside0.mk ((by rw [hg]; exact Nat.ne_of_lt (blk_lt (g := gb172) (o := .cells #[.int .i64 a7_0, .int .i64 a7_1, .int .i64 a7_2, .int .i64 a7_3] 33 (0, 0)) q111_) : gb172 ≠ gb173)); have n12_ := Aside0.mk ((by rw [hg]; exact Nat.ne_of_gt (blk_lt (g := gb172) (o := .cells #[.int .i64 a7_0, .int .i64 a7_1, .int .i64 a7_2, .int .i64 a7_3] 33 (0, 0)) q111_) : gb173 ≠ gb172)); clear BK170; clear BK171; clear BK172; clear HB; have BK170 := n0_; have BK171 := n1_; have BK172 := n2_; have HB := n3_; have BK173 := n4_; have GW173 := n5_; have GE173 := n6_; have NB170_173 := n7_; have NB173_170 := n8_; have NB171_173 := n9_; have NB173_171 := n10_; have NB172_173 := n11_; have NB173_172 := n12_; clear n0_ n1_ n2_ n3_ n4_ n5_ n6_ n7_ n8_ n9_ n10_ n11_ n12_; clear hb hbox hg))
  (try simp only [Act.put, List.setIfInBounds_toArray, List.set_cons_zero, List.set_cons_succ])
  go_cut [31] (fun v31 wc => ∃ (kq : Nat) (x31_8 : Bool), v31 = .bool x31_8 ∧ Aside0 (convolve_Tile.j0 kq a2 a3 l4 a5 a6 x31_8 a0_0 a0_1 a0_2 l0_3 a1_0 a1_1 a7_0 a7_1 a7_2 a7_3 = some (r1, r2, r3, r4, r5)) ∧ Aside0 (kq ≤ k) ∧ Aside0 (wc.heap[gb170]? = some (.cells #[.int .i64 a0_0, .int .i64 a0_1, .int .i64 a0_2, (.slice A0_3 l0_3.length c0_3)] 35 (0, 0))) ∧ Aside0 (wc.heap[gb171]? = some (.cells #[.int .i64 a1_0, .int .i64 a1_1] 38 (0, 0))) ∧ Aside0 (wc.heap[gb172]? = some (.cells #[.int .i64 a7_0, .int .i64 a7_1, .int .i64 a7_2, .int .i64 a7_3] 33 (0, 0))) ∧ Aside0 (wc.heap[gb173]? = some (.cells #[.int .i64 0, .int .i64 0, .int .i64 0, (.slice none 0 0)] 35 (0, 0))) ∧ Aside0 (Below w.heap.size w wc))
  case first =>
    have H := HC9.out
    clear HC9
    replace H := Option.bind_eq_some_iff.mp H
    obtain ⟨t174, A140, H⟩ := H
    replace H : (if t174 = true then ((border_Valid.f k a1_0 a1_1 a0_2).bind fun t175 => (convolve_Tile.j0 k a2 a3 l4 a5 a6 (!t175) a0_0 a0_1 a0_2 l0_3 a1_0 a1_1 a7_0 a7_1 a7_2 a7_3)) else (convolve_Tile.j0 k a2 a3 l4 a5 a6 true a0_0 a0_1 a0_2 l0_3 a1_0 a1_1 a7_0 a7_1 a7_2 a7_3)) = some (r1, r2, r3, r4, r5) := H
    have A14 := Aside0.mk A140
    clear A140
    by_cases c15 : t174 = true
    · subst c15
      have H1 : ((border_Valid.f k a1_0 a1_1 a0_2).bind fun t175 => (convolve_Tile.j0 k a2 a3 l4 a5 a6 (!t175) a0_0 a0_1 a0_2 l0_3 a1_0 a1_1 a7_0 a7_1 a7_2 a7_3)) = some (r1, r2, r3, r4, r5) := by rw [if_pos rfl] at H; exact H
      clear H
      have H := H1
      clear H1
      replace H := Option.bind_eq_some_iff.mp H
      obtain ⟨t175, A160, H⟩ := H
      replace H : (convolve_Tile.j0 k a2 a3 l4 a5 a6 (!t175) a0_0 a0_1 a0_2 l0_3 a1_0 a1_1 a7_0 a7_1 a7_2 a7_3) = some (r1, r2, r3, r4, r5) := H
      have A16 := Aside0.mk A160
      clear A160
      have H' := Aside0.mk H
      clear H
      have hnb17 := NB170_171.out
      have hnc17 := NB171_170.out
      have hnb18 := NB170_172.out
      have hnc18 := NB172_170.out
      have hnb19 := NB170_173.out
      have hnc19 := NB173_170.out
      have hcz20_0 : w13.cell? ⟨gb170, 0, none⟩ = some (.int .i64 a0_0) := (blk_cell BK170.out 0).trans rfl
      have hcz20_1 : w13.cell? ⟨gb170, 1, none⟩ = some (.int .i64 a0_1) := (blk_cell BK170.out 1).trans rfl
      have hcz20_2 : w13.cell? ⟨gb170, 2, none⟩ = some (.int .i64 a0_2) := (blk_cell BK170.out 2).trans rfl
      have hcz20_3 : w13.cell? ⟨gb170, 3, none⟩ = some (.slice A0_3 l0_3.length c0_3) := (blk_cell BK170.out 3).trans rfl
      have hfz20_0 := blk_frozen BK170.out 0
      have hfz20_1 := blk_frozen BK170.out 1
      have hfz20_2 := blk_frozen BK170.out 2
      have hfz20_3 := blk_frozen BK170.out 3
      go_wp2_with (first | ((with_reducible refine gate_callee (f := 36) rfl ?_); refine goesL_ (some 23) rfl rfl Try.func36 (by kernel_rfl) rfl #[.agg #[.int .i64 a0_0, .int .i64 a0_1, .int .i64 a0_2, .slice A0_3 l0_3.length c0_3]] rfl q93_ ?_; (with_reducible refine (plane_Valid.calls k a0_0 a0_1 a0_2 _ _ l0_3 true _ ?side1 ?side2 A14.out).mono ?_); (case side1 => repeat (first | exact (Kd.C_below HR0_3.out HB.out) | (with_reducible refine Kd.C_alloc ?_ _) | (with_reducible refine Kd.C_drewN ?_ _) | (with_reducible refine Kd.C_drew ?_))); (case side2 => exact HC0_3.out); rintro e w21 ⟨rfl, hb⟩; refine ⟨_, rfl, ?_⟩; have n0_ := Aside0.mk (blk_below (g := gb170) (o := .cells #[.int .i64 a0_0, .int .i64 a0_1, .int .i64 a0_2, .slice A0_3 l0_3.length c0_3] 35 (0, 0)) q109_ hb); have n1_ := Aside0.mk (blk_below (g := gb171) (o := .cells #[.int .i64 a1_0, .int .i64 a1_1] 38 (0, 0)) q110_ hb); have n2_ := Aside0.mk (blk_below (g := gb172) (o := .cells #[.int .i64 a7_0, .int .i64 a7_1, .int .i64 a7_2, .int .i64 a7_3] 33 (0, 0)) q111_ hb); have n3_ := Aside0.mk (blk_below (g := gb173) (o := .cells #[.int .i64 0, .int .i64 0, .int .i64 0, .slice none 0 0] 35 (0, 0)) q112_ hb); have n4_ := Aside0.mk (below_step q38_ hb); clear BK170; clear BK171; clear BK172; clear BK173; clear HB; have BK170 := n0_; have BK171 := n1_; have BK172 := n2_; have BK173 := n3_; have HB := n4_; clear n0_ n1_ n2_ n3_ n4_; (try clear hb); (try clear hb2); (try clear hk); (try clear hi); have hnb22 := NB171_172.out; have hnc22 := NB172_171.out; have hnb23 := NB171_173.out; have hnc23 := NB173_171.out; have hcz24_0 : w21.cell? ⟨gb171, 0, none⟩ = some (.int .i64 a1_0) := (blk_cell BK171.out 0).trans rfl; have hcz24_1 : w21.cell? ⟨gb171, 1, none⟩ = some (.int .i64 a1_1) := (blk_cell BK171.out 1).trans rfl; have hfz24_0 := blk_frozen BK171.out 0; have hfz24_1 := blk_frozen BK171.out 1; have hcz25_0 : w21.cell? ⟨gb170, 0, none⟩ = some (.int .i64 a0_0) := (blk_cell BK170.out 0).trans rfl; have hcz25_1 : w21.cell? ⟨gb170, 1, none⟩ = some (.int .i64 a0_1) := (blk_cell BK170.out 1).trans rfl; have hcz25_2 : w21.cell? ⟨gb170, 2, none⟩ = some (.int .i64 a0_2) := (blk_cell BK170.out 2).trans rfl; have hcz25_3 : w21.cell? ⟨gb170, 3, none⟩ = some (.slice A0_3 l0_3.length c0_3) := (blk_cell BK170.out 3).trans rfl; have hfz25_0 := blk_frozen BK170.out 0; have hfz25_1 := blk_frozen BK170.out 1; have hfz25_2 := blk_frozen BK170.out 2; have hfz25_3 := blk_frozen BK170.out 3) | (go_at_call 37; (with_reducible refine (border_Valid.calls k a1_0 a1_1 a0_2 t175 _ A16.out).mono ?_); rintro e w26 ⟨rfl, hb⟩; have n0_ := Aside0.mk (blk_below (g := gb170) (o := .cells #[.int .i64 a0_0, .int .i64 a0_1, .int .i64 a0_2, .slice A0_3 l0_3.length c0_3] 35 (0, 0)) q109_ hb); have n1_ := Aside0.mk (blk_below (g := gb171) (o := .cells #[.int .i64 a1_0, .int .i64 a1_1] 38 (0, 0)) q110_ hb); have n2_ := Aside0.mk (blk_below (g := gb172) (o := .cells #[.int .i64 a7_0, .int .i64 a7_1, .int .i64 a7_2, .int .i64 a7_3] 33 (0, 0)) q111_ hb); have n3_ := Aside0.mk (blk_below (g := gb173) (o := .cells #[.int .i64 0, .int .i64 0, .int .i64 0, .slice none 0 0] 35 (0, 0)) q112_ hb); have n4_ := Aside0.mk (below_step q38_ hb); clear BK170; clear BK171; clear BK172; clear BK173; clear HB; have BK170 := n0_; have BK171 := n1_; have BK172 := n2_; have BK173 := n3_; have HB := n4_; clear n0_ n1_ n2_ n3_ n4_; (try clear hb); (try clear hb2); (try clear hk); (try clear hi)))
      go_meet
      case rel => exact ⟨_, (!t175), q146_, H', ⟨by first | omega | exact Nat.le_refl _⟩, ⟨q109_⟩, ⟨q110_⟩, ⟨q111_⟩, ⟨q112_⟩, ⟨q38_⟩⟩
    · replace c15 := Bool.eq_false_iff.mpr c15
      subst c15
      have H1 : (convolve_Tile.j0 k a2 a3 l4 a5 a6 true a0_0 a0_1 a0_2 l0_3 a1_0 a1_1 a7_0 a7_1 a7_2 a7_3) = some (r1, r2, r3, r4, r5) := by rw [if_neg (show ¬ (false = true) by decide)] at H; exact H
      clear H
      have H := H1
      clear H1
      have H' := Aside0.mk H
      clear H
      have hnb27 := NB170_171.out
      have hnc27 := NB171_170.out
      have hnb28 := NB170_172.out
      have hnc28 := NB172_170.out
      have hnb29 := NB170_173.out
      have hnc29 := NB173_170.out
      have hcz30_0 : w13.cell? ⟨gb170, 0, none⟩ = some (.int .i64 a0_0) := (blk_cell BK170.out 0).trans rfl
      have hcz30_1 : w13.cell? ⟨gb170, 1, none⟩ = some (.int .i64 a0_1) := (blk_cell BK170.out 1).trans rfl
      have hcz30_2 : w13.cell? ⟨gb170, 2, none⟩ = some (.int .i64 a0_2) := (blk_cell BK170.out 2).trans rfl
      have hcz30_3 : w13.cell? ⟨gb170, 3, none⟩ = some (.slice A0_3 l0_3.length c0_3) := (blk_cell BK170.out 3).trans rfl
      have hfz30_0 := blk_frozen BK170.out 0
      have hfz30_1 := blk_frozen BK170.out 1
      have hfz30_2 := blk_frozen BK170.out 2
      have hfz30_3 := blk_frozen BK170.out 3
      go_wp2_with (first | ((with_reducible refine gate_callee (f := 36) rfl ?_); refine goesL_ (some 23) rfl rfl Try.func36 (by kernel_rfl) rfl #[.agg #[.int .i64 a0_0, .int .i64 a0_1, .int .i64 a0_2, .slice A0_3 l0_3.length c0_3]] rfl q93_ ?_; (with_reducible refine (plane_Valid.calls k a0_0 a0_1 a0_2 _ _ l0_3 false _ ?side1 ?side2 A14.out).mono ?_); (case side1 => repeat (first | exact (Kd.C_below HR0_3.out HB.out) | (with_reducible refine Kd.C_alloc ?_ _) | (with_reducible refine Kd.C_drewN ?_ _) | (with_reducible refine Kd.C_drew ?_))); (case side2 => exact HC0_3.out); rintro e w31 ⟨rfl, hb⟩; refine ⟨_, rfl, ?_⟩; have n0_ := Aside0.mk (blk_below (g := gb170) (o := .cells #[.int .i64 a0_0, .int .i64 a0_1, .int .i64 a0_2, .slice A0_3 l0_3.length c0_3] 35 (0, 0)) q109_ hb); have n1_ := Aside0.mk (blk_below (g := gb171) (o := .cells #[.int .i64 a1_0, .int .i64 a1_1] 38 (0, 0)) q110_ hb); have n2_ := Aside0.mk (blk_below (g := gb172) (o := .cells #[.int .i64 a7_0, .int .i64 a7_1, .int .i64 a7_2, .int .i64 a7_3] 33 (0, 0)) q111_ hb); have n3_ := Aside0.mk (blk_below (g := gb173) (o := .cells #[.int .i64 0, .int .i64 0, .int .i64 0, .slice none 0 0] 35 (0, 0)) q112_ hb); have n4_ := Aside0.mk (below_step q38_ hb); clear BK170; clear BK171; clear BK172; clear BK173; clear HB; have BK170 := n0_; have BK171 := n1_; have BK172 := n2_; have BK173 := n3_; have HB := n4_; clear n0_ n1_ n2_ n3_ n4_; (try clear hb); (try clear hb2); (try clear hk); (try clear hi)))
      go_meet
      case rel => exact ⟨_, (true), q146_, H', ⟨by first | omega | exact Nat.le_refl _⟩, ⟨q109_⟩, ⟨q110_⟩, ⟨q111_⟩, ⟨q112_⟩, ⟨q38_⟩⟩
  case rest =>
    clear HC9
    try clear c1
    try clear c2
    try clear p2
    try clear c3
    try clear c4
    try clear c15
    try clear c17
    try clear c18
    try clear c19
    try clear c20
    try clear c22
    try clear c23
    try clear c27
    try clear c28
    try clear c29
    try clear hcz20_0
    try clear hcz20_1
    try clear hcz20_2
    try clear hcz20_3
    try clear hcz24_0
    try clear hcz24_1
    try clear hcz25_0
    try clear hcz25_1
    try clear hcz25_2
    try clear hcz25_3
    try clear hcz30_0
    try clear hcz30_1
    try clear hcz30_2
    try clear hcz30_3
    try clear hfz20_0
    try clear hfz20_1
    try clear hfz20_2
    try clear hfz20_3
    try clear hfz24_0
    try clear hfz24_1
    try clear hfz25_0
    try clear hfz25_1
    try clear hfz25_2
    try clear hfz25_3
    try clear hfz30_0
    try clear hfz30_1
    try clear hfz30_2
    try clear hfz30_3
    obtain ⟨kq, x31_8, rfl, HA, HJ8, BK170, BK171, BK172, BK173, HB⟩ := hcut
    cases kq with
    | zero => exact absurd HA.out (by simp [convolve_Tile.j0])
    | succ kj8 =>
      have H := HA.out
      clear HA
      simp only [convolve_Tile.j0] at H
      by_cases c32 : x31_8 = true
      · subst c32
        have H1 : (some (0, 0, 0, ([] : List Int), 1)) = some (r1, r2, r3, r4, r5) := by rw [if_pos rfl] at H; exact H
        clear H
        have H := H1
        clear H1
        simp only [Option.some.injEq, Prod.mk.injEq] at H
        obtain ⟨rfl, rfl, rfl, rfl, rfl⟩ := H
        have hnb33 := NB173_170.out
        have hnc33 := NB170_173.out
        have hnb34 := NB173_171.out
        have hnc34 := NB171_173.out
        have hnb35 := NB173_172.out
        have hnc35 := NB172_173.out
        have hcz36_0 : wc.cell? ⟨gb173, 0, none⟩ = some (.int .i64 0) := (blk_cell BK173.out 0).trans rfl
        have hcz36_1 : wc.cell? ⟨gb173, 1, none⟩ = some (.int .i64 0) := (blk_cell BK173.out 1).trans rfl
        have hcz36_2 : wc.cell? ⟨gb173, 2, none⟩ = some (.int .i64 0) := (blk_cell BK173.out 2).trans rfl
        have hcz36_3 : wc.cell? ⟨gb173, 3, none⟩ = some (.slice none 0 0) := (blk_cell BK173.out 3).trans rfl
        have hfz36_0 := blk_frozen BK173.out 0
        have hfz36_1 := blk_frozen BK173.out 1
        have hfz36_2 := blk_frozen BK173.out 2
        have hfz36_3 := blk_frozen BK173.out 3
        go_wp2
        refine bodyPost_ret (results_ct rfl _ _ gb173 35 #[.int .i64 0, .int .i64 0, .int .i64 0, .slice none 0 0] (0, 0) _ rfl q1_ Try.underlying35 rfl (by kernel_rfl)) rfl ?_
        exact ⟨_, q138_, q92_, q38_⟩
      · replace c32 := Bool.eq_false_iff.mpr c32
        subst c32
        have H1 : ((convolve_Check.f kj8 a0_2 a2 a3 l4 a5 a6).bind fun t176 => (if t176 = 0 then ((rect_Empty.f a7_0 a7_1 a7_2 a7_3).bind fun t177 => (if t177 = true then (convolve_Tile.j1 kj8 a2 a3 l4 a5 a6 true a0_0 a0_1 a0_2 l0_3 a1_0 a1_1 a7_0 a7_1 a7_2 a7_3) else ((rect_Inside.f kj8 a7_0 a7_1 a7_2 a7_3 0 0 a0_0 a0_1).bind fun t178 => (convolve_Tile.j1 kj8 a2 a3 l4 a5 a6 (!t178) a0_0 a0_1 a0_2 l0_3 a1_0 a1_1 a7_0 a7_1 a7_2 a7_3)))) else (some (0, 0, 0, ([] : List Int), t176)))) = some (r1, r2, r3, r4, r5) := by rw [if_neg (show ¬ (false = true) by decide)] at H; exact H
        clear H
        have H := H1
        clear H1
        replace H := Option.bind_eq_some_iff.mp H
        obtain ⟨t176, A370, H⟩ := H
        replace H : (if t176 = 0 then ((rect_Empty.f a7_0 a7_1 a7_2 a7_3).bind fun t177 => (if t177 = true then (convolve_Tile.j1 kj8 a2 a3 l4 a5 a6 true a0_0 a0_1 a0_2 l0_3 a1_0 a1_1 a7_0 a7_1 a7_2 a7_3) else ((rect_Inside.f kj8 a7_0 a7_1 a7_2 a7_3 0 0 a0_0 a0_1).bind fun t178 => (convolve_Tile.j1 kj8 a2 a3 l4 a5 a6 (!t178) a0_0 a0_1 a0_2 l0_3 a1_0 a1_1 a7_0 a7_1 a7_2 a7_3)))) else (some (0, 0, 0, ([] : List Int), t176))) = some (r1, r2, r3, r4, r5) := H
        have A37 := Aside0.mk A370
        clear A370
        by_cases c38 : t176 = 0
        · rw [if_pos c38] at H
          have c38b0 : (t176 == 0) = true := beq_iff_eq.mpr c38
          have c38b1 : (t176 != 0) = false := bne_eq_false_iff_eq.mpr c38
          clear c38
          have HC39 := Aside0.mk H
          clear H
          have hnb40 := NB170_171.out
          have hnc40 := NB171_170.out
          have hnb41 := NB170_172.out
          have hnc41 := NB172_170.out
          have hnb42 := NB170_173.out
          have hnc42 := NB173_170.out
          have hcz43_0 : wc.cell? ⟨gb170, 0, none⟩ = some (.int .i64 a0_0) := (blk_cell BK170.out 0).trans rfl
          have hcz43_1 : wc.cell? ⟨gb170, 1, none⟩ = some (.int .i64 a0_1) := (blk_cell BK170.out 1).trans rfl
          have hcz43_2 : wc.cell? ⟨gb170, 2, none⟩ = some (.int .i64 a0_2) := (blk_cell BK170.out 2).trans rfl
          have hcz43_3 : wc.cell? ⟨gb170, 3, none⟩ = some (.slice A0_3 l0_3.length c0_3) := (blk_cell BK170.out 3).trans rfl
          have hfz43_0 := blk_frozen BK170.out 0
          have hfz43_1 := blk_frozen BK170.out 1
          have hfz43_2 := blk_frozen BK170.out 2
          have hfz43_3 := blk_frozen BK170.out 3
          go_upto_region 6 with (first | ((with_reducible refine gate_callee (f := 12) rfl ?_); refine goesL_ (some 40) rfl rfl Try.func12 (by kernel_rfl) rfl #[.int .i64 a0_2, .int .i64 a2, .int .i64 a3, .slice A4 l4.length c4, .int .i64 a5, .int .i64 a6] rfl q93_ ?_; (with_reducible refine (convolve_Check.calls kj8 a0_2 a2 a3 _ _ l4 a5 a6 t176 _ ?side1 ?side2 A37.out).mono ?_); (case side1 => repeat (first | exact (Kd.C_below HR4.out HB.out) | (with_reducible refine Kd.C_alloc ?_ _) | (with_reducible refine Kd.C_drewN ?_ _) | (with_reducible refine Kd.C_drew ?_))); (case side2 => exact HC4.out); rintro e w44 ⟨rfl, hb⟩; refine ⟨_, rfl, ?_⟩; have n0_ := Aside0.mk (blk_below (g := gb170) (o := .cells #[.int .i64 a0_0, .int .i64 a0_1, .int .i64 a0_2, .slice A0_3 l0_3.length c0_3] 35 (0, 0)) q109_ hb); have n1_ := Aside0.mk (blk_below (g := gb171) (o := .cells #[.int .i64 a1_0, .int .i64 a1_1] 38 (0, 0)) q110_ hb); have n2_ := Aside0.mk (blk_below (g := gb172) (o := .cells #[.int .i64 a7_0, .int .i64 a7_1, .int .i64 a7_2, .int .i64 a7_3] 33 (0, 0)) q111_ hb); have n3_ := Aside0.mk (blk_below (g := gb173) (o := .cells #[.int .i64 0, .int .i64 0, .int .i64 0, .slice none 0 0] 35 (0, 0)) q112_ hb); have n4_ := Aside0.mk (below_step q38_ hb); clear BK170; clear BK171; clear BK172; clear BK173; clear HB; have BK170 := n0_; have BK171 := n1_; have BK172 := n2_; have BK173 := n3_; have HB := n4_; clear n0_ n1_ n2_ n3_ n4_; (try clear hb); (try clear hb2); (try clear hk); (try clear hi)))
          (try simp only [Act.put, List.setIfInBounds_toArray, List.set_cons_zero, List.set_cons_succ])
          go_cut [56] (fun v56 wc => ∃ (kq : Nat) (x56_38 : Bool), v56 = .bool x56_38 ∧ Aside0 (convolve_Tile.j1 kq a2 a3 l4 a5 a6 x56_38 a0_0 a0_1 a0_2 l0_3 a1_0 a1_1 a7_0 a7_1 a7_2 a7_3 = some (r1, r2, r3, r4, r5)) ∧ Aside0 (kq ≤ kj8) ∧ Aside0 (wc.heap[gb170]? = some (.cells #[.int .i64 a0_0, .int .i64 a0_1, .int .i64 a0_2, (.slice A0_3 l0_3.length c0_3)] 35 (0, 0))) ∧ Aside0 (wc.heap[gb171]? = some (.cells #[.int .i64 a1_0, .int .i64 a1_1] 38 (0, 0))) ∧ Aside0 (wc.heap[gb172]? = some (.cells #[.int .i64 a7_0, .int .i64 a7_1, .int .i64 a7_2, .int .i64 a7_3] 33 (0, 0))) ∧ Aside0 (wc.heap[gb173]? = some (.cells #[.int .i64 0, .int .i64 0, .int .i64 0, (.slice none 0 0)] 35 (0, 0))) ∧ Aside0 (Below w.heap.size w wc))
          case first =>
            have H := HC39.out
            clear HC39
            replace H := Option.bind_eq_some_iff.mp H
            obtain ⟨t177, A450, H⟩ := H
            replace H : (if t177 = true then (convolve_Tile.j1 kj8 a2 a3 l4 a5 a6 true a0_0 a0_1 a0_2 l0_3 a1_0 a1_1 a7_0 a7_1 a7_2 a7_3) else ((rect_Inside.f kj8 a7_0 a7_1 a7_2 a7_3 0 0 a0_0 a0_1).bind fun t178 => (convolve_Tile.j1 kj8 a2 a3 l4 a5 a6 (!t178) a0_0 a0_1 a0_2 l0_3 a1_0 a1_1 a7_0 a7_1 a7_2 a7_3))) = some (r1, r2, r3, r4, r5) := H
            have A45 := Aside0.mk A450
            clear A450
            by_cases c46 : t177 = true
            · subst c46
              have H1 : (convolve_Tile.j1 kj8 a2 a3 l4 a5 a6 true a0_0 a0_1 a0_2 l0_3 a1_0 a1_1 a7_0 a7_1 a7_2 a7_3) = some (r1, r2, r3, r4, r5) := by rw [if_pos rfl] at H; exact H
              clear H
              have H := H1
              clear H1
              have H' := Aside0.mk H
              clear H
              have hnb47 := NB172_170.out
              have hnc47 := NB170_172.out
              have hnb48 := NB172_171.out
              have hnc48 := NB171_172.out
              have hnb49 := NB172_173.out
              have hnc49 := NB173_172.out
              have hcz50_0 : w44.cell? ⟨gb172, 0, none⟩ = some (.int .i64 a7_0) := (blk_cell BK172.out 0).trans rfl
              have hcz50_1 : w44.cell? ⟨gb172, 1, none⟩ = some (.int .i64 a7_1) := (blk_cell BK172.out 1).trans rfl
              have hcz50_2 : w44.cell? ⟨gb172, 2, none⟩ = some (.int .i64 a7_2) := (blk_cell BK172.out 2).trans rfl
              have hcz50_3 : w44.cell? ⟨gb172, 3, none⟩ = some (.int .i64 a7_3) := (blk_cell BK172.out 3).trans rfl
              have hfz50_0 := blk_frozen BK172.out 0
              have hfz50_1 := blk_frozen BK172.out 1
              have hfz50_2 := blk_frozen BK172.out 2
              have hfz50_3 := blk_frozen BK172.out 3
              go_wp2_with (first | ((with_reducible refine gate_callee (f := 38) rfl ?_); refine goesL_ (some 46) rfl rfl Try.func38 (by kernel_rfl) rfl #[.agg #[.int .i64 a7_0, .int .i64 a7_1, .int .i64 a7_2, .int .i64 a7_3]] rfl q93_ ?_; (with_reducible refine (rect_Empty.calls a7_0 a7_1 a7_2 a7_3 true _ A45.out).mono ?_); rintro e w51 ⟨rfl, hb⟩; refine ⟨_, rfl, ?_⟩; have n0_ := Aside0.mk (blk_below (g := gb170) (o := .cells #[.int .i64 a0_0, .int .i64 a0_1, .int .i64 a0_2, .slice A0_3 l0_3.length c0_3] 35 (0, 0)) q109_ hb); have n1_ := Aside0.mk (blk_below (g := gb171) (o := .cells #[.int .i64 a1_0, .int .i64 a1_1] 38 (0, 0)) q110_ hb); have n2_ := Aside0.mk (blk_below (g := gb172) (o := .cells #[.int .i64 a7_0, .int .i64 a7_1, .int .i64 a7_2, .int .i64 a7_3] 33 (0, 0)) q111_ hb); have n3_ := Aside0.mk (blk_below (g := gb173) (o := .cells #[.int .i64 0, .int .i64 0, .int .i64 0, .slice none 0 0] 35 (0, 0)) q112_ hb); have n4_ := Aside0.mk (below_step q38_ hb); clear BK170; clear BK171; clear BK172; clear BK173; clear HB; have BK170 := n0_; have BK171 := n1_; have BK172 := n2_; have BK173 := n3_; have HB := n4_; clear n0_ n1_ n2_ n3_ n4_; (try clear hb); (try clear hb2); (try clear hk); (try clear hi)))
              go_meet
              case rel => exact ⟨_, (true), q146_, H', ⟨by have := HJ8.out; first | omega | exact Nat.le_refl _⟩, ⟨q109_⟩, ⟨q110_⟩, ⟨q111_⟩, ⟨q112_⟩, ⟨q38_⟩⟩
            · replace c46 := Bool.eq_false_iff.mpr c46
              subst c46
              have H1 : ((rect_Inside.f kj8 a7_0 a7_1 a7_2 a7_3 0 0 a0_0 a0_1).bind fun t178 => (convolve_Tile.j1 kj8 a2 a3 l4 a5 a6 (!t178) a0_0 a0_1 a0_2 l0_3 a1_0 a1_1 a7_0 a7_1 a7_2 a7_3)) = some (r1, r2, r3, r4, r5) := by rw [if_neg (show ¬ (false = true) by decide)] at H; exact H
              clear H
              have H := H1
              clear H1
              replace H := Option.bind_eq_some_iff.mp H
              obtain ⟨t178, A520, H⟩ := H
              replace H : (convolve_Tile.j1 kj8 a2 a3 l4 a5 a6 (!t178) a0_0 a0_1 a0_2 l0_3 a1_0 a1_1 a7_0 a7_1 a7_2 a7_3) = some (r1, r2, r3, r4, r5) := H
              have A52 := Aside0.mk A520
              clear A520
              have H' := Aside0.mk H
              clear H
              have hnb53 := NB172_170.out
              have hnc53 := NB170_172.out
              have hnb54 := NB172_171.out
              have hnc54 := NB171_172.out
              have hnb55 := NB172_173.out
              have hnc55 := NB173_172.out
              have hcz56_0 : w44.cell? ⟨gb172, 0, none⟩ = some (.int .i64 a7_0) := (blk_cell BK172.out 0).trans rfl
              have hcz56_1 : w44.cell? ⟨gb172, 1, none⟩ = some (.int .i64 a7_1) := (blk_cell BK172.out 1).trans rfl
              have hcz56_2 : w44.cell? ⟨gb172, 2, none⟩ = some (.int .i64 a7_2) := (blk_cell BK172.out 2).trans rfl
              have hcz56_3 : w44.cell? ⟨gb172, 3, none⟩ = some (.int .i64 a7_3) := (blk_cell BK172.out 3).trans rfl
              have hfz56_0 := blk_frozen BK172.out 0
              have hfz56_1 := blk_frozen BK172.out 1
              have hfz56_2 := blk_frozen BK172.out 2
              have hfz56_3 := blk_frozen BK172.out 3
              go_wp2_with (first | ((with_reducible refine gate_callee (f := 38) rfl ?_); refine goesL_ (some 46) rfl rfl Try.func38 (by kernel_rfl) rfl #[.agg #[.int .i64 a7_0, .int .i64 a7_1, .int .i64 a7_2, .int .i64 a7_3]] rfl q93_ ?_; (with_reducible refine (rect_Empty.calls a7_0 a7_1 a7_2 a7_3 false _ A45.out).mono ?_); rintro e w57 ⟨rfl, hb⟩; refine ⟨_, rfl, ?_⟩; have n0_ := Aside0.mk (blk_below (g := gb170) (o := .cells #[.int .i64 a0_0, .int .i64 a0_1, .int .i64 a0_2, .slice A0_3 l0_3.length c0_3] 35 (0, 0)) q109_ hb); have n1_ := Aside0.mk (blk_below (g := gb171) (o := .cells #[.int .i64 a1_0, .int .i64 a1_1] 38 (0, 0)) q110_ hb); have n2_ := Aside0.mk (blk_below (g := gb172) (o := .cells #[.int .i64 a7_0, .int .i64 a7_1, .int .i64 a7_2, .int .i64 a7_3] 33 (0, 0)) q111_ hb); have n3_ := Aside0.mk (blk_below (g := gb173) (o := .cells #[.int .i64 0, .int .i64 0, .int .i64 0, .slice none 0 0] 35 (0, 0)) q112_ hb); have n4_ := Aside0.mk (below_step q38_ hb); clear BK170; clear BK171; clear BK172; clear BK173; clear HB; have BK170 := n0_; have BK171 := n1_; have BK172 := n2_; have BK173 := n3_; have HB := n4_; clear n0_ n1_ n2_ n3_ n4_; (try clear hb); (try clear hb2); (try clear hk); (try clear hi); have hcz58_0 : w57.cell? ⟨gb172, 0, none⟩ = some (.int .i64 a7_0) := (blk_cell BK172.out 0).trans rfl; have hcz58_1 : w57.cell? ⟨gb172, 1, none⟩ = some (.int .i64 a7_1) := (blk_cell BK172.out 1).trans rfl; have hcz58_2 : w57.cell? ⟨gb172, 2, none⟩ = some (.int .i64 a7_2) := (blk_cell BK172.out 2).trans rfl; have hcz58_3 : w57.cell? ⟨gb172, 3, none⟩ = some (.int .i64 a7_3) := (blk_cell BK172.out 3).trans rfl; have hfz58_0 := blk_frozen BK172.out 0; have hfz58_1 := blk_frozen BK172.out 1; have hfz58_2 := blk_frozen BK172.out 2; have hfz58_3 := blk_frozen BK172.out 3; have hnb59 := NB170_171.out; have hnc59 := NB171_170.out; have hnb60 := NB170_173.out; have hnc60 := NB173_170.out; have hcz61_0 : w57.cell? ⟨gb170, 0, none⟩ = some (.int .i64 a0_0) := (blk_cell BK170.out 0).trans rfl; have hcz61_1 : w57.cell? ⟨gb170, 1, none⟩ = some (.int .i64 a0_1) := (blk_cell BK170.out 1).trans rfl; have hcz61_2 : w57.cell? ⟨gb170, 2, none⟩ = some (.int .i64 a0_2) := (blk_cell BK170.out 2).trans rfl; have hcz61_3 : w57.cell? ⟨gb170, 3, none⟩ = some (.slice A0_3 l0_3.length c0_3) := (blk_cell BK170.out 3).trans rfl; have hfz61_0 := blk_frozen BK170.out 0; have hfz61_1 := blk_frozen BK170.out 1; have hfz61_2 := blk_frozen BK170.out 2; have hfz61_3 := blk_frozen BK170.out 3) | (go_at_call 39; (with_reducible refine (rect_Inside.calls kj8 a7_0 a7_1 a7_2 a7_3 0 0 a0_0 a0_1 t178 _ A52.out).mono ?_); rintro e w62 ⟨rfl, hb⟩; have n0_ := Aside0.mk (blk_below (g := gb170) (o := .cells #[.int .i64 a0_0, .int .i64 a0_1, .int .i64 a0_2, .slice A0_3 l0_3.length c0_3] 35 (0, 0)) q109_ hb); have n1_ := Aside0.mk (blk_below (g := gb171) (o := .cells #[.int .i64 a1_0, .int .i64 a1_1] 38 (0, 0)) q110_ hb); have n2_ := Aside0.mk (blk_below (g := gb172) (o := .cells #[.int .i64 a7_0, .int .i64 a7_1, .int .i64 a7_2, .int .i64 a7_3] 33 (0, 0)) q111_ hb); have n3_ := Aside0.mk (blk_below (g := gb173) (o := .cells #[.int .i64 0, .int .i64 0, .int .i64 0, .slice none 0 0] 35 (0, 0)) q112_ hb); have n4_ := Aside0.mk (below_step q38_ hb); clear BK170; clear BK171; clear BK172; clear BK173; clear HB; have BK170 := n0_; have BK171 := n1_; have BK172 := n2_; have BK173 := n3_; have HB := n4_; clear n0_ n1_ n2_ n3_ n4_; (try clear hb); (try clear hb2); (try clear hk); (try clear hi)))
              go_meet
              case rel => exact ⟨_, (!t178), q146_, H', ⟨by have := HJ8.out; first | omega | exact Nat.le_refl _⟩, ⟨q109_⟩, ⟨q110_⟩, ⟨q111_⟩, ⟨q112_⟩, ⟨q38_⟩⟩
          case rest =>
            clear HC39
            try clear c1
            try clear c2
            try clear p2
            try clear c3
            try clear c4
            try clear c5
            try clear c6
            try clear c12
            try clear c15
            try clear c17
            try clear c18
            try clear c19
            try clear c20
            try clear c22
            try clear c23
            try clear c27
            try clear c28
            try clear c29
            try clear c32
            try clear c33
            try clear c34
            try clear c35
            try clear c36
            try clear c38
            try clear c38b0
            try clear c38b1
            try clear c40
            try clear c41
            try clear c42
            try clear c46
            try clear c47
            try clear c48
            try clear c49
            try clear c53
            try clear c54
            try clear c55
            try clear c59
            try clear c60
            try clear hcz20_0
            try clear hcz20_1
            try clear hcz20_2
            try clear hcz20_3
            try clear hcz24_0
            try clear hcz24_1
            try clear hcz25_0
            try clear hcz25_1
            try clear hcz25_2
            try clear hcz25_3
            try clear hcz30_0
            try clear hcz30_1
            try clear hcz30_2
            try clear hcz30_3
            try clear hcz36_0
            try clear hcz36_1
            try clear hcz36_2
            try clear hcz36_3
            try clear hcz43_0
            try clear hcz43_1
            try clear hcz43_2
            try clear hcz43_3
            try clear hcz50_0
            try clear hcz50_1
            try clear hcz50_2
            try clear hcz50_3
            try clear hcz56_0
            try clear hcz56_1
            try clear hcz56_2
            try clear hcz56_3
            try clear hcz58_0
            try clear hcz58_1
            try clear hcz58_2
            try clear hcz58_3
            try clear hcz61_0
            try clear hcz61_1
            try clear hcz61_2
            try clear hcz61_3
            try clear hfz20_0
            try clear hfz20_1
            try clear hfz20_2
            try clear hfz20_3
            try clear hfz24_0
            try clear hfz24_1
            try clear hfz25_0
            try clear hfz25_1
            try clear hfz25_2
            try clear hfz25_3
            try clear hfz30_0
            try clear hfz30_1
            try clear hfz30_2
            try clear hfz30_3
            try clear hfz36_0
            try clear hfz36_1
            try clear hfz36_2
            try clear hfz36_3
            try clear hfz43_0
            try clear hfz43_1
            try clear hfz43_2
            try clear hfz43_3
            try clear hfz50_0
            try clear hfz50_1
            try clear hfz50_2
            try clear hfz50_3
            try clear hfz56_0
            try clear hfz56_1
            try clear hfz56_2
            try clear hfz56_3
            try clear hfz58_0
            try clear hfz58_1
            try clear hfz58_2
            try clear hfz58_3
            try clear hfz61_0
            try clear hfz61_1
            try clear hfz61_2
            try clear hfz61_3
            try clear p2
            obtain ⟨kq, x56_38, rfl, HA, HJ38, BK170, BK171, BK172, BK173, HB⟩ := hcut
            cases kq with
            | zero => exact absurd HA.out (by simp [convolve_Tile.j1])
            | succ kj38 =>
              have H := HA.out
              clear HA
              simp only [convolve_Tile.j1] at H
              by_cases c63 : x56_38 = true
              · subst c63
                have H1 : (some (0, 0, 0, ([] : List Int), 8)) = some (r1, r2, r3, r4, r5) := by rw [if_pos rfl] at H; exact H
                clear H
                have H := H1
                clear H1
                simp only [Option.some.injEq, Prod.mk.injEq] at H
                obtain ⟨rfl, rfl, rfl, rfl, rfl⟩ := H
                have hnb64 := NB173_170.out
                have hnc64 := NB170_173.out
                have hnb65 := NB173_171.out
                have hnc65 := NB171_173.out
                have hnb66 := NB173_172.out
                have hnc66 := NB172_173.out
                have hcz67_0 : wc.cell? ⟨gb173, 0, none⟩ = some (.int .i64 0) := (blk_cell BK173.out 0).trans rfl
                have hcz67_1 : wc.cell? ⟨gb173, 1, none⟩ = some (.int .i64 0) := (blk_cell BK173.out 1).trans rfl
                have hcz67_2 : wc.cell? ⟨gb173, 2, none⟩ = some (.int .i64 0) := (blk_cell BK173.out 2).trans rfl
                have hcz67_3 : wc.cell? ⟨gb173, 3, none⟩ = some (.slice none 0 0) := (blk_cell BK173.out 3).trans rfl
                have hfz67_0 := blk_frozen BK173.out 0
                have hfz67_1 := blk_frozen BK173.out 1
                have hfz67_2 := blk_frozen BK173.out 2
                have hfz67_3 := blk_frozen BK173.out 3
                go_wp2
                refine bodyPost_ret (results_ct rfl _ _ gb173 35 #[.int .i64 0, .int .i64 0, .int .i64 0, .slice none 0 0] (0, 0) _ rfl q1_ Try.underlying35 rfl (by kernel_rfl)) rfl ?_
                exact ⟨_, q138_, q92_, q38_⟩
              · replace c63 := Bool.eq_false_iff.mpr c63
                subst c63
                have H1 : (convolve_Tile.l0 kj38 a2 a3 l4 a5 a6 a7_1 a0_0 a0_1 a0_2 l0_3 a1_0 a1_1 a7_0 a7_1 a7_2 a7_3 (wrap64 (a7_2 - a7_0)) (wrap64 (a7_3 - a7_1)) a6 ([] : List Int)) = some (r1, r2, r3, r4, r5) := by rw [if_neg (show ¬ (false = true) by decide)] at H; exact H
                clear H
                have H := H1
                clear H1
                have H' := Aside0.mk H
                clear H
                have hnb68 := NB172_170.out
                have hnc68 := NB170_172.out
                have hnb69 := NB172_171.out
                have hnc69 := NB171_172.out
                have hnb70 := NB172_173.out
                have hnc70 := NB173_172.out
                have hcz71_0 : wc.cell? ⟨gb172, 0, none⟩ = some (.int .i64 a7_0) := (blk_cell BK172.out 0).trans rfl
                have hcz71_1 : wc.cell? ⟨gb172, 1, none⟩ = some (.int .i64 a7_1) := (blk_cell BK172.out 1).trans rfl
                have hcz71_2 : wc.cell? ⟨gb172, 2, none⟩ = some (.int .i64 a7_2) := (blk_cell BK172.out 2).trans rfl
                have hcz71_3 : wc.cell? ⟨gb172, 3, none⟩ = some (.int .i64 a7_3) := (blk_cell BK172.out 3).trans rfl
                have hfz71_0 := blk_frozen BK172.out 0
                have hfz71_1 := blk_frozen BK172.out 1
                have hfz71_2 := blk_frozen BK172.out 2
                have hfz71_3 := blk_frozen BK172.out 3
                go_wp2_with (first | ((with_reducible refine gate_dst (N := 19) rfl ?_); refine box_event ?hg (N := 19) ?hd (cs := #[.int .i64 0, .int .i64 0, .int .i64 0, .slice none 0 0]) (t := 35) ?hr ?_; (case hd => rfl); (case hg => rfl); (case hr => first | (go_simp; done) | (go_simp; rfl)); intro gb179 hg w72 hbox hb; have n0_ := Aside0.mk (blk_below (g := gb170) (o := .cells #[.int .i64 a0_0, .int .i64 a0_1, .int .i64 a0_2, .slice A0_3 l0_3.length c0_3] 35 (0, 0)) q109_ hb); have n1_ := Aside0.mk (blk_below (g := gb171) (o := .cells #[.int .i64 a1_0, .int .i64 a1_1] 38 (0, 0)) q110_ hb); have n2_ := Aside0.mk (blk_below (g := gb172) (o := .cells #[.int .i64 a7_0, .int .i64 a7_1, .int .i64 a7_2, .int .i64 a7_3] 33 (0, 0)) q111_ hb); have n3_ := Aside0.mk (blk_below (g := gb173) (o := .cells #[.int .i64 0, .int .i64 0, .int .i64 0, .slice none 0 0] 35 (0, 0)) q112_ hb); have n4_ := Aside0.mk (below_step q38_ hb); have n5_ := Aside0.mk (hbox); have n6_ := Aside0.mk ((by rw [hg]; exact (below_size q38_) : w.heap.size ≤ gb179)); have n7_ := Aside0.mk ((by rw [hg]; exact (below_size q38_) : w.heap.size ≤ gb179)); have n8_ := Aside0.mk ((q23_ : gb170 ≠ gb179)); have n9_ := Aside0.mk ((q24_ : gb179 ≠ gb170)); have n10_ := Aside0.mk ((q48_ : gb171 ≠ gb179)); have n11_ := Aside0.mk ((q49_ : gb179 ≠ gb171)); have n12_ := Aside0.mk ((by rw [hg]; exact Nat.ne_of_lt (blk_lt (g := gb172) (o := .cells #[.int .i64 a7_0, .int .i64 a7_1, .int .i64 a7_2, .int .i64 a7_3] 33 (0, 0)) q111_) : gb172 ≠ gb179)); have n13_ := Aside0.mk ((by rw [hg]; exact Nat.ne_of_gt (blk_lt (g := gb172) (o := .cells #[.int .i64 a7_0, .int .i64 a7_1, .int .i64 a7_2, .int .i64 a7_3] 33 (0, 0)) q111_) : gb179 ≠ gb172)); have n14_ := Aside0.mk ((by rw [hg]; exact Nat.ne_of_lt (blk_lt (g := gb173) (o := .cells #[.int .i64 0, .int .i64 0, .int .i64 0, .slice none 0 0] 35 (0, 0)) q112_) : gb173 ≠ gb179)); have n15_ := Aside0.mk ((by rw [hg]; exact Nat.ne_of_gt (blk_lt (g := gb173) (o := .cells #[.int .i64 0, .int .i64 0, .int .i64 0, .slice none 0 0] 35 (0, 0)) q112_) : gb179 ≠ gb173)); clear BK170; clear BK171; clear BK172; clear BK173; clear HB; have BK170 := n0_; have BK171 := n1_; have BK172 := n2_; have BK173 := n3_; have HB := n4_; have BK179 := n5_; have GW179 := n6_; have GE179 := n7_; have NB170_179 := n8_; have NB179_170 := n9_; have NB171_179 := n10_; have NB179_171 := n11_; have NB172_179 := n12_; have NB179_172 := n13_; have NB173_179 := n14_; have NB179_173 := n15_; clear n0_ n1_ n2_ n3_ n4_ n5_ n6_ n7_ n8_ n9_ n10_ n11_ n12_ n13_ n14_ n15_; clear hb hbox hg; have hnb73 := NB179_170.out; have hnc73 := NB170_179.out; have hnb74 := NB179_171.out; have hnc74 := NB171_179.out; have hnb75 := NB179_172.out; have hnc75 := NB172_179.out; have hnb76 := NB179_173.out; have hnc76 := NB173_179.out; have hcz77_0 : w72.cell? ⟨gb179, 0, none⟩ = some (.int .i64 0) := (blk_cell BK179.out 0).trans rfl; have hcz77_1 : w72.cell? ⟨gb179, 1, none⟩ = some (.int .i64 0) := (blk_cell BK179.out 1).trans rfl; have hcz77_2 : w72.cell? ⟨gb179, 2, none⟩ = some (.int .i64 0) := (blk_cell BK179.out 2).trans rfl; have hcz77_3 : w72.cell? ⟨gb179, 3, none⟩ = some (.slice none 0 0) := (blk_cell BK179.out 3).trans rfl; have hfz77_0 := blk_frozen BK179.out 0; have hfz77_1 := blk_frozen BK179.out 1; have hfz77_2 := blk_frozen BK179.out 2; have hfz77_3 := blk_frozen BK179.out 3; have hcz78_0 : w72.cell? ⟨gb172, 0, none⟩ = some (.int .i64 a7_0) := (blk_cell BK172.out 0).trans rfl; have hcz78_1 : w72.cell? ⟨gb172, 1, none⟩ = some (.int .i64 a7_1) := (blk_cell BK172.out 1).trans rfl; have hcz78_2 : w72.cell? ⟨gb172, 2, none⟩ = some (.int .i64 a7_2) := (blk_cell BK172.out 2).trans rfl; have hcz78_3 : w72.cell? ⟨gb172, 3, none⟩ = some (.int .i64 a7_3) := (blk_cell BK172.out 3).trans rfl; have hfz78_0 := blk_frozen BK172.out 0; have hfz78_1 := blk_frozen BK172.out 1; have hfz78_2 := blk_frozen BK172.out 2; have hfz78_3 := blk_frozen BK172.out 3))
                go_loopg [20] kj38 (fun kq v20 w' => ∃ (x20_3 : Int) (x180003_3 : List Int) (u180003 : Value), v20 = .int .i64 x20_3 ∧ Aside0 (convolve_Tile.l0 kq a2 a3 l4 a5 a6 x20_3 a0_0 a0_1 a0_2 l0_3 a1_0 a1_1 a7_0 a7_1 a7_2 a7_3 (wrap64 (a7_2 - a7_0)) (wrap64 (a7_3 - a7_1)) a6 x180003_3 = some (r1, r2, r3, r4, r5)) ∧ Aside0 (kq ≤ kj38) ∧ Aside0 (Kd.R (Kd.int .i64) 3 w' w.heap.size (fun _ => True) u180003 x180003_3) ∧ Aside0 (w'.heap[gb170]? = some (.cells #[.int .i64 a0_0, .int .i64 a0_1, .int .i64 a0_2, (.slice A0_3 l0_3.length c0_3)] 35 (0, 0))) ∧ Aside0 (w'.heap[gb171]? = some (.cells #[.int .i64 a1_0, .int .i64 a1_1] 38 (0, 0))) ∧ Aside0 (w'.heap[gb172]? = some (.cells #[.int .i64 a7_0, .int .i64 a7_1, .int .i64 a7_2, .int .i64 a7_3] 33 (0, 0))) ∧ Aside0 (w'.heap[gb173]? = some (.cells #[.int .i64 0, .int .i64 0, .int .i64 0, (.slice none 0 0)] 35 (0, 0))) ∧ Aside0 (w'.heap[gb179]? = some (.cells #[.int .i64 (wrap64 (a7_2 - a7_0)), .int .i64 (wrap64 (a7_3 - a7_1)), .int .i64 a6, u180003] 35 (0, 0))) ∧ Aside0 (Below w.heap.size w w'))
                case atStart => exact ⟨(a7_1), (([] : List Int)), (.slice none 0 0), q146_, H', ⟨Nat.le_refl _⟩, ⟨q92_⟩, ⟨by (with_reducible repeat (first | refine blk_drewN ?_ _ | refine blk_drew ?_ | refine blk_alloc ?_ _)); refine blk_far ?_ NB170_179.out _; (with_reducible repeat (first | refine blk_drewN ?_ _ | refine blk_drew ?_ | refine blk_alloc ?_ _)); refine blk_far ?_ NB170_179.out _; (with_reducible repeat (first | refine blk_drewN ?_ _ | refine blk_drew ?_ | refine blk_alloc ?_ _)); refine blk_far ?_ NB170_179.out _; (with_reducible repeat (first | refine blk_drewN ?_ _ | refine blk_drew ?_ | refine blk_alloc ?_ _)); refine blk_far ?_ NB170_179.out _; (with_reducible repeat (first | refine blk_drewN ?_ _ | refine blk_drew ?_ | refine blk_alloc ?_ _)); exact BK170.out⟩, ⟨by (with_reducible repeat (first | refine blk_drewN ?_ _ | refine blk_drew ?_ | refine blk_alloc ?_ _)); refine blk_far ?_ NB171_179.out _; (with_reducible repeat (first | refine blk_drewN ?_ _ | refine blk_drew ?_ | refine blk_alloc ?_ _)); refine blk_far ?_ NB171_179.out _; (with_reducible repeat (first | refine blk_drewN ?_ _ | refine blk_drew ?_ | refine blk_alloc ?_ _)); refine blk_far ?_ NB171_179.out _; (with_reducible repeat (first | refine blk_drewN ?_ _ | refine blk_drew ?_ | refine blk_alloc ?_ _)); refine blk_far ?_ NB171_179.out _; (with_reducible repeat (first | refine blk_drewN ?_ _ | refine blk_drew ?_ | refine blk_alloc ?_ _)); exact BK171.out⟩, ⟨by (with_reducible repeat (first | refine blk_drewN ?_ _ | refine blk_drew ?_ | refine blk_alloc ?_ _)); refine blk_far ?_ NB172_179.out _; (with_reducible repeat (first | refine blk_drewN ?_ _ | refine blk_drew ?_ | refine blk_alloc ?_ _)); refine blk_far ?_ NB172_179.out _; (with_reducible repeat (first | refine blk_drewN ?_ _ | refine blk_drew ?_ | refine blk_alloc ?_ _)); refine blk_far ?_ NB172_179.out _; (with_reducible repeat (first | refine blk_drewN ?_ _ | refine blk_drew ?_ | refine blk_alloc ?_ _)); refine blk_far ?_ NB172_179.out _; (with_reducible repeat (first | refine blk_drewN ?_ _ | refine blk_drew ?_ | refine blk_alloc ?_ _)); exact BK172.out⟩, ⟨by (with_reducible repeat (first | refine blk_drewN ?_ _ | refine blk_drew ?_ | refine blk_alloc ?_ _)); refine blk_far ?_ NB173_179.out _; (with_reducible repeat (first | refine blk_drewN ?_ _ | refine blk_drew ?_ | refine blk_alloc ?_ _)); refine blk_far ?_ NB173_179.out _; (with_reducible repeat (first | refine blk_drewN ?_ _ | refine blk_drew ?_ | refine blk_alloc ?_ _)); refine blk_far ?_ NB173_179.out _; (with_reducible repeat (first | refine blk_drewN ?_ _ | refine blk_drew ?_ | refine blk_alloc ?_ _)); refine blk_far ?_ NB173_179.out _; (with_reducible repeat (first | refine blk_drewN ?_ _ | refine blk_drew ?_ | refine blk_alloc ?_ _)); exact BK173.out⟩, ⟨by (with_reducible repeat (first | refine blk_drewN ?_ _ | refine blk_drew ?_ | refine blk_alloc ?_ _)); refine blk_put (cs := #[.int .i64 (wrap64 (a7_2 - a7_0)), .int .i64 (wrap64 (a7_3 - a7_1)), .int .i64 a6, .slice none 0 0]) ?_ 3 _ rfl; (with_reducible repeat (first | refine blk_drewN ?_ _ | refine blk_drew ?_ | refine blk_alloc ?_ _)); refine blk_put (cs := #[.int .i64 (wrap64 (a7_2 - a7_0)), .int .i64 (wrap64 (a7_3 - a7_1)), .int .i64 0, .slice none 0 0]) ?_ 2 _ rfl; (with_reducible repeat (first | refine blk_drewN ?_ _ | refine blk_drew ?_ | refine blk_alloc ?_ _)); refine blk_put (cs := #[.int .i64 (wrap64 (a7_2 - a7_0)), .int .i64 0, .int .i64 0, .slice none 0 0]) ?_ 1 _ rfl; (with_reducible repeat (first | refine blk_drewN ?_ _ | refine blk_drew ?_ | refine blk_alloc ?_ _)); refine blk_put (cs := #[.int .i64 0, .int .i64 0, .int .i64 0, .slice none 0 0]) ?_ 0 _ rfl; (with_reducible repeat (first | refine blk_drewN ?_ _ | refine blk_drew ?_ | refine blk_alloc ?_ _)); exact BK179.out⟩, ⟨q17_⟩⟩
                case round =>
                  clear H'
                  try clear c1
                  try clear c2
                  try clear p2
                  try clear c3
                  try clear c4
                  try clear c5
                  try clear c6
                  try clear p6
                  try clear c7
                  try clear c12
                  try clear c15
                  try clear c17
                  try clear c18
                  try clear c19
                  try clear c20
                  try clear c22
                  try clear c23
                  try clear c27
                  try clear c28
                  try clear c29
                  try clear c32
                  try clear c33
                  try clear c34
                  try clear c35
                  try clear c36
                  try clear c38
                  try clear c38b0
                  try clear c38b1
                  try clear c40
                  try clear c41
                  try clear c42
                  try clear c46
                  try clear c47
                  try clear c48
                  try clear c49
                  try clear c53
                  try clear c54
                  try clear c55
                  try clear c59
                  try clear c60
                  try clear c63
                  try clear c64
                  try clear p64
                  try clear c65
                  try clear c66
                  try clear c68
                  try clear c69
                  try clear c70
                  try clear c73
                  try clear c74
                  try clear c75
                  try clear c76
                  try clear hcz20_0
                  try clear hcz20_1
                  try clear hcz20_2
                  try clear hcz20_3
                  try clear hcz24_0
                  try clear hcz24_1
                  try clear hcz25_0
                  try clear hcz25_1
                  try clear hcz25_2
                  try clear hcz25_3
                  try clear hcz30_0
                  try clear hcz30_1
                  try clear hcz30_2
                  try clear hcz30_3
                  try clear hcz36_0
                  try clear hcz36_1
                  try clear hcz36_2
                  try clear hcz36_3
                  try clear hcz43_0
                  try clear hcz43_1
                  try clear hcz43_2
                  try clear hcz43_3
                  try clear hcz50_0
                  try clear hcz50_1
                  try clear hcz50_2
                  try clear hcz50_3
                  try clear hcz56_0
                  try clear hcz56_1
                  try clear hcz56_2
                  try clear hcz56_3
                  try clear hcz58_0
                  try clear hcz58_1
                  try clear hcz58_2
                  try clear hcz58_3
                  try clear hcz61_0
                  try clear hcz61_1
                  try clear hcz61_2
                  try clear hcz61_3
                  try clear hcz67_0
                  try clear hcz67_1
                  try clear hcz67_2
                  try clear hcz67_3
                  try clear hcz71_0
                  try clear hcz71_1
                  try clear hcz71_2
                  try clear hcz71_3
                  try clear hcz77_0
                  try clear hcz77_1
                  try clear hcz77_2
                  try clear hcz77_3
                  try clear hcz78_0
                  try clear hcz78_1
                  try clear hcz78_2
                  try clear hcz78_3
                  try clear hfz20_0
                  try clear hfz20_1
                  try clear hfz20_2
                  try clear hfz20_3
                  try clear hfz24_0
                  try clear hfz24_1
                  try clear hfz25_0
                  try clear hfz25_1
                  try clear hfz25_2
                  try clear hfz25_3
                  try clear hfz30_0
                  try clear hfz30_1
                  try clear hfz30_2
                  try clear hfz30_3
                  try clear hfz36_0
                  try clear hfz36_1
                  try clear hfz36_2
                  try clear hfz36_3
                  try clear hfz43_0
                  try clear hfz43_1
                  try clear hfz43_2
                  try clear hfz43_3
                  try clear hfz50_0
                  try clear hfz50_1
                  try clear hfz50_2
                  try clear hfz50_3
                  try clear hfz56_0
                  try clear hfz56_1
                  try clear hfz56_2
                  try clear hfz56_3
                  try clear hfz58_0
                  try clear hfz58_1
                  try clear hfz58_2
                  try clear hfz58_3
                  try clear hfz61_0
                  try clear hfz61_1
                  try clear hfz61_2
                  try clear hfz61_3
                  try clear hfz67_0
                  try clear hfz67_1
                  try clear hfz67_2
                  try clear hfz67_3
                  try clear hfz71_0
                  try clear hfz71_1
                  try clear hfz71_2
                  try clear hfz71_3
                  try clear hfz77_0
                  try clear hfz77_1
                  try clear hfz77_2
                  try clear hfz77_3
                  try clear hfz78_0
                  try clear hfz78_1
                  try clear hfz78_2
                  try clear hfz78_3
                  try clear p2
                  obtain ⟨x20_3, x180003_3, u180003, rfl, HA, HK3, HO_180003, BK170, BK171, BK172, BK173, BK179, HB⟩ := hrel
                  cases gk with
                  | zero => exact absurd HA.out (by simp [convolve_Tile.l0])
                  | succ k3 =>
                    have H := HA.out
                    clear HA
                    simp only [convolve_Tile.l0] at H
                    by_cases c79 : x20_3 < a7_3
                    · rw [if_pos c79] at H
                      have c79b0 : decide (x20_3 < a7_3) = true := decide_eq_true c79
                      clear c79
                      have H' := Aside0.mk H
                      clear H
                      have hnb80 := NB172_170.out
                      have hnc80 := NB170_172.out
                      have hnb81 := NB172_171.out
                      have hnc81 := NB171_172.out
                      have hnb82 := NB172_173.out
                      have hnc82 := NB173_172.out
                      have hnb83 := NB172_179.out
                      have hnc83 := NB179_172.out
                      have hcz84_0 : wr.cell? ⟨gb172, 0, none⟩ = some (.int .i64 a7_0) := (blk_cell BK172.out 0).trans rfl
                      have hcz84_1 : wr.cell? ⟨gb172, 1, none⟩ = some (.int .i64 a7_1) := (blk_cell BK172.out 1).trans rfl
                      have hcz84_2 : wr.cell? ⟨gb172, 2, none⟩ = some (.int .i64 a7_2) := (blk_cell BK172.out 2).trans rfl
                      have hcz84_3 : wr.cell? ⟨gb172, 3, none⟩ = some (.int .i64 a7_3) := (blk_cell BK172.out 3).trans rfl
                      have hfz84_0 := blk_frozen BK172.out 0
                      have hfz84_1 := blk_frozen BK172.out 1
                      have hfz84_2 := blk_frozen BK172.out 2
                      have hfz84_3 := blk_frozen BK172.out 3
                      go_wp2
                      go_loopg [21] k3 (fun kq v21 w' => ∃ (x21_4 : Int) (x180003_4 : List Int) (u180003 : Value), v21 = .int .i64 x21_4 ∧ Aside0 (convolve_Tile.l1 kq a2 a3 l4 a5 a6 x20_3 x21_4 a0_0 a0_1 a0_2 l0_3 a1_0 a1_1 a7_0 a7_1 a7_2 a7_3 (wrap64 (a7_2 - a7_0)) (wrap64 (a7_3 - a7_1)) a6 x180003_4 = some (r1, r2, r3, r4, r5)) ∧ Aside0 (kq ≤ k3) ∧ Aside0 (Kd.R (Kd.int .i64) 3 w' w.heap.size (fun _ => True) u180003 x180003_4) ∧ Aside0 (w'.heap[gb170]? = some (.cells #[.int .i64 a0_0, .int .i64 a0_1, .int .i64 a0_2, (.slice A0_3 l0_3.length c0_3)] 35 (0, 0))) ∧ Aside0 (w'.heap[gb171]? = some (.cells #[.int .i64 a1_0, .int .i64 a1_1] 38 (0, 0))) ∧ Aside0 (w'.heap[gb172]? = some (.cells #[.int .i64 a7_0, .int .i64 a7_1, .int .i64 a7_2, .int .i64 a7_3] 33 (0, 0))) ∧ Aside0 (w'.heap[gb173]? = some (.cells #[.int .i64 0, .int .i64 0, .int .i64 0, (.slice none 0 0)] 35 (0, 0))) ∧ Aside0 (w'.heap[gb179]? = some (.cells #[.int .i64 (wrap64 (a7_2 - a7_0)), .int .i64 (wrap64 (a7_3 - a7_1)), .int .i64 a6, u180003] 35 (0, 0))) ∧ Aside0 (Below w.heap.size w w'))
                      case atStart => exact ⟨(a7_0), (x180003_3), (u180003), q146_, H', ⟨Nat.le_refl _⟩, ⟨q124_⟩, ⟨q109_⟩, ⟨q110_⟩, ⟨q111_⟩, ⟨q112_⟩, ⟨q113_⟩, ⟨q17_⟩⟩
                      case round =>
                        clear H'
                        try clear c1
                        try clear c2
                        try clear p2
                        try clear c3
                        try clear c4
                        try clear c5
                        try clear c6
                        try clear p6
                        try clear c7
                        try clear c8
                        try clear c12
                        try clear c15
                        try clear c17
                        try clear c18
                        try clear c19
                        try clear c20
                        try clear c22
                        try clear c23
                        try clear c27
                        try clear c28
                        try clear c29
                        try clear c32
                        try clear c33
                        try clear c34
                        try clear c35
                        try clear c36
                        try clear c38
                        try clear c38b0
                        try clear c38b1
                        try clear c40
                        try clear c41
                        try clear c42
                        try clear c46
                        try clear c47
                        try clear c48
                        try clear c49
                        try clear c53
                        try clear c54
                        try clear c55
                        try clear c59
                        try clear c60
                        try clear c63
                        try clear c64
                        try clear p64
                        try clear c65
                        try clear c66
                        try clear c68
                        try clear c69
                        try clear c70
                        try clear c73
                        try clear c74
                        try clear c75
                        try clear c76
                        try clear c79
                        try clear c79b0
                        try clear c80
                        try clear c81
                        try clear c82
                        try clear c83
                        try clear hcz20_0
                        try clear hcz20_1
                        try clear hcz20_2
                        try clear hcz20_3
                        try clear hcz24_0
                        try clear hcz24_1
                        try clear hcz25_0
                        try clear hcz25_1
                        try clear hcz25_2
                        try clear hcz25_3
                        try clear hcz30_0
                        try clear hcz30_1
                        try clear hcz30_2
                        try clear hcz30_3
                        try clear hcz36_0
                        try clear hcz36_1
                        try clear hcz36_2
                        try clear hcz36_3
                        try clear hcz43_0
                        try clear hcz43_1
                        try clear hcz43_2
                        try clear hcz43_3
                        try clear hcz50_0
                        try clear hcz50_1
                        try clear hcz50_2
                        try clear hcz50_3
                        try clear hcz56_0
                        try clear hcz56_1
                        try clear hcz56_2
                        try clear hcz56_3
                        try clear hcz58_0
                        try clear hcz58_1
                        try clear hcz58_2
                        try clear hcz58_3
                        try clear hcz61_0
                        try clear hcz61_1
                        try clear hcz61_2
                        try clear hcz61_3
                        try clear hcz67_0
                        try clear hcz67_1
                        try clear hcz67_2
                        try clear hcz67_3
                        try clear hcz71_0
                        try clear hcz71_1
                        try clear hcz71_2
                        try clear hcz71_3
                        try clear hcz77_0
                        try clear hcz77_1
                        try clear hcz77_2
                        try clear hcz77_3
                        try clear hcz78_0
                        try clear hcz78_1
                        try clear hcz78_2
                        try clear hcz78_3
                        try clear hcz84_0
                        try clear hcz84_1
                        try clear hcz84_2
                        try clear hcz84_3
                        try clear hfz20_0
                        try clear hfz20_1
                        try clear hfz20_2
                        try clear hfz20_3
                        try clear hfz24_0
                        try clear hfz24_1
                        try clear hfz25_0
                        try clear hfz25_1
                        try clear hfz25_2
                        try clear hfz25_3
                        try clear hfz30_0
                        try clear hfz30_1
                        try clear hfz30_2
                        try clear hfz30_3
                        try clear hfz36_0
                        try clear hfz36_1
                        try clear hfz36_2
                        try clear hfz36_3
                        try clear hfz43_0
                        try clear hfz43_1
                        try clear hfz43_2
                        try clear hfz43_3
                        try clear hfz50_0
                        try clear hfz50_1
                        try clear hfz50_2
                        try clear hfz50_3
                        try clear hfz56_0
                        try clear hfz56_1
                        try clear hfz56_2
                        try clear hfz56_3
                        try clear hfz58_0
                        try clear hfz58_1
                        try clear hfz58_2
                        try clear hfz58_3
                        try clear hfz61_0
                        try clear hfz61_1
                        try clear hfz61_2
                        try clear hfz61_3
                        try clear hfz67_0
                        try clear hfz67_1
                        try clear hfz67_2
                        try clear hfz67_3
                        try clear hfz71_0
                        try clear hfz71_1
                        try clear hfz71_2
                        try clear hfz71_3
                        try clear hfz77_0
                        try clear hfz77_1
                        try clear hfz77_2
                        try clear hfz77_3
                        try clear hfz78_0
                        try clear hfz78_1
                        try clear hfz78_2
                        try clear hfz78_3
                        try clear hfz84_0
                        try clear hfz84_1
                        try clear hfz84_2
                        try clear hfz84_3
                        try clear p2
                        try clear p6
                        try clear p64
                        obtain ⟨x21_4, x180003_4, u180003, rfl, HA, HK4, HO_180003, BK170, BK171, BK172, BK173, BK179, HB⟩ := hrel
                        cases gk with
                        | zero => exact absurd HA.out (by simp [convolve_Tile.l1])
                        | succ k4 =>
                          have H := HA.out
                          clear HA
                          simp only [convolve_Tile.l1] at H
                          by_cases c85 : x21_4 < a7_2
                          · rw [if_pos c85] at H
                            have c85b0 : decide (x21_4 < a7_2) = true := decide_eq_true c85
                            clear c85
                            replace H := Option.bind_eq_some_iff.mp H
                            obtain ⟨t180, A860, H⟩ := H
                            replace H : ((fixed_Shift.f k4 t180 a5).bind fun t181 => ((fixed_Clamp.f t181 a6).bind fun t182 => (if x180003_4.length < 17592186044416 then (convolve_Tile.l1 k4 a2 a3 l4 a5 a6 x20_3 (wrap64 (x21_4 + 1)) a0_0 a0_1 a0_2 l0_3 a1_0 a1_1 a7_0 a7_1 a7_2 a7_3 (wrap64 (a7_2 - a7_0)) (wrap64 (a7_3 - a7_1)) a6 (x180003_4 ++ [t182])) else (none)))) = some (r1, r2, r3, r4, r5) := H
                            have A86 := Aside0.mk A860
                            clear A860
                            replace H := Option.bind_eq_some_iff.mp H
                            obtain ⟨t181, A870, H⟩ := H
                            replace H : ((fixed_Clamp.f t181 a6).bind fun t182 => (if x180003_4.length < 17592186044416 then (convolve_Tile.l1 k4 a2 a3 l4 a5 a6 x20_3 (wrap64 (x21_4 + 1)) a0_0 a0_1 a0_2 l0_3 a1_0 a1_1 a7_0 a7_1 a7_2 a7_3 (wrap64 (a7_2 - a7_0)) (wrap64 (a7_3 - a7_1)) a6 (x180003_4 ++ [t182])) else (none))) = some (r1, r2, r3, r4, r5) := H
                            have A87 := Aside0.mk A870
                            clear A870
                            replace H := Option.bind_eq_some_iff.mp H
                            obtain ⟨t182, A880, H⟩ := H
                            replace H : (if x180003_4.length < 17592186044416 then (convolve_Tile.l1 k4 a2 a3 l4 a5 a6 x20_3 (wrap64 (x21_4 + 1)) a0_0 a0_1 a0_2 l0_3 a1_0 a1_1 a7_0 a7_1 a7_2 a7_3 (wrap64 (a7_2 - a7_0)) (wrap64 (a7_3 - a7_1)) a6 (x180003_4 ++ [t182])) else (none)) = some (r1, r2, r3, r4, r5) := H
                            have A88 := Aside0.mk A880
                            clear A880
                            by_cases c89 : x180003_4.length < 17592186044416
                            · rw [if_pos c89] at H
                              have LMc89 := Aside0.mk c89
                              clear c89
                              obtain ⟨y183, hy183⟩ : ∃ y_ : List Int, y_ = (x180003_4 ++ [t182]) := ⟨_, rfl⟩
                              replace H : (convolve_Tile.l1 k4 a2 a3 l4 a5 a6 x20_3 (wrap64 (x21_4 + 1)) a0_0 a0_1 a0_2 l0_3 a1_0 a1_1 a7_0 a7_1 a7_2 a7_3 (wrap64 (a7_2 - a7_0)) (wrap64 (a7_3 - a7_1)) a6 y183) = some (r1, r2, r3, r4, r5) := by first | (rw [hy183]; with_reducible exact H) | (have H2_ := (Option.bind_some _ _).symm.trans H; rw [hy183]; with_reducible exact H2_) | (have H2_ := (Option.bind_some _ _).symm.trans H; with_reducible exact H2_) | with_reducible exact H | (rw [hy183]; exact H) | exact H
                              have Ny183 := Aside0.mk hy183
                              clear hy183
                              have H' := Aside0.mk H
                              clear H
                              have hnb90 := NB172_170.out
                              have hnc90 := NB170_172.out
                              have hnb91 := NB172_171.out
                              have hnc91 := NB171_172.out
                              have hnb92 := NB172_173.out
                              have hnc92 := NB173_172.out
                              have hnb93 := NB172_179.out
                              have hnc93 := NB179_172.out
                              have hcz94_0 : wr.cell? ⟨gb172, 0, none⟩ = some (.int .i64 a7_0) := (blk_cell BK172.out 0).trans rfl
                              have hcz94_1 : wr.cell? ⟨gb172, 1, none⟩ = some (.int .i64 a7_1) := (blk_cell BK172.out 1).trans rfl
                              have hcz94_2 : wr.cell? ⟨gb172, 2, none⟩ = some (.int .i64 a7_2) := (blk_cell BK172.out 2).trans rfl
                              have hcz94_3 : wr.cell? ⟨gb172, 3, none⟩ = some (.int .i64 a7_3) := (blk_cell BK172.out 3).trans rfl
                              have hfz94_0 := blk_frozen BK172.out 0
                              have hfz94_1 := blk_frozen BK172.out 1
                              have hfz94_2 := blk_frozen BK172.out 2
                              have hfz94_3 := blk_frozen BK172.out 3
                              try go_wp2
                              have n0_ := Aside0.mk (Kd.R_drew HO_180003.out)
                              have n1_ := Aside0.mk (blk_drew BK170.out)
                              have n2_ := Aside0.mk (blk_drew BK171.out)
                              have n3_ := Aside0.mk (blk_drew BK172.out)
                              have n4_ := Aside0.mk (blk_drew BK173.out)
                              have n5_ := Aside0.mk (blk_drew BK179.out)
                              have n6_ := Aside0.mk (below_drew1 HB.out)
                              clear HO_180003
                              clear BK170
                              clear BK171
                              clear BK172
                              clear BK173
                              clear BK179
                              clear HB
                              have HO_180003 := n0_
                              have BK170 := n1_
                              have BK171 := n2_
                              have BK172 := n3_
                              have BK173 := n4_
                              have BK179 := n5_
                              have HB := n6_
                              clear n0_ n1_ n2_ n3_ n4_ n5_ n6_
                              refine start_ (n := 24) (S := fun w' => w'.cell? ⟨gb179, 0, none⟩ = some (.int .i64 (wrap64 (a7_2 - a7_0))) ∧ w'.cell? ⟨gb179, 1, none⟩ = some (.int .i64 (wrap64 (a7_3 - a7_1))) ∧ w'.cell? ⟨gb179, 2, none⟩ = some (.int .i64 a6) ∧ w'.cell? ⟨gb179, 3, none⟩ = some (u180003) ∧ w'.cell? ⟨gb170, 0, none⟩ = some (.int .i64 a0_0) ∧ w'.cell? ⟨gb170, 1, none⟩ = some (.int .i64 a0_1) ∧ w'.cell? ⟨gb170, 2, none⟩ = some (.int .i64 a0_2) ∧ w'.cell? ⟨gb170, 3, none⟩ = some (.slice A0_3 l0_3.length c0_3) ∧ w'.cell? ⟨gb171, 0, none⟩ = some (.int .i64 a1_0) ∧ w'.cell? ⟨gb171, 1, none⟩ = some (.int .i64 a1_1)) (ds := [23]) #[false, false, false, false, false, false, false, false, false, false, false, false, false, false, false, false, false, false, false, false, false, false, false, false] (by kernel_rfl) rfl rfl ⟨(blk_cell BK179.out 0).trans rfl, (blk_cell BK179.out 1).trans rfl, (blk_cell BK179.out 2).trans rfl, (blk_cell BK179.out 3).trans rfl, (blk_cell BK170.out 0).trans rfl, (blk_cell BK170.out 1).trans rfl, (blk_cell BK170.out 2).trans rfl, (blk_cell BK170.out 3).trans rfl, (blk_cell BK171.out 0).trans rfl, (blk_cell BK171.out 1).trans rfl⟩ (fun hHeld => ?_); refine with_tabW convolve_Tile.tab15 convolve_Tile.bits15 (fun HT_ HW_ => ?_)
                              generalize wr.drew = w95 at HO_180003 BK170 BK171 BK172 BK173 BK179 HB hHeld ⊢
                              refine pure_ (i := 0) (N := some 86) (v := ?_) (a' := ?_) #[true, false, false, false, false, false, false, false, false, false, false, false, false, false, false, false, false, false, false, false, false, false, false, false] rfl rfl (any_of HT_.out (by kernel_rfl)) (fun _ _ _ h => h) (Or.inl ⟨by rfl, ?_⟩) ?_ ?_
                              rotate_left
                              · intro w'
                                go_simp
                                with_reducible rfl
                              rotate_left
                              · simp only [Act.put, List.setIfInBounds_toArray, List.set_cons_zero, List.set_cons_succ, i64_w, i32_w]
                                rfl
                              refine pure_ (i := 4) (N := some 90) (v := ?_) (a' := ?_) #[true, false, false, false, true, false, false, false, false, false, false, false, false, false, false, false, false, false, false, false, false, false, false, false] rfl rfl (any_of HT_.out (by kernel_rfl)) (fun _ _ _ h => h) (Or.inl ⟨by rfl, ?_⟩) ?_ ?_
                              rotate_left
                              · intro w'
                                go_simp
                                with_reducible rfl
                              rotate_left
                              · simp only [Act.put, List.setIfInBounds_toArray, List.set_cons_zero, List.set_cons_succ, i64_w, i32_w]
                                rfl
                              refine pure_ (i := 5) (N := some 91) (v := ?_) (a' := ?_) #[true, false, false, false, true, true, false, false, false, false, false, false, false, false, false, false, false, false, false, false, false, false, false, false] rfl rfl (any_of HT_.out (by kernel_rfl)) (fun _ _ _ h => h) (Or.inl ⟨by rfl, ?_⟩) ?_ ?_
                              rotate_left
                              · intro w'
                                go_simp
                                with_reducible rfl
                              rotate_left
                              · simp only [Act.put, List.setIfInBounds_toArray, List.set_cons_zero, List.set_cons_succ, i64_w, i32_w]
                                rfl
                              refine pure_ (i := 6) (N := some 92) (v := ?_) (a' := ?_) #[true, false, false, false, true, true, true, false, false, false, false, false, false, false, false, false, false, false, false, false, false, false, false, false] rfl rfl (any_of HT_.out (by kernel_rfl)) (fun _ _ _ h => h) (Or.inl ⟨by rfl, ?_⟩) ?_ ?_
                              rotate_left
                              · intro w'
                                go_simp
                                with_reducible rfl
                              rotate_left
                              · simp only [Act.put, List.setIfInBounds_toArray, List.set_cons_zero, List.set_cons_succ, i64_w, i32_w]
                                rfl
                              refine pure_ (i := 7) (N := some 93) (v := ?_) (a' := ?_) #[true, false, false, false, true, true, true, true, false, false, false, false, false, false, false, false, false, false, false, false, false, false, false, false] rfl rfl (any_of HT_.out (by kernel_rfl)) (fun _ _ _ h => h) (Or.inl ⟨by rfl, ?_⟩) ?_ ?_
                              rotate_left
                              · intro w'
                                go_simp
                                with_reducible rfl
                              rotate_left
                              · simp only [Act.put, List.setIfInBounds_toArray, List.set_cons_zero, List.set_cons_succ, i64_w, i32_w]
                                rfl
                              refine pure_ (i := 8) (N := some 94) (v := ?_) (a' := ?_) #[true, false, false, false, true, true, true, true, true, false, false, false, false, false, false, false, false, false, false, false, false, false, false, false] rfl rfl (any_of HT_.out (by kernel_rfl)) (fun _ _ _ h => h) (Or.inl ⟨by rfl, ?_⟩) ?_ ?_
                              rotate_left
                              · intro w'
                                go_simp
                                with_reducible rfl
                              rotate_left
                              · simp only [Act.put, List.setIfInBounds_toArray, List.set_cons_zero, List.set_cons_succ, i64_w, i32_w]
                                rfl
                              refine pure_ (i := 9) (N := some 95) (v := ?_) (a' := ?_) #[true, false, false, false, true, true, true, true, true, true, false, false, false, false, false, false, false, false, false, false, false, false, false, false] rfl rfl (any_of HT_.out (by kernel_rfl)) (fun _ _ _ h => h) (Or.inl ⟨by rfl, ?_⟩) ?_ ?_
                              rotate_left
                              · intro w'
                                go_simp
                                with_reducible rfl
                              rotate_left
                              · simp only [Act.put, List.setIfInBounds_toArray, List.set_cons_zero, List.set_cons_succ, i64_w, i32_w]
                                rfl
                              refine pure_ (i := 10) (N := some 96) (v := ?_) (a' := ?_) #[true, false, false, false, true, true, true, true, true, true, true, false, false, false, false, false, false, false, false, false, false, false, false, false] rfl rfl (any_of HT_.out (by kernel_rfl)) (fun _ _ _ h => h) (Or.inl ⟨by rfl, ?_⟩) ?_ ?_
                              rotate_left
                              · intro w'
                                go_simp
                                with_reducible rfl
                              rotate_left
                              · simp only [Act.put, List.setIfInBounds_toArray, List.set_cons_zero, List.set_cons_succ, i64_w, i32_w]
                                rfl
                              refine pure_ (i := 11) (N := some 97) (v := ?_) (a' := ?_) #[true, false, false, false, true, true, true, true, true, true, true, true, false, false, false, false, false, false, false, false, false, false, false, false] rfl rfl (any_of HT_.out (by kernel_rfl)) (fun _ _ _ h => h) (Or.inl ⟨by rfl, ?_⟩) ?_ ?_
                              rotate_left
                              · intro w'
                                go_simp
                                with_reducible rfl
                              rotate_left
                              · simp only [Act.put, List.setIfInBounds_toArray, List.set_cons_zero, List.set_cons_succ, i64_w, i32_w]
                                rfl
                              refine pure_ (i := 12) (N := some 98) (v := ?_) (a' := ?_) #[true, false, false, false, true, true, true, true, true, true, true, true, true, false, false, false, false, false, false, false, false, false, false, false] rfl rfl (any_of HT_.out (by kernel_rfl)) (fun _ _ _ h => h) (Or.inl ⟨by rfl, ?_⟩) ?_ ?_
                              rotate_left
                              · intro w'
                                go_simp
                                with_reducible rfl
                              rotate_left
                              · simp only [Act.put, List.setIfInBounds_toArray, List.set_cons_zero, List.set_cons_succ, i64_w, i32_w]
                                rfl
                              refine pure_ (i := 13) (N := some 99) (v := ?_) (a' := ?_) #[true, false, false, false, true, true, true, true, true, true, true, true, true, true, false, false, false, false, false, false, false, false, false, false] rfl rfl (any_of HT_.out (by kernel_rfl)) (fun _ _ _ h => h) (Or.inl ⟨by rfl, ?_⟩) ?_ ?_
                              rotate_left
                              · intro w'
                                go_simp
                                with_reducible rfl
                              rotate_left
                              · simp only [Act.put, List.setIfInBounds_toArray, List.set_cons_zero, List.set_cons_succ, i64_w, i32_w]
                                rfl
                              refine pure_ (i := 14) (N := some 100) (v := ?_) (a' := ?_) #[true, false, false, false, true, true, true, true, true, true, true, true, true, true, true, false, false, false, false, false, false, false, false, false] rfl rfl (any_of HT_.out (by kernel_rfl)) (fun _ _ _ h => h) (Or.inl ⟨by rfl, ?_⟩) ?_ ?_
                              rotate_left
                              · intro w'
                                go_simp
                                with_reducible rfl
                              rotate_left
                              · simp only [Act.put, List.setIfInBounds_toArray, List.set_cons_zero, List.set_cons_succ, i64_w, i32_w]
                                rfl
                              refine pure_ (i := 16) (N := some 102) (v := ?_) (a' := ?_) #[true, false, false, false, true, true, true, true, true, true, true, true, true, true, true, false, true, false, false, false, false, false, false, false] rfl rfl (any_of HT_.out (by kernel_rfl)) (fun _ _ _ h => h) (Or.inl ⟨by rfl, ?_⟩) ?_ ?_
                              rotate_left
                              · intro w'
                                go_simp
                                with_reducible rfl
                              rotate_left
                              · simp only [Act.put, List.setIfInBounds_toArray, List.set_cons_zero, List.set_cons_succ, i64_w, i32_w]
                                rfl
                              refine pure_ (i := 18) (N := some 104) (v := ?_) (a' := ?_) #[true, false, false, false, true, true, true, true, true, true, true, true, true, true, true, false, true, false, true, false, false, false, false, false] rfl rfl (any_of HT_.out (by kernel_rfl)) (fun _ _ _ h => h) (Or.inl ⟨by rfl, ?_⟩) ?_ ?_
                              rotate_left
                              · intro w'
                                go_simp
                                with_reducible rfl
                              rotate_left
                              · simp only [Act.put, List.setIfInBounds_toArray, List.set_cons_zero, List.set_cons_succ, i64_w, i32_w]
                                rfl
                              refine take_ (i := 1) (N := some 87) (v := ?_) (a' := ?_) #[true, true, false, false, true, true, true, true, true, true, true, true, true, true, true, false, true, false, true, false, false, false, false, false] rfl rfl (take_ofW HT_.out HW_.out (by kernel_rfl)) (fun _ _ _ h => h) (Or.inl ⟨by rfl, ?_⟩) hHeld ?_ ?_
                              rotate_left
                              · rintro w' ⟨s0, s1, s2, s3, s4, s5, s6, s7, s8, s9⟩
                                go_simp
                                with_reducible rfl
                              rotate_left
                              · simp only [Act.put, List.setIfInBounds_toArray, List.set_cons_zero, List.set_cons_succ, i64_w, i32_w]
                                rfl
                              refine take_ (i := 2) (N := some 88) (v := ?_) (a' := ?_) #[true, true, true, false, true, true, true, true, true, true, true, true, true, true, true, false, true, false, true, false, false, false, false, false] rfl rfl (take_ofW HT_.out HW_.out (by kernel_rfl)) (fun _ _ _ h => h) (Or.inl ⟨by rfl, ?_⟩) hHeld ?_ ?_
                              rotate_left
                              · rintro w' ⟨s0, s1, s2, s3, s4, s5, s6, s7, s8, s9⟩
                                go_simp
                                with_reducible rfl
                              rotate_left
                              · simp only [Act.put, List.setIfInBounds_toArray, List.set_cons_zero, List.set_cons_succ, i64_w, i32_w]
                                rfl
                              refine take_ (i := 3) (N := some 89) (v := ?_) (a' := ?_) #[true, true, true, true, true, true, true, true, true, true, true, true, true, true, true, false, true, false, true, false, false, false, false, false] rfl rfl (take_ofW HT_.out HW_.out (by kernel_rfl)) (fun _ _ _ h => h) (Or.inl ⟨by rfl, ?_⟩) hHeld ?_ ?_
                              rotate_left
                              · rintro w' ⟨s0, s1, s2, s3, s4, s5, s6, s7, s8, s9⟩
                                go_simp
                                with_reducible rfl
                              rotate_left
                              · simp only [Act.put, List.setIfInBounds_toArray, List.set_cons_zero, List.set_cons_succ, i64_w, i32_w]
                                rfl
                              refine one_ (i := 15) (N := some 101) #[true, true, true, true, true, true, true, true, true, true, true, true, true, true, true, true, true, false, true, false, false, false, false, false] rfl rfl (one_of HT_.out (by kernel_rfl)) (by decide) (fun K hK => ?_)
                              refine goes_ Try.func42 (by kernel_rfl) rfl #[.agg #[.int .i64 a0_0, .int .i64 a0_1, .int .i64 a0_2, .slice A0_3 l0_3.length c0_3], .agg #[.int .i64 a1_0, .int .i64 a1_1], .int .i64 a2, .int .i64 a3, .slice A4 l4.length c4, .int .i64 (wrap64 (x21_4 - (wrap64 (Int.tdiv a2 2)))), .int .i64 (wrap64 (x20_3 - (wrap64 (Int.tdiv a3 2))))] (by rfl) rfl rfl q93_ ?_
                              with_reducible refine (convolve_sum.calls k4 a0_0 a0_1 a0_2 _ _ l0_3 a1_0 a1_1 a2 a3 _ _ l4 (wrap64 (x21_4 - (wrap64 (Int.tdiv a2 2)))) (wrap64 (x20_3 - (wrap64 (Int.tdiv a3 2)))) t180 _ ?side1 ?side2 ?side3 ?side4 A86.out).mono ?_
                              (case side1 => repeat (first | exact (Kd.C_below HR0_3.out HB.out) | (with_reducible refine Kd.C_alloc ?_ _) | (with_reducible refine Kd.C_drewN ?_ _) | (with_reducible refine Kd.C_drew ?_)))
                              (case side2 => exact HC0_3.out)
                              (case side3 => repeat (first | exact (Kd.C_below HR4.out HB.out) | (with_reducible refine Kd.C_alloc ?_ _) | (with_reducible refine Kd.C_drewN ?_ _) | (with_reducible refine Kd.C_drew ?_)))
                              (case side4 => exact HC4.out)
                              rintro e w96 ⟨rfl, hb⟩
                              refine ⟨_, rfl, ?_⟩
                              have n0_ := Aside0.mk (Kd.R_below q124_ hb)
                              have n1_ := Aside0.mk (blk_below (g := gb170) (o := .cells #[.int .i64 a0_0, .int .i64 a0_1, .int .i64 a0_2, .slice A0_3 l0_3.length c0_3] 35 (0, 0)) q109_ hb)
                              have n2_ := Aside0.mk (blk_below (g := gb171) (o := .cells #[.int .i64 a1_0, .int .i64 a1_1] 38 (0, 0)) q110_ hb)
                              have n3_ := Aside0.mk (blk_below (g := gb172) (o := .cells #[.int .i64 a7_0, .int .i64 a7_1, .int .i64 a7_2, .int .i64 a7_3] 33 (0, 0)) q111_ hb)
                              have n4_ := Aside0.mk (blk_below (g := gb173) (o := .cells #[.int .i64 0, .int .i64 0, .int .i64 0, .slice none 0 0] 35 (0, 0)) q112_ hb)
                              have n5_ := Aside0.mk (blk_below (g := gb179) (o := .cells #[.int .i64 (wrap64 (a7_2 - a7_0)), .int .i64 (wrap64 (a7_3 - a7_1)), .int .i64 a6, u180003] 35 (0, 0)) q113_ hb)
                              have n6_ := Aside0.mk (below_step q17_ hb)
                              clear HO_180003
                              clear BK170
                              clear BK171
                              clear BK172
                              clear BK173
                              clear BK179
                              clear HB
                              have HO_180003 := n0_
                              have BK170 := n1_
                              have BK171 := n2_
                              have BK172 := n3_
                              have BK173 := n4_
                              have BK179 := n5_
                              have HB := n6_
                              clear n0_ n1_ n2_ n3_ n4_ n5_ n6_
                              (try clear hb)
                              (try clear hb2)
                              (try clear hk)
                              (try clear hi)
                              refine hK.out _ _ ⟨(blk_cell BK179.out 0).trans rfl, (blk_cell BK179.out 1).trans rfl, (blk_cell BK179.out 2).trans rfl, (blk_cell BK179.out 3).trans rfl, (blk_cell BK170.out 0).trans rfl, (blk_cell BK170.out 1).trans rfl, (blk_cell BK170.out 2).trans rfl, (blk_cell BK170.out 3).trans rfl, (blk_cell BK171.out 0).trans rfl, (blk_cell BK171.out 1).trans rfl⟩ (fun hHeld => ?_)
                              clear hK K
                              refine norm_ (a' := ?_) ?_ ?_
                              rotate_left
                              · show Act.put _ (some 101) _ = _
                                simp only [Act.put, List.setIfInBounds_toArray, List.set_cons_zero, List.set_cons_succ, i64_w, i32_w]
                                rfl
                              refine one_ (i := 17) (N := some 103) #[true, true, true, true, true, true, true, true, true, true, true, true, true, true, true, true, true, true, true, false, false, false, false, false] rfl rfl (one_of HT_.out (by kernel_rfl)) (by decide) (fun K hK => ?_)
                              refine goes_ Try.func41 (by kernel_rfl) rfl #[.int .i64 t180, .int .i64 a5] (by rfl) rfl rfl q93_ ?_
                              with_reducible refine (fixed_Shift.calls k4 t180 a5 t181 _ A87.out).mono ?_
                              rintro e w' ⟨rfl, ⟨nd, rfl⟩⟩
                              refine ⟨_, rfl, ?_⟩
                              refine hK.out _ _ ⟨(blk_cell BK179.out 0).trans rfl, (blk_cell BK179.out 1).trans rfl, (blk_cell BK179.out 2).trans rfl, (blk_cell BK179.out 3).trans rfl, (blk_cell BK170.out 0).trans rfl, (blk_cell BK170.out 1).trans rfl, (blk_cell BK170.out 2).trans rfl, (blk_cell BK170.out 3).trans rfl, (blk_cell BK171.out 0).trans rfl, (blk_cell BK171.out 1).trans rfl⟩ (fun hHeld => ?_)
                              clear hK K
                              refine norm_ (a' := ?_) ?_ ?_
                              rotate_left
                              · show Act.put _ (some 103) _ = _
                                simp only [Act.put, List.setIfInBounds_toArray, List.set_cons_zero, List.set_cons_succ, i64_w, i32_w]
                                rfl
                              refine one_ (i := 19) (N := some 105) #[true, true, true, true, true, true, true, true, true, true, true, true, true, true, true, true, true, true, true, true, false, false, false, false] rfl rfl (one_of HT_.out (by kernel_rfl)) (by decide) (fun K hK => ?_)
                              refine goes_ Try.func40 (by kernel_rfl) rfl #[.int .i64 t181, .int .i64 a6] (by rfl) rfl rfl q93_ ?_
                              with_reducible refine (fixed_Clamp.calls t181 a6 t182 _ A88.out).mono ?_
                              rintro e w97 ⟨rfl, hb⟩
                              refine ⟨_, rfl, ?_⟩
                              have n0_ := Aside0.mk (Kd.R_below q124_ hb)
                              have n1_ := Aside0.mk (blk_below (g := gb170) (o := .cells #[.int .i64 a0_0, .int .i64 a0_1, .int .i64 a0_2, .slice A0_3 l0_3.length c0_3] 35 (0, 0)) q109_ hb)
                              have n2_ := Aside0.mk (blk_below (g := gb171) (o := .cells #[.int .i64 a1_0, .int .i64 a1_1] 38 (0, 0)) q110_ hb)
                              have n3_ := Aside0.mk (blk_below (g := gb172) (o := .cells #[.int .i64 a7_0, .int .i64 a7_1, .int .i64 a7_2, .int .i64 a7_3] 33 (0, 0)) q111_ hb)
                              have n4_ := Aside0.mk (blk_below (g := gb173) (o := .cells #[.int .i64 0, .int .i64 0, .int .i64 0, .slice none 0 0] 35 (0, 0)) q112_ hb)
                              have n5_ := Aside0.mk (blk_below (g := gb179) (o := .cells #[.int .i64 (wrap64 (a7_2 - a7_0)), .int .i64 (wrap64 (a7_3 - a7_1)), .int .i64 a6, u180003] 35 (0, 0)) q113_ hb)
                              have n6_ := Aside0.mk (below_step q17_ hb)
                              clear HO_180003
                              clear BK170
                              clear BK171
                              clear BK172
                              clear BK173
                              clear BK179
                              clear HB
                              have HO_180003 := n0_
                              have BK170 := n1_
                              have BK171 := n2_
                              have BK172 := n3_
                              have BK173 := n4_
                              have BK179 := n5_
                              have HB := n6_
                              clear n0_ n1_ n2_ n3_ n4_ n5_ n6_
                              (try clear hb)
                              (try clear hb2)
                              (try clear hk)
                              (try clear hi)
                              refine hK.out _ _ ⟨(blk_cell BK179.out 0).trans rfl, (blk_cell BK179.out 1).trans rfl, (blk_cell BK179.out 2).trans rfl, (blk_cell BK179.out 3).trans rfl, (blk_cell BK170.out 0).trans rfl, (blk_cell BK170.out 1).trans rfl, (blk_cell BK170.out 2).trans rfl, (blk_cell BK170.out 3).trans rfl, (blk_cell BK171.out 0).trans rfl, (blk_cell BK171.out 1).trans rfl⟩ (fun hHeld => ?_)
                              clear hK K
                              refine norm_ (a' := ?_) ?_ ?_
                              rotate_left
                              · show Act.put _ (some 105) _ = _
                                simp only [Act.put, List.setIfInBounds_toArray, List.set_cons_zero, List.set_cons_succ, i64_w, i32_w]
                                rfl
                              refine one_ (i := 20) (N := some 106) #[true, true, true, true, true, true, true, true, true, true, true, true, true, true, true, true, true, true, true, true, true, false, false, false] rfl rfl (one_of HT_.out (by kernel_rfl)) (by decide) (fun K hK => ?_)
                              refine value_ (w1 := ?_) (v := ?_) (by rfl) rfl ?_ ?_
                              rotate_left 2
                              · go_simp
                                constructor
                                · rfl
                                · rfl
                              refine hK.out _ _ ⟨(blk_cell (blk_alloc BK179.out _) 0).trans rfl, (blk_cell (blk_alloc BK179.out _) 1).trans rfl, (blk_cell (blk_alloc BK179.out _) 2).trans rfl, (blk_cell (blk_alloc BK179.out _) 3).trans rfl, (blk_cell (blk_alloc BK170.out _) 0).trans rfl, (blk_cell (blk_alloc BK170.out _) 1).trans rfl, (blk_cell (blk_alloc BK170.out _) 2).trans rfl, (blk_cell (blk_alloc BK170.out _) 3).trans rfl, (blk_cell (blk_alloc BK171.out _) 0).trans rfl, (blk_cell (blk_alloc BK171.out _) 1).trans rfl⟩ (fun hHeld => ?_)
                              clear hK K
                              refine norm_ (a' := ?_) ?_ ?_
                              rotate_left
                              · show Act.put _ (some 106) _ = _
                                simp only [Act.put, List.setIfInBounds_toArray, List.set_cons_zero, List.set_cons_succ, i64_w, i32_w]
                                rfl
                              refine one_ (i := 21) (N := some 107) #[true, true, true, true, true, true, true, true, true, true, true, true, true, true, true, true, true, true, true, true, true, true, false, false] rfl rfl (one_of HT_.out (by kernel_rfl)) (by decide) (fun K hK => ?_)
                              refine Kd.R_append_step (Kd.int .i64) (w0 := w) w.heap.size (by rfl) (.tmp 87) (.tmp 106) 22 3 (.int .i64 0) 8 rfl Try.underlying22 info3 rfl (by decide) (by omega) u180003 x180003_4 t182 [.int .i64 t182] (fun _ => True) (fun _ => False) rfl rfl ?aP (fun _ hk => hk.elim) ?aF ?aO ?aB ?aS ?aL ?_
                              (case aP => exact rfl)
                              (case aB => exact q17_)
                              (case aF => exact (fun _ _ => trivial))
                              (case aO => exact q124_)
                              (case aS => exact (below_size q17_))
                              (case aL => have := LMc89.out; omega)
                              intro v184 w98 ho hb hg hat
                              rw [← Ny183.out] at ho
                              have n0_ := Aside0.mk (blk_grown (g := gb170) (o := .cells #[.int .i64 a0_0, .int .i64 a0_1, .int .i64 a0_2, .slice A0_3 l0_3.length c0_3] 35 (0, 0)) q109_ hg (Kd.R_ne HO_180003.out BK170.out (by decide)))
                              have n1_ := Aside0.mk (blk_grown (g := gb171) (o := .cells #[.int .i64 a1_0, .int .i64 a1_1] 38 (0, 0)) q110_ hg (Kd.R_ne HO_180003.out BK171.out (by decide)))
                              have n2_ := Aside0.mk (blk_grown (g := gb172) (o := .cells #[.int .i64 a7_0, .int .i64 a7_1, .int .i64 a7_2, .int .i64 a7_3] 33 (0, 0)) q111_ hg (Kd.R_ne HO_180003.out BK172.out (by decide)))
                              have n3_ := Aside0.mk (blk_grown (g := gb173) (o := .cells #[.int .i64 0, .int .i64 0, .int .i64 0, .slice none 0 0] 35 (0, 0)) q112_ hg (Kd.R_ne HO_180003.out BK173.out (by decide)))
                              have n4_ := Aside0.mk (blk_grown (g := gb179) (o := .cells #[.int .i64 (wrap64 (a7_2 - a7_0)), .int .i64 (wrap64 (a7_3 - a7_1)), .int .i64 a6, u180003] 35 (0, 0)) q113_ hg (Kd.R_ne HO_180003.out BK179.out (by decide)))
                              have n5_ := Aside0.mk (hb)
                              have n6_ := Aside0.mk (ho)
                              clear BK170
                              clear BK171
                              clear BK172
                              clear BK173
                              clear BK179
                              clear HB
                              clear HO_180003
                              have BK170 := n0_
                              have BK171 := n1_
                              have BK172 := n2_
                              have BK173 := n3_
                              have BK179 := n4_
                              have HB := n5_
                              have HO185 := n6_
                              clear n0_ n1_ n2_ n3_ n4_ n5_ n6_
                              clear ho hb hg hat
                              obtain ⟨Ao99, co99, eo99⟩ := Kd.R_slice HO185.out
                              (first | subst eo99 | (injection eo99 with f1_ f2_ f3_; have f4_ := f1_.symm; have f5_ := f3_.symm; clear f1_ f2_ f3_; subst f4_; subst f5_))
                              refine hK.out _ _ ⟨(blk_cell BK179.out 0).trans rfl, (blk_cell BK179.out 1).trans rfl, (blk_cell BK179.out 2).trans rfl, (blk_cell BK179.out 3).trans rfl, (blk_cell BK170.out 0).trans rfl, (blk_cell BK170.out 1).trans rfl, (blk_cell BK170.out 2).trans rfl, (blk_cell BK170.out 3).trans rfl, (blk_cell BK171.out 0).trans rfl, (blk_cell BK171.out 1).trans rfl⟩ (fun hHeld => ?_)
                              clear hK K
                              refine norm_ (a' := ?_) ?_ ?_
                              rotate_left
                              · show Act.put _ (some 107) _ = _
                                simp only [Act.put, List.setIfInBounds_toArray, List.set_cons_zero, List.set_cons_succ, i64_w, i32_w]
                                rfl
                              refine pure_ (i := 22) (N := some 108) (v := ?_) (a' := ?_) #[true, true, true, true, true, true, true, true, true, true, true, true, true, true, true, true, true, true, true, true, true, true, true, false] rfl rfl (any_of HT_.out (by kernel_rfl)) (fun _ _ _ h => h) (Or.inl ⟨by rfl, ?_⟩) ?_ ?_
                              rotate_left
                              · intro w'
                                go_simp
                                with_reducible rfl
                              rotate_left
                              · simp only [Act.put, List.setIfInBounds_toArray, List.set_cons_zero, List.set_cons_succ, i64_w, i32_w]
                                rfl
                              refine last_ (i := 23) (N := none) #[true, true, true, true, true, true, true, true, true, true, true, true, true, true, true, true, true, true, true, true, true, true, true, true] rfl rfl (one_of HT_.out (by kernel_rfl)) (by decide) (fun K hK => ?_)
                              have hs100 : w98.cell? ⟨gb179, 3, none⟩ = some (u180003) := (blk_cell BK179.out 3).trans rfl
                              have hfs100 := blk_frozen BK179.out 3
                              have hns100_0 := NB170_179.out
                              have hns100_1 := NB171_179.out
                              have hns100_2 := NB172_179.out
                              have hns100_3 := NB173_179.out
                              have hms100_0 := NB179_170.out
                              have hms100_1 := NB179_171.out
                              have hms100_2 := NB179_172.out
                              have hms100_3 := NB179_173.out
                              refine skip_ (w1 := ?_) (by rfl) rfl ?_ ?_
                              rotate_left
                              · go_simp
                                rfl
                              refine hK.out _ _ ?_
                              clear hK K
                              refine done_ (done_of HT_.out (by kernel_rfl)) ?_
                              try go_wp2
                              go_roundg k4
                              case measure => have := HJ8.out; have := HJ38.out; have := HK3.out; have := HK4.out; omega
                              case rel => exact ⟨(wrap64 (x21_4 + 1)), (y183), (.slice Ao99 y183.length co99), q146_, H', ⟨by have := HJ8.out; have := HJ38.out; have := HK3.out; have := HK4.out; omega⟩, ⟨by (with_reducible repeat (first | apply Kd.R_alloc | apply Kd.R_drewN | apply Kd.R_drew)); exact Kd.R_mono (Kd.R_far (p := ⟨gb179, 3, none⟩) (Kd.R_types HO185.out BK179.out (by decide)) (fun _ hk => hk.2) (.slice Ao99 y183.length co99)) (fun _ hk => trivial)⟩, ⟨by (with_reducible repeat (first | refine blk_drewN ?_ _ | refine blk_drew ?_ | refine blk_alloc ?_ _)); refine blk_far ?_ NB170_179.out _; (with_reducible repeat (first | refine blk_drewN ?_ _ | refine blk_drew ?_ | refine blk_alloc ?_ _)); exact BK170.out⟩, ⟨by (with_reducible repeat (first | refine blk_drewN ?_ _ | refine blk_drew ?_ | refine blk_alloc ?_ _)); refine blk_far ?_ NB171_179.out _; (with_reducible repeat (first | refine blk_drewN ?_ _ | refine blk_drew ?_ | refine blk_alloc ?_ _)); exact BK171.out⟩, ⟨by (with_reducible repeat (first | refine blk_drewN ?_ _ | refine blk_drew ?_ | refine blk_alloc ?_ _)); refine blk_far ?_ NB172_179.out _; (with_reducible repeat (first | refine blk_drewN ?_ _ | refine blk_drew ?_ | refine blk_alloc ?_ _)); exact BK172.out⟩, ⟨by (with_reducible repeat (first | refine blk_drewN ?_ _ | refine blk_drew ?_ | refine blk_alloc ?_ _)); refine blk_far ?_ NB173_179.out _; (with_reducible repeat (first | refine blk_drewN ?_ _ | refine blk_drew ?_ | refine blk_alloc ?_ _)); exact BK173.out⟩, ⟨by (with_reducible repeat (first | refine blk_drewN ?_ _ | refine blk_drew ?_ | refine blk_alloc ?_ _)); refine blk_put (cs := #[.int .i64 (wrap64 (a7_2 - a7_0)), .int .i64 (wrap64 (a7_3 - a7_1)), .int .i64 a6, u180003]) ?_ 3 _ rfl; (with_reducible repeat (first | refine blk_drewN ?_ _ | refine blk_drew ?_ | refine blk_alloc ?_ _)); exact BK179.out⟩, ⟨q17_⟩⟩
                            · rw [if_neg c89] at H
                              exact absurd H (by simp)
                          · rw [if_neg c85] at H
                            have c85b0 : decide (x21_4 < a7_2) = false := decide_eq_false c85
                            clear c85
                            have H' := Aside0.mk H
                            clear H
                            have hnb101 := NB172_170.out
                            have hnc101 := NB170_172.out
                            have hnb102 := NB172_171.out
                            have hnc102 := NB171_172.out
                            have hnb103 := NB172_173.out
                            have hnc103 := NB173_172.out
                            have hnb104 := NB172_179.out
                            have hnc104 := NB179_172.out
                            have hcz105_0 : wr.cell? ⟨gb172, 0, none⟩ = some (.int .i64 a7_0) := (blk_cell BK172.out 0).trans rfl
                            have hcz105_1 : wr.cell? ⟨gb172, 1, none⟩ = some (.int .i64 a7_1) := (blk_cell BK172.out 1).trans rfl
                            have hcz105_2 : wr.cell? ⟨gb172, 2, none⟩ = some (.int .i64 a7_2) := (blk_cell BK172.out 2).trans rfl
                            have hcz105_3 : wr.cell? ⟨gb172, 3, none⟩ = some (.int .i64 a7_3) := (blk_cell BK172.out 3).trans rfl
                            have hfz105_0 := blk_frozen BK172.out 0
                            have hfz105_1 := blk_frozen BK172.out 1
                            have hfz105_2 := blk_frozen BK172.out 2
                            have hfz105_3 := blk_frozen BK172.out 3
                            go_wp2
                            go_roundg k4
                            case measure => have := HJ8.out; have := HJ38.out; have := HK3.out; have := HK4.out; omega
                            case rel => exact ⟨(wrap64 (x20_3 + 1)), (x180003_4), (u180003), q146_, H', ⟨by have := HJ8.out; have := HJ38.out; have := HK3.out; have := HK4.out; omega⟩, ⟨q124_⟩, ⟨q109_⟩, ⟨q110_⟩, ⟨q111_⟩, ⟨q112_⟩, ⟨q113_⟩, ⟨q17_⟩⟩
                    · rw [if_neg c79] at H
                      have c79b0 : decide (x20_3 < a7_3) = false := decide_eq_false c79
                      clear c79
                      simp only [Option.some.injEq, Prod.mk.injEq] at H
                      obtain ⟨rfl, rfl, rfl, rfl, rfl⟩ := H
                      have hnb106 := NB172_170.out
                      have hnc106 := NB170_172.out
                      have hnb107 := NB172_171.out
                      have hnc107 := NB171_172.out
                      have hnb108 := NB172_173.out
                      have hnc108 := NB173_172.out
                      have hnb109 := NB172_179.out
                      have hnc109 := NB179_172.out
                      have hcz110_0 : wr.cell? ⟨gb172, 0, none⟩ = some (.int .i64 a7_0) := (blk_cell BK172.out 0).trans rfl
                      have hcz110_1 : wr.cell? ⟨gb172, 1, none⟩ = some (.int .i64 a7_1) := (blk_cell BK172.out 1).trans rfl
                      have hcz110_2 : wr.cell? ⟨gb172, 2, none⟩ = some (.int .i64 a7_2) := (blk_cell BK172.out 2).trans rfl
                      have hcz110_3 : wr.cell? ⟨gb172, 3, none⟩ = some (.int .i64 a7_3) := (blk_cell BK172.out 3).trans rfl
                      have hfz110_0 := blk_frozen BK172.out 0
                      have hfz110_1 := blk_frozen BK172.out 1
                      have hfz110_2 := blk_frozen BK172.out 2
                      have hfz110_3 := blk_frozen BK172.out 3
                      have hnb111 := NB179_170.out
                      have hnc111 := NB170_179.out
                      have hnb112 := NB179_171.out
                      have hnc112 := NB171_179.out
                      have hnb113 := NB179_173.out
                      have hnc113 := NB173_179.out
                      have hcz114_0 : wr.cell? ⟨gb179, 0, none⟩ = some (.int .i64 (wrap64 (a7_2 - a7_0))) := (blk_cell BK179.out 0).trans rfl
                      have hcz114_1 : wr.cell? ⟨gb179, 1, none⟩ = some (.int .i64 (wrap64 (a7_3 - a7_1))) := (blk_cell BK179.out 1).trans rfl
                      have hcz114_2 : wr.cell? ⟨gb179, 2, none⟩ = some (.int .i64 a6) := (blk_cell BK179.out 2).trans rfl
                      have hcz114_3 : wr.cell? ⟨gb179, 3, none⟩ = some (u180003) := (blk_cell BK179.out 3).trans rfl
                      have hfz114_0 := blk_frozen BK179.out 0
                      have hfz114_1 := blk_frozen BK179.out 1
                      have hfz114_2 := blk_frozen BK179.out 2
                      have hfz114_3 := blk_frozen BK179.out 3
                      have hnb115 := NB173_170.out
                      have hnc115 := NB170_173.out
                      have hnb116 := NB173_171.out
                      have hnc116 := NB171_173.out
                      have hcz117_0 : wr.cell? ⟨gb173, 0, none⟩ = some (.int .i64 0) := (blk_cell BK173.out 0).trans rfl
                      have hcz117_1 : wr.cell? ⟨gb173, 1, none⟩ = some (.int .i64 0) := (blk_cell BK173.out 1).trans rfl
                      have hcz117_2 : wr.cell? ⟨gb173, 2, none⟩ = some (.int .i64 0) := (blk_cell BK173.out 2).trans rfl
                      have hcz117_3 : wr.cell? ⟨gb173, 3, none⟩ = some (.slice none 0 0) := (blk_cell BK173.out 3).trans rfl
                      have hfz117_0 := blk_frozen BK173.out 0
                      have hfz117_1 := blk_frozen BK173.out 1
                      have hfz117_2 := blk_frozen BK173.out 2
                      have hfz117_3 := blk_frozen BK173.out 3
                      obtain ⟨Ao118, co118, eo118⟩ := Kd.R_slice HO_180003.out
                      subst eo118
                      go_wp2
                      refine bodyPost_ret (results_ct rfl _ _ gb173 35 #[.int .i64 (wrap64 (a7_2 - a7_0)), .int .i64 (wrap64 (a7_3 - a7_1)), .int .i64 a6, .slice Ao118 x180003_3.length co118] (0, 0) _ rfl (by (with_reducible repeat (first | refine blk_drewN ?_ _ | refine blk_drew ?_ | refine blk_alloc ?_ _)); refine blk_put (cs := #[.int .i64 (wrap64 (a7_2 - a7_0)), .int .i64 (wrap64 (a7_3 - a7_1)), .int .i64 a6, .slice none 0 0]) ?_ 3 _ rfl; (with_reducible repeat (first | refine blk_drewN ?_ _ | refine blk_drew ?_ | refine blk_alloc ?_ _)); refine blk_put (cs := #[.int .i64 (wrap64 (a7_2 - a7_0)), .int .i64 (wrap64 (a7_3 - a7_1)), .int .i64 0, .slice none 0 0]) ?_ 2 _ rfl; (with_reducible repeat (first | refine blk_drewN ?_ _ | refine blk_drew ?_ | refine blk_alloc ?_ _)); refine blk_put (cs := #[.int .i64 (wrap64 (a7_2 - a7_0)), .int .i64 0, .int .i64 0, .slice none 0 0]) ?_ 1 _ rfl; (with_reducible repeat (first | refine blk_drewN ?_ _ | refine blk_drew ?_ | refine blk_alloc ?_ _)); refine blk_put (cs := #[.int .i64 0, .int .i64 0, .int .i64 0, .slice none 0 0]) ?_ 0 _ rfl; (with_reducible repeat (first | refine blk_drewN ?_ _ | refine blk_drew ?_ | refine blk_alloc ?_ _)); exact BK173.out) Try.underlying35 rfl (by kernel_rfl)) rfl ?_
                      exact ⟨_, q138_, by (with_reducible repeat (first | apply Kd.R_alloc | apply Kd.R_drewN | apply Kd.R_drew)); exact Kd.R_mono (Kd.R_far (p := ⟨gb173, 3, none⟩) (Kd.R_far (p := ⟨gb173, 2, none⟩) (Kd.R_far (p := ⟨gb173, 1, none⟩) (Kd.R_far (p := ⟨gb173, 0, none⟩) (Kd.R_types HO_180003.out BK173.out (by decide)) (fun _ hk => hk.2) (.int .i64 (wrap64 (a7_2 - a7_0)))) (fun _ hk => hk.2) (.int .i64 (wrap64 (a7_3 - a7_1)))) (fun _ hk => hk.2) (.int .i64 a6)) (fun _ hk => hk.2) (.slice Ao118 x180003_3.length co118)) (fun _ hk => trivial), q17_⟩
        · rw [if_neg c38] at H
          have c38b0 : (t176 == 0) = false := beq_eq_false_iff_ne.mpr c38
          have c38b1 : (t176 != 0) = true := bne_iff_ne.mpr c38
          simp only [Option.some.injEq, Prod.mk.injEq] at H
          obtain ⟨rfl, rfl, rfl, rfl, rfl⟩ := H
          have hnb119 := NB170_171.out
          have hnc119 := NB171_170.out
          have hnb120 := NB170_172.out
          have hnc120 := NB172_170.out
          have hnb121 := NB170_173.out
          have hnc121 := NB173_170.out
          have hcz122_0 : wc.cell? ⟨gb170, 0, none⟩ = some (.int .i64 a0_0) := (blk_cell BK170.out 0).trans rfl
          have hcz122_1 : wc.cell? ⟨gb170, 1, none⟩ = some (.int .i64 a0_1) := (blk_cell BK170.out 1).trans rfl
          have hcz122_2 : wc.cell? ⟨gb170, 2, none⟩ = some (.int .i64 a0_2) := (blk_cell BK170.out 2).trans rfl
          have hcz122_3 : wc.cell? ⟨gb170, 3, none⟩ = some (.slice A0_3 l0_3.length c0_3) := (blk_cell BK170.out 3).trans rfl
          have hfz122_0 := blk_frozen BK170.out 0
          have hfz122_1 := blk_frozen BK170.out 1
          have hfz122_2 := blk_frozen BK170.out 2
          have hfz122_3 := blk_frozen BK170.out 3
          go_wp2_with (first | ((with_reducible refine gate_callee (f := 12) rfl ?_); refine goesL_ (some 40) rfl rfl Try.func12 (by kernel_rfl) rfl #[.int .i64 a0_2, .int .i64 a2, .int .i64 a3, .slice A4 l4.length c4, .int .i64 a5, .int .i64 a6] rfl q93_ ?_; (with_reducible refine (convolve_Check.calls kj8 a0_2 a2 a3 _ _ l4 a5 a6 t176 _ ?side1 ?side2 A37.out).mono ?_); (case side1 => repeat (first | exact (Kd.C_below HR4.out HB.out) | (with_reducible refine Kd.C_alloc ?_ _) | (with_reducible refine Kd.C_drewN ?_ _) | (with_reducible refine Kd.C_drew ?_))); (case side2 => exact HC4.out); rintro e w123 ⟨rfl, hb⟩; refine ⟨_, rfl, ?_⟩; have n0_ := Aside0.mk (blk_below (g := gb170) (o := .cells #[.int .i64 a0_0, .int .i64 a0_1, .int .i64 a0_2, .slice A0_3 l0_3.length c0_3] 35 (0, 0)) q109_ hb); have n1_ := Aside0.mk (blk_below (g := gb171) (o := .cells #[.int .i64 a1_0, .int .i64 a1_1] 38 (0, 0)) q110_ hb); have n2_ := Aside0.mk (blk_below (g := gb172) (o := .cells #[.int .i64 a7_0, .int .i64 a7_1, .int .i64 a7_2, .int .i64 a7_3] 33 (0, 0)) q111_ hb); have n3_ := Aside0.mk (blk_below (g := gb173) (o := .cells #[.int .i64 0, .int .i64 0, .int .i64 0, .slice none 0 0] 35 (0, 0)) q112_ hb); have n4_ := Aside0.mk (below_step q38_ hb); clear BK170; clear BK171; clear BK172; clear BK173; clear HB; have BK170 := n0_; have BK171 := n1_; have BK172 := n2_; have BK173 := n3_; have HB := n4_; clear n0_ n1_ n2_ n3_ n4_; (try clear hb); (try clear hb2); (try clear hk); (try clear hi); have hnb124 := NB173_171.out; have hnc124 := NB171_173.out; have hnb125 := NB173_172.out; have hnc125 := NB172_173.out; have hcz126_0 : w123.cell? ⟨gb173, 0, none⟩ = some (.int .i64 0) := (blk_cell BK173.out 0).trans rfl; have hcz126_1 : w123.cell? ⟨gb173, 1, none⟩ = some (.int .i64 0) := (blk_cell BK173.out 1).trans rfl; have hcz126_2 : w123.cell? ⟨gb173, 2, none⟩ = some (.int .i64 0) := (blk_cell BK173.out 2).trans rfl; have hcz126_3 : w123.cell? ⟨gb173, 3, none⟩ = some (.slice none 0 0) := (blk_cell BK173.out 3).trans rfl; have hfz126_0 := blk_frozen BK173.out 0; have hfz126_1 := blk_frozen BK173.out 1; have hfz126_2 := blk_frozen BK173.out 2; have hfz126_3 := blk_frozen BK173.out 3))
          refine bodyPost_ret (results_ct rfl _ _ gb173 35 #[.int .i64 0, .int .i64 0, .int .i64 0, .slice none 0 0] (0, 0) _ rfl q1_ Try.underlying35 rfl (by kernel_rfl)) rfl ?_
          exact ⟨_, q138_, q92_, q38_⟩

end Go.Proofs.Ythgmndomnibefaa.PConvolveMoves
