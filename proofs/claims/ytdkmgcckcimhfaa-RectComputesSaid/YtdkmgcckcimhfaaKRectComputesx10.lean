-- Written by a program of the session (wip/tools/pack.py): the printed texts, pruned; checked by Lean.
import Derived.Test.YtdkmgcckcimhfaaKRectComputesa
import Derived.Test.YtdkmgcckcimhfaaKRectComputesx0
import Derived.Test.YtdkmgcckcimhfaaKRectComputesx1
import Derived.Test.YtdkmgcckcimhfaaKRectComputesx4
import Derived.Test.YtdkmgcckcimhfaaKRectComputesx5
import Derived.Test.YtdkmgcckcimhfaaKRectComputesx6
import Derived.Test.YtdkmgcckcimhfaaKRectComputesx7
import Derived.Test.YtdkmgcckcimhfaaKRectComputesx8
import Derived.Test.YtdkmgcckcimhfaaKRectComputesx9
namespace Go.Proofs.Ytdkmgcckcimhfaa.PRectComputes
open Go.RowKit Go.Proofs.YtdkmgcckcimhfaaW.PrintWords Go.Proofs.YtdkmgcckcimhfaaW.PrintLast Go.Proofs.YtdkmgcckcimhfaaW.PrintMore
attribute [local go_sem] max2_int min2_int max_two min_two max_three min_three max_four min_four   -- for this text's walks alone
set_option linter.unusedVariables false
set_option linter.unusedSimpArgs false
attribute [local go_sem high] eqA26
def tilefarmlaw2_agrees.l0 : Nat → Int → Int → Int → Int → Int → Int → List (S26) → List (S26) → Int → Int → Int → Int → Int → Int → Int → Int → Int → Option (Bool)
  | 0, _, _, _, _, _, _, _, _, _, _, _, _, _, _, _, _, _ => none
  | k + 1, x2, x3, x4, x5, x6, x7, x17, x18, x19, x270000, x270001, x270002, x270003, x271000, x271001, x271002, x271003 => if x19 < (x17.length : Int) then (if 0 ≤ x19 then (if x19 < (x18.length : Int) then (if (!(((rd_T26 x17 x19).f0) == ((rd_T26 x18 x19).f0)) || (!(((rd_T26 x17 x19).f1) == ((rd_T26 x18 x19).f1)) || (!(((rd_T26 x17 x19).f2) == ((rd_T26 x18 x19).f2)) || (!(((rd_T26 x17 x19).f3) == ((rd_T26 x18 x19).f3)))))) = true then (some false) else (tilefarmlaw2_agrees.l0 k x2 x3 x4 x5 x6 x7 x17 x18 (wrap64 (x19 + 1)) x270000 x270001 x270002 x270003 x271000 x271001 x271002 x271003)) else (none)) else (none)) else ((rect_Valid.f x270000 x270001 x270002 x270003).bind fun t279 => ((tilefarmref2_Valid.f x270000 x270001 x270002 x270003).bind fun t280 => (if (t279 == t280) = true then ((rect_Empty.f x270000 x270001 x270002 x270003).bind fun t281 => ((tilefarmref2_Empty.f x270000 x270001 x270002 x270003).bind fun t282 => (if (t281 == t282) = true then ((rect_Area.f x270000 x270001 x270002 x270003).bind fun t283 => ((tilefarmref2_Area.f x270000 x270001 x270002 x270003).bind fun t284 => (if t283 = t284 then ((rect_Contains.f x270000 x270001 x270002 x270003 x2 x3).bind fun t285 => ((tilefarmref2_Contains.f x270000 x270001 x270002 x270003 x2 x3).bind fun t286 => (if (t285 == t286) = true then ((rect_Inside.f k x270000 x270001 x270002 x270003 x271000 x271001 x271002 x271003).bind fun t287 => ((tilefarmref2_Inside.f x270000 x270001 x270002 x270003 x271000 x271001 x271002 x271003).bind fun t288 => (if (t287 == t288) = true then ((rect_Intersect.f k x270000 x270001 x270002 x270003 x271000 x271001 x271002 x271003).bind fun bt289 => ((tilefarmref2_Intersect.f x270000 x270001 x270002 x270003 x271000 x271001 x271002 x271003).bind fun bt293 => (if (bt289.1 == bt293.1 && (bt289.2.1 == bt293.2.1 && (bt289.2.2.1 == bt293.2.2.1 && (bt289.2.2.2 == bt293.2.2.2)))) = true then ((rect_Hull.f k x270000 x270001 x270002 x270003 x271000 x271001 x271002 x271003).bind fun bt297 => ((tilefarmref2_Hull.f k x270000 x270001 x270002 x270003 x271000 x271001 x271002 x271003).bind fun bt301 => (if (bt297.1 == bt301.1 && (bt297.2.1 == bt301.2.1 && (bt297.2.2.1 == bt301.2.2.1 && (bt297.2.2.2 == bt301.2.2.2)))) = true then ((rect_Outset.f k x270000 x270001 x270002 x270003 x4 x5 x6 x7).bind fun bt305 => ((tilefarmref2_Outset.f k x270000 x270001 x270002 x270003 x4 x5 x6 x7).bind fun bt309 => (some (bt305.1 == bt309.1 && (bt305.2.1 == bt309.2.1 && (bt305.2.2.1 == bt309.2.2.1 && (bt305.2.2.2 == bt309.2.2.2))))))) else (some false)))) else (some false)))) else (some false)))) else (some false)))) else (some false)))) else (some false)))) else (some false))))
def tilefarmlaw2_agrees.f (k : Nat) (a0_0 : Int) (a0_1 : Int) (a0_2 : Int) (a0_3 : Int) (a1_0 : Int) (a1_1 : Int) (a1_2 : Int) (a1_3 : Int) (a2 : Int) (a3 : Int) (a4 : Int) (a5 : Int) (a6 : Int) (a7 : Int) : Option (Bool) := (rect_Subtract.f k a0_0 a0_1 a0_2 a0_3 a1_0 a1_1 a1_2 a1_3).bind fun t271 => ((tilefarmref2_Subtract.f k a0_0 a0_1 a0_2 a0_3 a1_0 a1_1 a1_2 a1_3).bind fun t274 => (if (t271.length : Int) = (t274.length : Int) then (tilefarmlaw2_agrees.l0 k a2 a3 a4 a5 a6 a7 t271 t274 0 a0_0 a0_1 a0_2 a0_3 a1_0 a1_1 a1_2 a1_3) else (some false)))
theorem tilefarmlaw2_agrees.mono_l : ∀ k, (∀ y0 y1 y2 y3 y4 y5 y6 y7 y8 y9 y10 y11 y12 y13 y14 y15 y16, LeO (tilefarmlaw2_agrees.l0 k y0 y1 y2 y3 y4 y5 y6 y7 y8 y9 y10 y11 y12 y13 y14 y15 y16) (tilefarmlaw2_agrees.l0 (k + 1) y0 y1 y2 y3 y4 y5 y6 y7 y8 y9 y10 y11 y12 y13 y14 y15 y16))
  | 0 => fun _ _ _ _ _ _ _ _ _ _ _ _ _ _ _ _ _ r h => by simp [tilefarmlaw2_agrees.l0] at h
  | k + 1 => by
    have ih0 := tilefarmlaw2_agrees.mono_l k
    · intro y0 y1 y2 y3 y4 y5 y6 y7 y8 y9 y10 y11 y12 y13 y14 y15 y16
      unfold tilefarmlaw2_agrees.l0
      repeat' first
      | (with_reducible exact ih0 _ _ _ _ _ _ _ _ _ _ _ _ _ _ _ _ _)
      | (with_reducible exact rect_Hull.mono _ _ _ _ _ _ _ _ _)
      | (with_reducible exact rect_Inside.mono _ _ _ _ _ _ _ _ _)
      | (with_reducible exact rect_Intersect.mono _ _ _ _ _ _ _ _ _)
      | (with_reducible exact rect_Outset.mono _ _ _ _ _ _ _ _ _)
      | (with_reducible exact rect_Subtract.mono _ _ _ _ _ _ _ _ _)
      | (with_reducible exact tilefarmref2_Hull.mono _ _ _ _ _ _ _ _ _)
      | (with_reducible exact tilefarmref2_Outset.mono _ _ _ _ _ _ _ _ _)
      | (with_reducible exact tilefarmref2_Subtract.mono _ _ _ _ _ _ _ _ _)
      | (with_reducible exact LeO.refl _)
      | (with_reducible exact LeO.none _)
      | (with_reducible refine LeO.ite ?_ ?_)
      | (with_reducible refine LeO.bind ?_ (fun _ => ?_))
      | exact ih0 _ _ _ _ _ _ _ _ _ _ _ _ _ _ _ _ _
      | exact rect_Hull.mono _ _ _ _ _ _ _ _ _
      | exact rect_Inside.mono _ _ _ _ _ _ _ _ _
      | exact rect_Intersect.mono _ _ _ _ _ _ _ _ _
      | exact rect_Outset.mono _ _ _ _ _ _ _ _ _
      | exact rect_Subtract.mono _ _ _ _ _ _ _ _ _
      | exact tilefarmref2_Hull.mono _ _ _ _ _ _ _ _ _
      | exact tilefarmref2_Outset.mono _ _ _ _ _ _ _ _ _
      | exact tilefarmref2_Subtract.mono _ _ _ _ _ _ _ _ _
      | exact LeO.none _
      | refine LeO.ite ?_ ?_
      | refine LeO.bind ?_ (fun _ => ?_)
theorem tilefarmlaw2_agrees.mono : ∀ a0 a1 a2 a3 a4 a5 a6 a7 a8 a9 a10 a11 a12 a13 k, LeO (tilefarmlaw2_agrees.f k a0 a1 a2 a3 a4 a5 a6 a7 a8 a9 a10 a11 a12 a13) (tilefarmlaw2_agrees.f (k + 1) a0 a1 a2 a3 a4 a5 a6 a7 a8 a9 a10 a11 a12 a13) := by
  intro a0 a1 a2 a3 a4 a5 a6 a7 a8 a9 a10 a11 a12 a13 k
  have ih0 := tilefarmlaw2_agrees.mono_l k
  unfold tilefarmlaw2_agrees.f
  repeat' first
      | (with_reducible exact ih0 _ _ _ _ _ _ _ _ _ _ _ _ _ _ _ _ _)
      | (with_reducible exact rect_Hull.mono _ _ _ _ _ _ _ _ _)
      | (with_reducible exact rect_Inside.mono _ _ _ _ _ _ _ _ _)
      | (with_reducible exact rect_Intersect.mono _ _ _ _ _ _ _ _ _)
      | (with_reducible exact rect_Outset.mono _ _ _ _ _ _ _ _ _)
      | (with_reducible exact rect_Subtract.mono _ _ _ _ _ _ _ _ _)
      | (with_reducible exact tilefarmref2_Hull.mono _ _ _ _ _ _ _ _ _)
      | (with_reducible exact tilefarmref2_Outset.mono _ _ _ _ _ _ _ _ _)
      | (with_reducible exact tilefarmref2_Subtract.mono _ _ _ _ _ _ _ _ _)
      | (with_reducible exact LeO.refl _)
      | (with_reducible exact LeO.none _)
      | (with_reducible refine LeO.ite ?_ ?_)
      | (with_reducible refine LeO.bind ?_ (fun _ => ?_))
      | exact ih0 _ _ _ _ _ _ _ _ _ _ _ _ _ _ _ _ _
      | exact rect_Hull.mono _ _ _ _ _ _ _ _ _
      | exact rect_Inside.mono _ _ _ _ _ _ _ _ _
      | exact rect_Intersect.mono _ _ _ _ _ _ _ _ _
      | exact rect_Outset.mono _ _ _ _ _ _ _ _ _
      | exact rect_Subtract.mono _ _ _ _ _ _ _ _ _
      | exact tilefarmref2_Hull.mono _ _ _ _ _ _ _ _ _
      | exact tilefarmref2_Outset.mono _ _ _ _ _ _ _ _ _
      | exact tilefarmref2_Subtract.mono _ _ _ _ _ _ _ _ _
      | exact LeO.none _
      | refine LeO.ite ?_ ?_
      | refine LeO.bind ?_ (fun _ => ?_)
def tilefarmlaw2_agrees.T1 : Bool × List (List Nat × List Nat) := (true, [([], []), ([], []), ([0, 1], [0, 1]), ([], []), ([], []), ([3, 4, 2], [3, 4]), ([2, 5, 0, 1, 2], [2]), ([5, 6, 0, 1, 2, 3, 4, 5, 6], [5])])
def tilefarmlaw2_agrees.B1 : List Nat := [0, 0, 3, 0, 0, 31, 63, 127]
theorem tilefarmlaw2_agrees.tab1 : rtab .any (opsOf Try.f21 1) = tilefarmlaw2_agrees.T1 := by kernel_rfl
theorem tilefarmlaw2_agrees.bits1 : waitsOk tilefarmlaw2_agrees.T1.2 tilefarmlaw2_agrees.B1 = true := by kernel_rfl
def tilefarmlaw2_agrees.T7 : Bool × List (List Nat × List Nat) := (true, [([], []), ([], []), ([0, 1], [0, 1]), ([2], [2]), ([], []), ([], []), ([4, 5], [4, 5]), ([6], [6]), ([3, 7], [3, 7])])
def tilefarmlaw2_agrees.B7 : List Nat := [0, 0, 3, 7, 0, 0, 48, 112, 255]
theorem tilefarmlaw2_agrees.tab7 : rtab .any (opsOf Try.f21 7) = tilefarmlaw2_agrees.T7 := by kernel_rfl
theorem tilefarmlaw2_agrees.bits7 : waitsOk tilefarmlaw2_agrees.T7.2 tilefarmlaw2_agrees.B7 = true := by kernel_rfl
def tilefarmlaw2_agrees.T9 : Bool × List (List Nat × List Nat) := (true, [([], []), ([0], [0]), ([], []), ([2, 1], [2]), ([1, 3], [1, 3]), ([4, 3], [4]), ([5], [5]), ([6, 5, 5], [5, 6]), ([5], [5]), ([8, 7, 5], [5, 8]), ([7, 9, 5], [5, 7, 9]), ([5, 10], [5, 10]), ([11, 9], [11]), ([12], [12]), ([13, 12, 12], [12, 13]), ([12], [12]), ([15, 14, 12], [12, 15]), ([14, 16, 12], [12, 14, 16]), ([12, 17], [12, 17]), ([18, 16], [18]), ([19], [19]), ([19], [19]), ([19], [19]), ([20, 21, 22, 19, 19], [19, 20, 21, 22]), ([19], [19]), ([19], [19]), ([19], [19]), ([24, 25, 26, 23, 19], [19, 24, 25, 26]), ([23, 27, 19], [19, 23, 27]), ([19, 28], [19, 28]), ([29, 27], [29]), ([30], [30]), ([30], [30]), ([31, 32, 30, 30], [30, 31, 32]), ([30], [30]), ([30], [30]), ([34, 35, 33, 30], [30, 34, 35]), ([33, 36, 30], [30, 33, 36]), ([30, 37], [30, 37]), ([38, 36], [38]), ([39], [39]), ([39], [39]), ([40, 41, 39, 39], [39, 40, 41]), ([39], [39]), ([39], [39]), ([43, 44, 42, 39], [39, 43, 44]), ([42, 45, 39], [39, 42, 45]), ([39, 46], [39, 46]), ([47, 45], [47]), ([48], [48]), ([48], [48]), ([49, 50, 48, 48], [48, 49, 50]), ([48], [48]), ([48], [48]), ([52, 53, 51, 48], [48, 52, 53]), ([51, 54, 48], [48, 51, 54]), ([48, 55], [48, 55]), ([56, 54], [56]), ([57], [57]), ([57], [57]), ([57], [57]), ([57], [57]), ([57], [57]), ([58, 59, 60, 61, 62, 57, 57], [57, 58, 59, 60, 61, 62]), ([57], [57]), ([57], [57]), ([57], [57]), ([57], [57]), ([57], [57]), ([64, 65, 66, 67, 68, 63, 57], [57, 64, 65, 66, 67, 68]), ([63, 69, 57], [57, 63, 69]), ([57, 70], [57, 70]), ([71, 69, 0, 1, 2, 3, 4, 5, 6, 7, 8, 9, 10, 11, 12, 13, 14, 15, 16, 17, 18, 19, 20, 21, 22, 23, 24, 25, 26, 27, 28, 29, 30, 31, 32, 33, 34, 35, 36, 37, 38, 39, 40, 41, 42, 43, 44, 45, 46, 47, 48, 49, 50, 51, 52, 53, 54, 55, 56, 57, 58, 59, 60, 61, 62, 63, 64, 65, 66, 67, 68, 69, 70, 71], [71])])
def tilefarmlaw2_agrees.B9 : List Nat := [0, 1, 0, 7, 15, 31, 63, 127, 63, 511, 1023, 2047, 4095, 8191, 16383, 8191, 65535, 131071, 262143, 524287, 1048575, 1048575, 1048575, 8388607, 1048575, 1048575, 1048575, 134217727, 268435455, 536870911, 1073741823, 2147483647, 2147483647, 8589934591, 2147483647, 2147483647, 68719476735, 137438953471, 274877906943, 549755813887, 1099511627775, 1099511627775, 4398046511103, 1099511627775, 1099511627775, 35184372088831, 70368744177663, 140737488355327, 281474976710655, 562949953421311, 562949953421311, 2251799813685247, 562949953421311, 562949953421311, 18014398509481983, 36028797018963967, 72057594037927935, 144115188075855871, 288230376151711743, 288230376151711743, 288230376151711743, 288230376151711743, 288230376151711743, 9223372036854775807, 288230376151711743, 288230376151711743, 288230376151711743, 288230376151711743, 288230376151711743, 590295810358705651711, 1180591620717411303423, 2361183241434822606847, 4722366482869645213695]
theorem tilefarmlaw2_agrees.tab9 : rtab .any (opsOf Try.f21 9) = tilefarmlaw2_agrees.T9 := by kernel_rfl
theorem tilefarmlaw2_agrees.bits9 : waitsOk tilefarmlaw2_agrees.T9.2 tilefarmlaw2_agrees.B9 = true := by kernel_rfl
set_option maxHeartbeats 8000000 in
set_option maxRecDepth 100000 in
theorem tilefarmlaw2_agrees.calls (k : Nat) (a0_0 : Int) (a0_1 : Int) (a0_2 : Int) (a0_3 : Int) (a1_0 : Int) (a1_1 : Int) (a1_2 : Int) (a1_3 : Int) (a2 : Int) (a3 : Int) (a4 : Int) (a5 : Int) (a6 : Int) (a7 : Int) (r : Bool) (w : World) (h : tilefarmlaw2_agrees.f k a0_0 a0_1 a0_2 a0_3 a1_0 a1_1 a1_2 a1_3 a2 a3 a4 a5 a6 a7 = some r) (hT : r = true := by first | rfl | assumption) :
    Calls Try.prog 21 #[.agg #[.int .i64 a0_0, .int .i64 a0_1, .int .i64 a0_2, .int .i64 a0_3], .agg #[.int .i64 a1_0, .int .i64 a1_1, .int .i64 a1_2, .int .i64 a1_3], .int .i64 a2, .int .i64 a3, .int .i64 a4, .int .i64 a5, .int .i64 a6, .int .i64 a7] w fun e w' => e = .returned (.bool r) ∧ Below w.heap.size w w' := by
  have HT := Aside0.mk hT
  clear hT
  have hu26 := Try.underlying26
  have HB := Aside0.mk (Below.refl w.heap.size w)
  have H : ((rect_Subtract.f k a0_0 a0_1 a0_2 a0_3 a1_0 a1_1 a1_2 a1_3).bind fun t271 => ((tilefarmref2_Subtract.f k a0_0 a0_1 a0_2 a0_3 a1_0 a1_1 a1_2 a1_3).bind fun t274 => (if (t271.length : Int) = (t274.length : Int) then (tilefarmlaw2_agrees.l0 k a2 a3 a4 a5 a6 a7 t271 t274 0 a0_0 a0_1 a0_2 a0_3 a1_0 a1_1 a1_2 a1_3) else (some false)))) = some r := h
  clear h
  replace H := Option.bind_eq_some_iff.mp H
  obtain ⟨t271, A90, H⟩ := H
  replace H : ((tilefarmref2_Subtract.f k a0_0 a0_1 a0_2 a0_3 a1_0 a1_1 a1_2 a1_3).bind fun t274 => (if (t271.length : Int) = (t274.length : Int) then (tilefarmlaw2_agrees.l0 k a2 a3 a4 a5 a6 a7 t271 t274 0 a0_0 a0_1 a0_2 a0_3 a1_0 a1_1 a1_2 a1_3) else (some false))) = some r := H
  have A9 := Aside0.mk A90
  clear A90
  replace H := Option.bind_eq_some_iff.mp H
  obtain ⟨t274, A100, H⟩ := H
  replace H : (if (t271.length : Int) = (t274.length : Int) then (tilefarmlaw2_agrees.l0 k a2 a3 a4 a5 a6 a7 t271 t274 0 a0_0 a0_1 a0_2 a0_3 a1_0 a1_1 a1_2 a1_3) else (some false)) = some r := H
  have A10 := Aside0.mk A100
  clear A100
  by_cases c11 : (t271.length : Int) = (t274.length : Int)
  · rw [if_pos c11] at H
    have c11b0 : ((t271.length : Int) == (t274.length : Int)) = true := beq_iff_eq.mpr c11
    have c11b1 : ((t271.length : Int) != (t274.length : Int)) = false := bne_eq_false_iff_eq.mpr c11
    have c11b2 : (t271.length == t274.length) = true := by first | simpa using c11 | (simp at c11 ⊢; omega)
    clear c11
    have H' := Aside0.mk H
    clear H
    go_enter Try.func21, Try.ntmps21
    try go_wp2_with (first | ((with_reducible refine gate_dst (N := 8) rfl ?_); refine box_event ?hg (N := 8) ?hd (cs := #[.int .i64 a0_0, .int .i64 a0_1, .int .i64 a0_2, .int .i64 a0_3]) (t := 26) ?hr ?_; (case hd => rfl); (case hg => rfl); (case hr => first | (go_simp; done) | (go_simp; rfl)); intro gb269 hg w12 hbox hb; have n0_ := Aside0.mk (below_step q129_ hb); have n1_ := Aside0.mk (hbox); have n2_ := Aside0.mk ((q104_ : w.heap.size ≤ gb269)); have n3_ := Aside0.mk ((q104_ : w.heap.size ≤ gb269)); clear HB; have HB := n0_; have BK269 := n1_; have GW269 := n2_; have GE269 := n3_; clear n0_ n1_ n2_ n3_; clear hb hbox hg) | ((with_reducible refine gate_dst (N := 9) rfl ?_); refine box_event ?hg (N := 9) ?hd (cs := #[.int .i64 a1_0, .int .i64 a1_1, .int .i64 a1_2, .int .i64 a1_3]) (t := 26) ?hr ?_; (case hd => rfl); (case hg => rfl); (case hr => first | (go_simp; done) | (go_simp; rfl)); intro gb270 hg w13 hbox hb; have n0_ := Aside0.mk (blk_below (g := gb269) (o := .cells #[.int .i64 a0_0, .int .i64 a0_1, .int .i64 a0_2, .int .i64 a0_3] 26 (0, 0)) q164_ hb); have n1_ := Aside0.mk (below_step q123_ hb); have n2_ := Aside0.mk (hbox); have n3_ := Aside0.mk ((by rw [hg]; exact (below_size q123_) : w.heap.size ≤ gb270)); have n4_ := Aside0.mk ((by rw [hg]; exact (below_size q123_) : w.heap.size ≤ gb270)); have n5_ := Aside0.mk ((by rw [hg]; exact Nat.ne_of_lt (blk_lt (g := gb269) (o := .cells #[.int .i64 a0_0, .int .i64 a0_1, .int .i64 a0_2, .int .i64 a0_3] 26 (0, 0)) q164_) : gb269 ≠ gb270)); have n6_ := Aside0.mk ((by rw [hg]; exact Nat.ne_of_gt (blk_lt (g := gb269) (o := .cells #[.int .i64 a0_0, .int .i64 a0_1, .int .i64 a0_2, .int .i64 a0_3] 26 (0, 0)) q164_) : gb270 ≠ gb269)); clear BK269; clear HB; have BK269 := n0_; have HB := n1_; have BK270 := n2_; have GW270 := n3_; have GE270 := n4_; have NB269_270 := n5_; have NB270_269 := n6_; clear n0_ n1_ n2_ n3_ n4_ n5_ n6_; clear hb hbox hg))
    have n0_ := Aside0.mk (blk_drew BK269.out)
    have n1_ := Aside0.mk (blk_drew BK270.out)
    have n2_ := Aside0.mk (below_drew1 HB.out)
    clear BK269
    clear BK270
    clear HB
    have BK269 := n0_
    have BK270 := n1_
    have HB := n2_
    clear n0_ n1_ n2_
    refine start_ (n := 8) (S := fun w' => w'.cell? ⟨gb269, 0, none⟩ = some (.int .i64 a0_0) ∧ w'.cell? ⟨gb269, 1, none⟩ = some (.int .i64 a0_1) ∧ w'.cell? ⟨gb269, 2, none⟩ = some (.int .i64 a0_2) ∧ w'.cell? ⟨gb269, 3, none⟩ = some (.int .i64 a0_3) ∧ w'.cell? ⟨gb270, 0, none⟩ = some (.int .i64 a1_0) ∧ w'.cell? ⟨gb270, 1, none⟩ = some (.int .i64 a1_1) ∧ w'.cell? ⟨gb270, 2, none⟩ = some (.int .i64 a1_2) ∧ w'.cell? ⟨gb270, 3, none⟩ = some (.int .i64 a1_3)) (ds := []) #[false, false, false, false, false, false, false, false] (by kernel_rfl) rfl rfl ⟨(blk_cell BK269.out 0).trans rfl, (blk_cell BK269.out 1).trans rfl, (blk_cell BK269.out 2).trans rfl, (blk_cell BK269.out 3).trans rfl, (blk_cell BK270.out 0).trans rfl, (blk_cell BK270.out 1).trans rfl, (blk_cell BK270.out 2).trans rfl, (blk_cell BK270.out 3).trans rfl⟩ (fun hHeld => ?_); refine with_tabW tilefarmlaw2_agrees.tab1 tilefarmlaw2_agrees.bits1 (fun HT_ HW_ => ?_)
    generalize w13.drew = w14 at BK269 BK270 HB hHeld ⊢
    refine take_ (i := 0) (N := some 20) (v := ?_) (a' := ?_) #[true, false, false, false, false, false, false, false] rfl rfl (take_ofW HT_.out HW_.out (by kernel_rfl)) (fun _ _ _ h => h) (Or.inl ⟨by rfl, ?_⟩) hHeld ?_ ?_
    rotate_left
    · rintro w' ⟨s0, s1, s2, s3, s4, s5, s6, s7⟩
      go_simp
      with_reducible rfl
    rotate_left
    · simp only [Act.put, List.setIfInBounds_toArray, List.set_cons_zero, List.set_cons_succ, i64_w, i32_w]
      rfl
    refine take_ (i := 1) (N := some 21) (v := ?_) (a' := ?_) #[true, true, false, false, false, false, false, false] rfl rfl (take_ofW HT_.out HW_.out (by kernel_rfl)) (fun _ _ _ h => h) (Or.inl ⟨by rfl, ?_⟩) hHeld ?_ ?_
    rotate_left
    · rintro w' ⟨s0, s1, s2, s3, s4, s5, s6, s7⟩
      go_simp
      with_reducible rfl
    rotate_left
    · simp only [Act.put, List.setIfInBounds_toArray, List.set_cons_zero, List.set_cons_succ, i64_w, i32_w]
      rfl
    refine take_ (i := 3) (N := some 23) (v := ?_) (a' := ?_) #[true, true, false, true, false, false, false, false] rfl rfl (take_ofW HT_.out HW_.out (by kernel_rfl)) (fun _ _ _ h => h) (Or.inl ⟨by rfl, ?_⟩) hHeld ?_ ?_
    rotate_left
    · rintro w' ⟨s0, s1, s2, s3, s4, s5, s6, s7⟩
      go_simp
      with_reducible rfl
    rotate_left
    · simp only [Act.put, List.setIfInBounds_toArray, List.set_cons_zero, List.set_cons_succ, i64_w, i32_w]
      rfl
    refine take_ (i := 4) (N := some 24) (v := ?_) (a' := ?_) #[true, true, false, true, true, false, false, false] rfl rfl (take_ofW HT_.out HW_.out (by kernel_rfl)) (fun _ _ _ h => h) (Or.inl ⟨by rfl, ?_⟩) hHeld ?_ ?_
    rotate_left
    · rintro w' ⟨s0, s1, s2, s3, s4, s5, s6, s7⟩
      go_simp
      with_reducible rfl
    rotate_left
    · simp only [Act.put, List.setIfInBounds_toArray, List.set_cons_zero, List.set_cons_succ, i64_w, i32_w]
      rfl
    refine one_ (i := 2) (N := some 22) #[true, true, true, true, true, false, false, false] rfl rfl (one_of HT_.out (by kernel_rfl)) (by decide) (fun K hK => ?_)
    refine goes_ Try.func11 (by kernel_rfl) rfl #[.agg #[.int .i64 a0_0, .int .i64 a0_1, .int .i64 a0_2, .int .i64 a0_3], .agg #[.int .i64 a1_0, .int .i64 a1_1, .int .i64 a1_2, .int .i64 a1_3]] (by rfl) rfl rfl q128_ ?_
    with_reducible refine (rect_Subtract.calls k a0_0 a0_1 a0_2 a0_3 a1_0 a1_1 a1_2 a1_3 t271 _ A9.out).mono ?_
    rintro e w15 ⟨v272, rfl, ho0, hb⟩
    refine ⟨_, rfl, ?_⟩
    have n0_ := Aside0.mk (Kd.R_lower (Kd.R_newB (Kd.R_newB ho0 (g := gb269) (o := .cells #[.int .i64 a0_0, .int .i64 a0_1, .int .i64 a0_2, .int .i64 a0_3] 26 (0, 0)) q164_) (g := gb270) (o := .cells #[.int .i64 a1_0, .int .i64 a1_1, .int .i64 a1_2, .int .i64 a1_3] 26 (0, 0)) q165_) (below_size q98_))
    have n1_ := Aside0.mk (blk_below (g := gb269) (o := .cells #[.int .i64 a0_0, .int .i64 a0_1, .int .i64 a0_2, .int .i64 a0_3] 26 (0, 0)) q164_ hb)
    have n2_ := Aside0.mk (blk_below (g := gb270) (o := .cells #[.int .i64 a1_0, .int .i64 a1_1, .int .i64 a1_2, .int .i64 a1_3] 26 (0, 0)) q165_ hb)
    have n3_ := Aside0.mk (below_step q98_ hb)
    clear BK269
    clear BK270
    clear HB
    have HO273 := n0_
    have BK269 := n1_
    have BK270 := n2_
    have HB := n3_
    clear n0_ n1_ n2_ n3_
    (try clear hb)
    (try clear hb2)
    (try clear hk)
    (try clear hi)
    (try clear ho0)
    refine hK.out _ _ ⟨(blk_cell BK269.out 0).trans rfl, (blk_cell BK269.out 1).trans rfl, (blk_cell BK269.out 2).trans rfl, (blk_cell BK269.out 3).trans rfl, (blk_cell BK270.out 0).trans rfl, (blk_cell BK270.out 1).trans rfl, (blk_cell BK270.out 2).trans rfl, (blk_cell BK270.out 3).trans rfl⟩ (fun hHeld => ?_)
    clear hK K
    refine norm_ (a' := ?_) ?_ ?_
    rotate_left
    · show Act.put _ (some 22) _ = _
      simp only [Act.put, List.setIfInBounds_toArray, List.set_cons_zero, List.set_cons_succ, i64_w, i32_w]
      rfl
    refine one_ (i := 5) (N := some 25) #[true, true, true, true, true, true, false, false] rfl rfl (one_of HT_.out (by kernel_rfl)) (by decide) (fun K hK => ?_)
    refine goes_ Try.func26 (by kernel_rfl) rfl #[.agg #[.int .i64 a0_0, .int .i64 a0_1, .int .i64 a0_2, .int .i64 a0_3], .agg #[.int .i64 a1_0, .int .i64 a1_1, .int .i64 a1_2, .int .i64 a1_3]] (by rfl) rfl rfl q128_ ?_
    with_reducible refine (tilefarmref2_Subtract.calls k a0_0 a0_1 a0_2 a0_3 a1_0 a1_1 a1_2 a1_3 t274 _ A10.out).mono ?_
    rintro e w16 ⟨v275, rfl, ho0, hb⟩
    refine ⟨_, rfl, ?_⟩
    have n0_ := Aside0.mk (Kd.R_elder' (by (with_reducible repeat (first | apply Kd.R_alloc | apply Kd.R_drewN | apply Kd.R_drew)); exact HO273.out) (Kd.R_base ho0) hb)
    have n1_ := Aside0.mk (Kd.R_lower (Kd.R_newB (Kd.R_newB (Kd.R_new' ho0 (Kd.R_lt (by (with_reducible repeat (first | apply Kd.R_alloc | apply Kd.R_drewN | apply Kd.R_drew)); exact HO273.out))) (g := gb269) (o := .cells #[.int .i64 a0_0, .int .i64 a0_1, .int .i64 a0_2, .int .i64 a0_3] 26 (0, 0)) q164_) (g := gb270) (o := .cells #[.int .i64 a1_0, .int .i64 a1_1, .int .i64 a1_2, .int .i64 a1_3] 26 (0, 0)) q165_) (below_size q98_))
    have n2_ := Aside0.mk (blk_below (g := gb269) (o := .cells #[.int .i64 a0_0, .int .i64 a0_1, .int .i64 a0_2, .int .i64 a0_3] 26 (0, 0)) q164_ hb)
    have n3_ := Aside0.mk (blk_below (g := gb270) (o := .cells #[.int .i64 a1_0, .int .i64 a1_1, .int .i64 a1_2, .int .i64 a1_3] 26 (0, 0)) q165_ hb)
    have n4_ := Aside0.mk (below_step q98_ hb)
    clear HO273
    clear BK269
    clear BK270
    clear HB
    have HO273 := n0_
    have HO276 := n1_
    have BK269 := n2_
    have BK270 := n3_
    have HB := n4_
    clear n0_ n1_ n2_ n3_ n4_
    (try clear hb)
    (try clear hb2)
    (try clear hk)
    (try clear hi)
    (try clear ho0)
    refine hK.out _ _ ⟨(blk_cell BK269.out 0).trans rfl, (blk_cell BK269.out 1).trans rfl, (blk_cell BK269.out 2).trans rfl, (blk_cell BK269.out 3).trans rfl, (blk_cell BK270.out 0).trans rfl, (blk_cell BK270.out 1).trans rfl, (blk_cell BK270.out 2).trans rfl, (blk_cell BK270.out 3).trans rfl⟩ (fun hHeld => ?_)
    clear hK K
    refine norm_ (a' := ?_) ?_ ?_
    rotate_left
    · show Act.put _ (some 25) _ = _
      simp only [Act.put, List.setIfInBounds_toArray, List.set_cons_zero, List.set_cons_succ, i64_w, i32_w]
      rfl
    refine pure_ (i := 6) (N := some 17) (v := ?_) (a' := ?_) #[true, true, true, true, true, true, true, false] rfl rfl (any_of HT_.out (by kernel_rfl)) (fun _ _ _ h => h) (Or.inl ⟨by rfl, ?_⟩) ?_ ?_
    rotate_left
    · intro w'
      go_simp
      with_reducible rfl
    rotate_left
    · simp only [Act.put, List.setIfInBounds_toArray, List.set_cons_zero, List.set_cons_succ, i64_w, i32_w]
      rfl
    refine pure_ (i := 7) (N := some 18) (v := ?_) (a' := ?_) #[true, true, true, true, true, true, true, true] rfl rfl (any_of HT_.out (by kernel_rfl)) (fun _ _ _ h => h) (Or.inl ⟨by rfl, ?_⟩) ?_ ?_
    rotate_left
    · intro w'
      go_simp
      with_reducible rfl
    rotate_left
    · simp only [Act.put, List.setIfInBounds_toArray, List.set_cons_zero, List.set_cons_succ, i64_w, i32_w]
      rfl
    refine done_ (done_of HT_.out (by kernel_rfl)) ?_
    obtain ⟨Ao17, co17, eo17⟩ := Kd.R_slice HO273.out
    subst eo17
    obtain ⟨Ao18, co18, eo18⟩ := Kd.R_slice HO276.out
    subst eo18
    try go_wp2
    go_loopg [19] k (fun kq v19 w' => ∃ (x19_1 : Int), v19 = .int .i64 x19_1 ∧ Aside0 (tilefarmlaw2_agrees.l0 kq a2 a3 a4 a5 a6 a7 t271 t274 x19_1 a0_0 a0_1 a0_2 a0_3 a1_0 a1_1 a1_2 a1_3 = some r) ∧ Aside0 (kq ≤ k) ∧ Aside0 (Kd.R k26 26 w' w.heap.size (fun k_ => some k_ ≠ ((.slice Ao18 t274.length co18) : Value).ownBlock ∧ k_ ≠ gb269 ∧ k_ ≠ gb270) (.slice Ao17 t271.length co17) t271) ∧ Aside0 (Kd.R k26 26 w' w.heap.size (fun k_ => some k_ ≠ ((.slice Ao17 t271.length co17) : Value).ownBlock ∧ k_ ≠ gb269 ∧ k_ ≠ gb270) (.slice Ao18 t274.length co18) t274) ∧ Aside0 (w'.heap[gb269]? = some (.cells #[.int .i64 a0_0, .int .i64 a0_1, .int .i64 a0_2, .int .i64 a0_3] 26 (0, 0))) ∧ Aside0 (w'.heap[gb270]? = some (.cells #[.int .i64 a1_0, .int .i64 a1_1, .int .i64 a1_2, .int .i64 a1_3] 26 (0, 0))) ∧ Aside0 (Below w.heap.size w w'))
    case atStart => exact ⟨(0), q180_, H', ⟨Nat.le_refl _⟩, ⟨by (with_reducible repeat (first | apply Kd.R_alloc | apply Kd.R_drewN | apply Kd.R_drew)); exact Kd.R_mono HO273.out (fun _ hk => ⟨hk.2, ⟨hk.1.1.2, hk.1.2⟩⟩)⟩, ⟨by (with_reducible repeat (first | apply Kd.R_alloc | apply Kd.R_drewN | apply Kd.R_drew)); exact Kd.R_mono HO276.out (fun _ hk => ⟨hk.1.1.2, ⟨hk.1.2, hk.2⟩⟩)⟩, ⟨q164_⟩, ⟨q165_⟩, ⟨q98_⟩⟩
    case round =>
      clear H'
      try clear c1
      try clear c2
      try clear p2
      try clear c11
      try clear c11b0
      try clear c11b1
      try clear c11b2
      obtain ⟨x19_1, rfl, HA, HK1, HO_17, HO_18, BK269, BK270, HB⟩ := hrel
      cases gk with
      | zero => exact absurd HA.out (by simp [tilefarmlaw2_agrees.l0])
      | succ k1 =>
        have H := HA.out
        clear HA
        simp only [tilefarmlaw2_agrees.l0] at H
        by_cases c19 : x19_1 < (t271.length : Int)
        · rw [if_pos c19] at H
          have c19b0 : decide (x19_1 < (t271.length : Int)) = true := decide_eq_true c19
          clear c19
          by_cases c20 : 0 ≤ x19_1
          · rw [if_pos c20] at H
            have c20b0 : decide (0 ≤ x19_1) = true := decide_eq_true c20
            clear c20
            by_cases c21 : x19_1 < (t274.length : Int)
            · rw [if_pos c21] at H
              have c21b0 : decide (x19_1 < (t274.length : Int)) = true := decide_eq_true c21
              clear c21
              by_cases c22 : (!(((rd_T26 t271 x19_1).f0) == ((rd_T26 t274 x19_1).f0)) || (!(((rd_T26 t271 x19_1).f1) == ((rd_T26 t274 x19_1).f1)) || (!(((rd_T26 t271 x19_1).f2) == ((rd_T26 t274 x19_1).f2)) || (!(((rd_T26 t271 x19_1).f3) == ((rd_T26 t274 x19_1).f3)))))) = true
              · rw [if_pos c22] at H
                have c22b0 : (!(((rd_T26 t271 x19_1).f0) == ((rd_T26 t274 x19_1).f0)) || (!(((rd_T26 t271 x19_1).f1) == ((rd_T26 t274 x19_1).f1)) || (!(((rd_T26 t271 x19_1).f2) == ((rd_T26 t274 x19_1).f2)) || (!(((rd_T26 t271 x19_1).f3) == ((rd_T26 t274 x19_1).f3)))))) = true := c22
                clear c22
                exact absurd ((Option.some.inj H).trans HT.out) (by decide)
              · rw [if_neg c22] at H
                have c22b0 : (!(((rd_T26 t271 x19_1).f0) == ((rd_T26 t274 x19_1).f0)) || (!(((rd_T26 t271 x19_1).f1) == ((rd_T26 t274 x19_1).f1)) || (!(((rd_T26 t271 x19_1).f2) == ((rd_T26 t274 x19_1).f2)) || (!(((rd_T26 t271 x19_1).f3) == ((rd_T26 t274 x19_1).f3)))))) = false := by simpa using c22
                clear c22
                have H' := Aside0.mk H
                clear H
                try go_wp2
                have n0_ := Aside0.mk (Kd.R_drew HO_17.out)
                have n1_ := Aside0.mk (Kd.R_drew HO_18.out)
                have n2_ := Aside0.mk (blk_drew BK269.out)
                have n3_ := Aside0.mk (blk_drew BK270.out)
                have n4_ := Aside0.mk (below_drew1 HB.out)
                clear HO_17
                clear HO_18
                clear BK269
                clear BK270
                clear HB
                have HO_17 := n0_
                have HO_18 := n1_
                have BK269 := n2_
                have BK270 := n3_
                have HB := n4_
                clear n0_ n1_ n2_ n3_ n4_
                have p277 : 0 ≤ (x19_1 : Int) := of_decide_eq_true q179_
                have q277 : x19_1 < (t271.length : Int) := of_decide_eq_true q179_
                obtain ⟨ad277, e277, hx277_0, hx277_1, hx277_2, hx277_3⟩ := at_T26 (Kd.R_reads' HO_17.out).2.2 x19_1 p277 q277
                cases e277
                replace p277 := eq_true p277
                replace q277 := eq_true q277
                have p278 : 0 ≤ (x19_1 : Int) := of_decide_eq_true q179_
                have q278 : x19_1 < (t274.length : Int) := of_decide_eq_true q179_
                obtain ⟨ad278, e278, hx278_0, hx278_1, hx278_2, hx278_3⟩ := at_T26 (Kd.R_reads' HO_18.out).2.2 x19_1 p278 q278
                cases e278
                replace p278 := eq_true p278
                replace q278 := eq_true q278
                refine start_ (n := 9) (S := fun w' => w'.cell? (ad277.add ((x19_1).toNat * 4)) = some (.int .i64 ((rd_T26 t271 x19_1).f0)) ∧ w'.cell? ⟨(ad277.add ((x19_1).toNat * 4)).block, (ad277.add ((x19_1).toNat * 4)).off + 1, none⟩ = some (.int .i64 ((rd_T26 t271 x19_1).f1)) ∧ w'.cell? ⟨(ad277.add ((x19_1).toNat * 4)).block, (ad277.add ((x19_1).toNat * 4)).off + 2, none⟩ = some (.int .i64 ((rd_T26 t271 x19_1).f2)) ∧ w'.cell? ⟨(ad277.add ((x19_1).toNat * 4)).block, (ad277.add ((x19_1).toNat * 4)).off + 3, none⟩ = some (.int .i64 ((rd_T26 t271 x19_1).f3)) ∧ w'.cell? (ad278.add ((x19_1).toNat * 4)) = some (.int .i64 ((rd_T26 t274 x19_1).f0)) ∧ w'.cell? ⟨(ad278.add ((x19_1).toNat * 4)).block, (ad278.add ((x19_1).toNat * 4)).off + 1, none⟩ = some (.int .i64 ((rd_T26 t274 x19_1).f1)) ∧ w'.cell? ⟨(ad278.add ((x19_1).toNat * 4)).block, (ad278.add ((x19_1).toNat * 4)).off + 2, none⟩ = some (.int .i64 ((rd_T26 t274 x19_1).f2)) ∧ w'.cell? ⟨(ad278.add ((x19_1).toNat * 4)).block, (ad278.add ((x19_1).toNat * 4)).off + 3, none⟩ = some (.int .i64 ((rd_T26 t274 x19_1).f3))) (ds := []) #[false, false, false, false, false, false, false, false, false] (by kernel_rfl) rfl rfl ⟨hx277_0, hx277_1, hx277_2, hx277_3, hx278_0, hx278_1, hx278_2, hx278_3⟩ (fun hHeld => ?_); refine with_tabW tilefarmlaw2_agrees.tab7 tilefarmlaw2_agrees.bits7 (fun HT_ HW_ => ?_)
                generalize wr.drew = w23 at HO_17 HO_18 BK269 BK270 HB hx277_0 hx277_1 hx277_2 hx277_3 hx278_0 hx278_1 hx278_2 hx278_3 hHeld ⊢
                refine pure_ (i := 0) (N := some 37) (v := ?_) (a' := ?_) #[true, false, false, false, false, false, false, false, false] rfl rfl (any_of HT_.out (by kernel_rfl)) (fun _ _ _ h => h) (Or.inl ⟨by rfl, ?_⟩) ?_ ?_
                rotate_left
                · intro w'
                  go_simp
                  with_reducible rfl
                rotate_left
                · simp only [Act.put, List.setIfInBounds_toArray, List.set_cons_zero, List.set_cons_succ, i64_w, i32_w]
                  rfl
                refine pure_ (i := 1) (N := some 38) (v := ?_) (a' := ?_) #[true, true, false, false, false, false, false, false, false] rfl rfl (any_of HT_.out (by kernel_rfl)) (fun _ _ _ h => h) (Or.inl ⟨by rfl, ?_⟩) ?_ ?_
                rotate_left
                · intro w'
                  go_simp
                  with_reducible rfl
                rotate_left
                · simp only [Act.put, List.setIfInBounds_toArray, List.set_cons_zero, List.set_cons_succ, i64_w, i32_w]
                  rfl
                refine pure_ (i := 2) (N := some 39) (v := ?_) (a' := ?_) #[true, true, true, false, false, false, false, false, false] rfl rfl (any_of HT_.out (by kernel_rfl)) (fun _ _ _ h => h) (Or.inl ⟨by rfl, ?_⟩) ?_ ?_
                rotate_left
                · intro w'
                  go_simp
                  with_reducible rfl
                rotate_left
                · simp only [Act.put, List.setIfInBounds_toArray, List.set_cons_zero, List.set_cons_succ, i64_w, i32_w]
                  rfl
                refine pure_ (i := 4) (N := some 41) (v := ?_) (a' := ?_) #[true, true, true, false, true, false, false, false, false] rfl rfl (any_of HT_.out (by kernel_rfl)) (fun _ _ _ h => h) (Or.inl ⟨by rfl, ?_⟩) ?_ ?_
                rotate_left
                · intro w'
                  go_simp
                  with_reducible rfl
                rotate_left
                · simp only [Act.put, List.setIfInBounds_toArray, List.set_cons_zero, List.set_cons_succ, i64_w, i32_w]
                  rfl
                refine pure_ (i := 5) (N := some 42) (v := ?_) (a' := ?_) #[true, true, true, false, true, true, false, false, false] rfl rfl (any_of HT_.out (by kernel_rfl)) (fun _ _ _ h => h) (Or.inl ⟨by rfl, ?_⟩) ?_ ?_
                rotate_left
                · intro w'
                  go_simp
                  with_reducible rfl
                rotate_left
                · simp only [Act.put, List.setIfInBounds_toArray, List.set_cons_zero, List.set_cons_succ, i64_w, i32_w]
                  rfl
                refine pure_ (i := 6) (N := some 43) (v := ?_) (a' := ?_) #[true, true, true, false, true, true, true, false, false] rfl rfl (any_of HT_.out (by kernel_rfl)) (fun _ _ _ h => h) (Or.inl ⟨by rfl, ?_⟩) ?_ ?_
                rotate_left
                · intro w'
                  go_simp
                  with_reducible rfl
                rotate_left
                · simp only [Act.put, List.setIfInBounds_toArray, List.set_cons_zero, List.set_cons_succ, i64_w, i32_w]
                  rfl
                refine take_ (i := 3) (N := some 40) (v := ?_) (a' := ?_) #[true, true, true, true, true, true, true, false, false] rfl rfl (take_ofW HT_.out HW_.out (by kernel_rfl)) (fun _ _ _ h => h) (Or.inl ⟨by rfl, ?_⟩) hHeld ?_ ?_
                rotate_left
                · rintro w' ⟨s0, s1, s2, s3, s4, s5, s6, s7⟩
                  go_simp
                  with_reducible rfl
                rotate_left
                · simp only [Act.put, List.setIfInBounds_toArray, List.set_cons_zero, List.set_cons_succ, i64_w, i32_w]
                  rfl
                refine take_ (i := 7) (N := some 44) (v := ?_) (a' := ?_) #[true, true, true, true, true, true, true, true, false] rfl rfl (take_ofW HT_.out HW_.out (by kernel_rfl)) (fun _ _ _ h => h) (Or.inl ⟨by rfl, ?_⟩) hHeld ?_ ?_
                rotate_left
                · rintro w' ⟨s0, s1, s2, s3, s4, s5, s6, s7⟩
                  go_simp
                  with_reducible rfl
                rotate_left
                · simp only [Act.put, List.setIfInBounds_toArray, List.set_cons_zero, List.set_cons_succ, i64_w, i32_w]
                  rfl
                refine pure_ (i := 8) (N := some 45) (v := ?_) (a' := ?_) #[true, true, true, true, true, true, true, true, true] rfl rfl (any_of HT_.out (by kernel_rfl)) (fun _ _ _ h => h) (Or.inl ⟨by rfl, ?_⟩) ?_ ?_
                rotate_left
                · intro w'
                  go_simp
                  with_reducible rfl
                rotate_left
                · simp only [Act.put, List.setIfInBounds_toArray, List.set_cons_zero, List.set_cons_succ, i64_w, i32_w]
                  rfl
                refine done_ (done_of HT_.out (by kernel_rfl)) ?_
                try go_wp2
                go_roundg k1
                case measure => have := HK1.out; omega
                case rel => exact ⟨(wrap64 (x19_1 + 1)), q180_, H', ⟨by have := HK1.out; omega⟩, ⟨q172_⟩, ⟨q171_⟩, ⟨q164_⟩, ⟨q165_⟩, ⟨q98_⟩⟩
            · rw [if_neg c21] at H
              exact absurd H (by simp)
          · rw [if_neg c20] at H
            exact absurd H (by simp)
        · rw [if_neg c19] at H
          have c19b0 : decide (x19_1 < (t271.length : Int)) = false := decide_eq_false c19
          clear c19
          replace H := Option.bind_eq_some_iff.mp H
          obtain ⟨t279, A240, H⟩ := H
          replace H : ((tilefarmref2_Valid.f a0_0 a0_1 a0_2 a0_3).bind fun t280 => (if (t279 == t280) = true then ((rect_Empty.f a0_0 a0_1 a0_2 a0_3).bind fun t281 => ((tilefarmref2_Empty.f a0_0 a0_1 a0_2 a0_3).bind fun t282 => (if (t281 == t282) = true then ((rect_Area.f a0_0 a0_1 a0_2 a0_3).bind fun t283 => ((tilefarmref2_Area.f a0_0 a0_1 a0_2 a0_3).bind fun t284 => (if t283 = t284 then ((rect_Contains.f a0_0 a0_1 a0_2 a0_3 a2 a3).bind fun t285 => ((tilefarmref2_Contains.f a0_0 a0_1 a0_2 a0_3 a2 a3).bind fun t286 => (if (t285 == t286) = true then ((rect_Inside.f k1 a0_0 a0_1 a0_2 a0_3 a1_0 a1_1 a1_2 a1_3).bind fun t287 => ((tilefarmref2_Inside.f a0_0 a0_1 a0_2 a0_3 a1_0 a1_1 a1_2 a1_3).bind fun t288 => (if (t287 == t288) = true then ((rect_Intersect.f k1 a0_0 a0_1 a0_2 a0_3 a1_0 a1_1 a1_2 a1_3).bind fun bt289 => ((tilefarmref2_Intersect.f a0_0 a0_1 a0_2 a0_3 a1_0 a1_1 a1_2 a1_3).bind fun bt293 => (if (bt289.1 == bt293.1 && (bt289.2.1 == bt293.2.1 && (bt289.2.2.1 == bt293.2.2.1 && (bt289.2.2.2 == bt293.2.2.2)))) = true then ((rect_Hull.f k1 a0_0 a0_1 a0_2 a0_3 a1_0 a1_1 a1_2 a1_3).bind fun bt297 => ((tilefarmref2_Hull.f k1 a0_0 a0_1 a0_2 a0_3 a1_0 a1_1 a1_2 a1_3).bind fun bt301 => (if (bt297.1 == bt301.1 && (bt297.2.1 == bt301.2.1 && (bt297.2.2.1 == bt301.2.2.1 && (bt297.2.2.2 == bt301.2.2.2)))) = true then ((rect_Outset.f k1 a0_0 a0_1 a0_2 a0_3 a4 a5 a6 a7).bind fun bt305 => ((tilefarmref2_Outset.f k1 a0_0 a0_1 a0_2 a0_3 a4 a5 a6 a7).bind fun bt309 => (some (bt305.1 == bt309.1 && (bt305.2.1 == bt309.2.1 && (bt305.2.2.1 == bt309.2.2.1 && (bt305.2.2.2 == bt309.2.2.2))))))) else (some false)))) else (some false)))) else (some false)))) else (some false)))) else (some false)))) else (some false)))) else (some false))) = some r := H
          have A24 := Aside0.mk A240
          clear A240
          replace H := Option.bind_eq_some_iff.mp H
          obtain ⟨t280, A250, H⟩ := H
          replace H : (if (t279 == t280) = true then ((rect_Empty.f a0_0 a0_1 a0_2 a0_3).bind fun t281 => ((tilefarmref2_Empty.f a0_0 a0_1 a0_2 a0_3).bind fun t282 => (if (t281 == t282) = true then ((rect_Area.f a0_0 a0_1 a0_2 a0_3).bind fun t283 => ((tilefarmref2_Area.f a0_0 a0_1 a0_2 a0_3).bind fun t284 => (if t283 = t284 then ((rect_Contains.f a0_0 a0_1 a0_2 a0_3 a2 a3).bind fun t285 => ((tilefarmref2_Contains.f a0_0 a0_1 a0_2 a0_3 a2 a3).bind fun t286 => (if (t285 == t286) = true then ((rect_Inside.f k1 a0_0 a0_1 a0_2 a0_3 a1_0 a1_1 a1_2 a1_3).bind fun t287 => ((tilefarmref2_Inside.f a0_0 a0_1 a0_2 a0_3 a1_0 a1_1 a1_2 a1_3).bind fun t288 => (if (t287 == t288) = true then ((rect_Intersect.f k1 a0_0 a0_1 a0_2 a0_3 a1_0 a1_1 a1_2 a1_3).bind fun bt289 => ((tilefarmref2_Intersect.f a0_0 a0_1 a0_2 a0_3 a1_0 a1_1 a1_2 a1_3).bind fun bt293 => (if (bt289.1 == bt293.1 && (bt289.2.1 == bt293.2.1 && (bt289.2.2.1 == bt293.2.2.1 && (bt289.2.2.2 == bt293.2.2.2)))) = true then ((rect_Hull.f k1 a0_0 a0_1 a0_2 a0_3 a1_0 a1_1 a1_2 a1_3).bind fun bt297 => ((tilefarmref2_Hull.f k1 a0_0 a0_1 a0_2 a0_3 a1_0 a1_1 a1_2 a1_3).bind fun bt301 => (if (bt297.1 == bt301.1 && (bt297.2.1 == bt301.2.1 && (bt297.2.2.1 == bt301.2.2.1 && (bt297.2.2.2 == bt301.2.2.2)))) = true then ((rect_Outset.f k1 a0_0 a0_1 a0_2 a0_3 a4 a5 a6 a7).bind fun bt305 => ((tilefarmref2_Outset.f k1 a0_0 a0_1 a0_2 a0_3 a4 a5 a6 a7).bind fun bt309 => (some (bt305.1 == bt309.1 && (bt305.2.1 == bt309.2.1 && (bt305.2.2.1 == bt309.2.2.1 && (bt305.2.2.2 == bt309.2.2.2))))))) else (some false)))) else (some false)))) else (some false)))) else (some false)))) else (some false)))) else (some false)))) else (some false)) = some r := H
          have A25 := Aside0.mk A250
          clear A250
          by_cases c26 : (t279 == t280) = true
          · rw [if_pos c26] at H
            have c26b0 : (t279 == t280) = true := c26
            (try (have c26b1 : decide (t279 = t280) = true := by simpa using c26))
            (try (have c26b2 : (t279 == t280) = true := by simpa using c26))
            clear c26
            replace H := Option.bind_eq_some_iff.mp H
            obtain ⟨t281, A270, H⟩ := H
            replace H : ((tilefarmref2_Empty.f a0_0 a0_1 a0_2 a0_3).bind fun t282 => (if (t281 == t282) = true then ((rect_Area.f a0_0 a0_1 a0_2 a0_3).bind fun t283 => ((tilefarmref2_Area.f a0_0 a0_1 a0_2 a0_3).bind fun t284 => (if t283 = t284 then ((rect_Contains.f a0_0 a0_1 a0_2 a0_3 a2 a3).bind fun t285 => ((tilefarmref2_Contains.f a0_0 a0_1 a0_2 a0_3 a2 a3).bind fun t286 => (if (t285 == t286) = true then ((rect_Inside.f k1 a0_0 a0_1 a0_2 a0_3 a1_0 a1_1 a1_2 a1_3).bind fun t287 => ((tilefarmref2_Inside.f a0_0 a0_1 a0_2 a0_3 a1_0 a1_1 a1_2 a1_3).bind fun t288 => (if (t287 == t288) = true then ((rect_Intersect.f k1 a0_0 a0_1 a0_2 a0_3 a1_0 a1_1 a1_2 a1_3).bind fun bt289 => ((tilefarmref2_Intersect.f a0_0 a0_1 a0_2 a0_3 a1_0 a1_1 a1_2 a1_3).bind fun bt293 => (if (bt289.1 == bt293.1 && (bt289.2.1 == bt293.2.1 && (bt289.2.2.1 == bt293.2.2.1 && (bt289.2.2.2 == bt293.2.2.2)))) = true then ((rect_Hull.f k1 a0_0 a0_1 a0_2 a0_3 a1_0 a1_1 a1_2 a1_3).bind fun bt297 => ((tilefarmref2_Hull.f k1 a0_0 a0_1 a0_2 a0_3 a1_0 a1_1 a1_2 a1_3).bind fun bt301 => (if (bt297.1 == bt301.1 && (bt297.2.1 == bt301.2.1 && (bt297.2.2.1 == bt301.2.2.1 && (bt297.2.2.2 == bt301.2.2.2)))) = true then ((rect_Outset.f k1 a0_0 a0_1 a0_2 a0_3 a4 a5 a6 a7).bind fun bt305 => ((tilefarmref2_Outset.f k1 a0_0 a0_1 a0_2 a0_3 a4 a5 a6 a7).bind fun bt309 => (some (bt305.1 == bt309.1 && (bt305.2.1 == bt309.2.1 && (bt305.2.2.1 == bt309.2.2.1 && (bt305.2.2.2 == bt309.2.2.2))))))) else (some false)))) else (some false)))) else (some false)))) else (some false)))) else (some false)))) else (some false))) = some r := H
            have A27 := Aside0.mk A270
            clear A270
            replace H := Option.bind_eq_some_iff.mp H
            obtain ⟨t282, A280, H⟩ := H
            replace H : (if (t281 == t282) = true then ((rect_Area.f a0_0 a0_1 a0_2 a0_3).bind fun t283 => ((tilefarmref2_Area.f a0_0 a0_1 a0_2 a0_3).bind fun t284 => (if t283 = t284 then ((rect_Contains.f a0_0 a0_1 a0_2 a0_3 a2 a3).bind fun t285 => ((tilefarmref2_Contains.f a0_0 a0_1 a0_2 a0_3 a2 a3).bind fun t286 => (if (t285 == t286) = true then ((rect_Inside.f k1 a0_0 a0_1 a0_2 a0_3 a1_0 a1_1 a1_2 a1_3).bind fun t287 => ((tilefarmref2_Inside.f a0_0 a0_1 a0_2 a0_3 a1_0 a1_1 a1_2 a1_3).bind fun t288 => (if (t287 == t288) = true then ((rect_Intersect.f k1 a0_0 a0_1 a0_2 a0_3 a1_0 a1_1 a1_2 a1_3).bind fun bt289 => ((tilefarmref2_Intersect.f a0_0 a0_1 a0_2 a0_3 a1_0 a1_1 a1_2 a1_3).bind fun bt293 => (if (bt289.1 == bt293.1 && (bt289.2.1 == bt293.2.1 && (bt289.2.2.1 == bt293.2.2.1 && (bt289.2.2.2 == bt293.2.2.2)))) = true then ((rect_Hull.f k1 a0_0 a0_1 a0_2 a0_3 a1_0 a1_1 a1_2 a1_3).bind fun bt297 => ((tilefarmref2_Hull.f k1 a0_0 a0_1 a0_2 a0_3 a1_0 a1_1 a1_2 a1_3).bind fun bt301 => (if (bt297.1 == bt301.1 && (bt297.2.1 == bt301.2.1 && (bt297.2.2.1 == bt301.2.2.1 && (bt297.2.2.2 == bt301.2.2.2)))) = true then ((rect_Outset.f k1 a0_0 a0_1 a0_2 a0_3 a4 a5 a6 a7).bind fun bt305 => ((tilefarmref2_Outset.f k1 a0_0 a0_1 a0_2 a0_3 a4 a5 a6 a7).bind fun bt309 => (some (bt305.1 == bt309.1 && (bt305.2.1 == bt309.2.1 && (bt305.2.2.1 == bt309.2.2.1 && (bt305.2.2.2 == bt309.2.2.2))))))) else (some false)))) else (some false)))) else (some false)))) else (some false)))) else (some false)))) else (some false)) = some r := H
            have A28 := Aside0.mk A280
            clear A280
            by_cases c29 : (t281 == t282) = true
            · rw [if_pos c29] at H
              have c29b0 : (t281 == t282) = true := c29
              (try (have c29b1 : decide (t281 = t282) = true := by simpa using c29))
              (try (have c29b2 : (t281 == t282) = true := by simpa using c29))
              clear c29
              replace H := Option.bind_eq_some_iff.mp H
              obtain ⟨t283, A300, H⟩ := H
              replace H : ((tilefarmref2_Area.f a0_0 a0_1 a0_2 a0_3).bind fun t284 => (if t283 = t284 then ((rect_Contains.f a0_0 a0_1 a0_2 a0_3 a2 a3).bind fun t285 => ((tilefarmref2_Contains.f a0_0 a0_1 a0_2 a0_3 a2 a3).bind fun t286 => (if (t285 == t286) = true then ((rect_Inside.f k1 a0_0 a0_1 a0_2 a0_3 a1_0 a1_1 a1_2 a1_3).bind fun t287 => ((tilefarmref2_Inside.f a0_0 a0_1 a0_2 a0_3 a1_0 a1_1 a1_2 a1_3).bind fun t288 => (if (t287 == t288) = true then ((rect_Intersect.f k1 a0_0 a0_1 a0_2 a0_3 a1_0 a1_1 a1_2 a1_3).bind fun bt289 => ((tilefarmref2_Intersect.f a0_0 a0_1 a0_2 a0_3 a1_0 a1_1 a1_2 a1_3).bind fun bt293 => (if (bt289.1 == bt293.1 && (bt289.2.1 == bt293.2.1 && (bt289.2.2.1 == bt293.2.2.1 && (bt289.2.2.2 == bt293.2.2.2)))) = true then ((rect_Hull.f k1 a0_0 a0_1 a0_2 a0_3 a1_0 a1_1 a1_2 a1_3).bind fun bt297 => ((tilefarmref2_Hull.f k1 a0_0 a0_1 a0_2 a0_3 a1_0 a1_1 a1_2 a1_3).bind fun bt301 => (if (bt297.1 == bt301.1 && (bt297.2.1 == bt301.2.1 && (bt297.2.2.1 == bt301.2.2.1 && (bt297.2.2.2 == bt301.2.2.2)))) = true then ((rect_Outset.f k1 a0_0 a0_1 a0_2 a0_3 a4 a5 a6 a7).bind fun bt305 => ((tilefarmref2_Outset.f k1 a0_0 a0_1 a0_2 a0_3 a4 a5 a6 a7).bind fun bt309 => (some (bt305.1 == bt309.1 && (bt305.2.1 == bt309.2.1 && (bt305.2.2.1 == bt309.2.2.1 && (bt305.2.2.2 == bt309.2.2.2))))))) else (some false)))) else (some false)))) else (some false)))) else (some false)))) else (some false))) = some r := H
              have A30 := Aside0.mk A300
              clear A300
              replace H := Option.bind_eq_some_iff.mp H
              obtain ⟨t284, A310, H⟩ := H
              replace H : (if t283 = t284 then ((rect_Contains.f a0_0 a0_1 a0_2 a0_3 a2 a3).bind fun t285 => ((tilefarmref2_Contains.f a0_0 a0_1 a0_2 a0_3 a2 a3).bind fun t286 => (if (t285 == t286) = true then ((rect_Inside.f k1 a0_0 a0_1 a0_2 a0_3 a1_0 a1_1 a1_2 a1_3).bind fun t287 => ((tilefarmref2_Inside.f a0_0 a0_1 a0_2 a0_3 a1_0 a1_1 a1_2 a1_3).bind fun t288 => (if (t287 == t288) = true then ((rect_Intersect.f k1 a0_0 a0_1 a0_2 a0_3 a1_0 a1_1 a1_2 a1_3).bind fun bt289 => ((tilefarmref2_Intersect.f a0_0 a0_1 a0_2 a0_3 a1_0 a1_1 a1_2 a1_3).bind fun bt293 => (if (bt289.1 == bt293.1 && (bt289.2.1 == bt293.2.1 && (bt289.2.2.1 == bt293.2.2.1 && (bt289.2.2.2 == bt293.2.2.2)))) = true then ((rect_Hull.f k1 a0_0 a0_1 a0_2 a0_3 a1_0 a1_1 a1_2 a1_3).bind fun bt297 => ((tilefarmref2_Hull.f k1 a0_0 a0_1 a0_2 a0_3 a1_0 a1_1 a1_2 a1_3).bind fun bt301 => (if (bt297.1 == bt301.1 && (bt297.2.1 == bt301.2.1 && (bt297.2.2.1 == bt301.2.2.1 && (bt297.2.2.2 == bt301.2.2.2)))) = true then ((rect_Outset.f k1 a0_0 a0_1 a0_2 a0_3 a4 a5 a6 a7).bind fun bt305 => ((tilefarmref2_Outset.f k1 a0_0 a0_1 a0_2 a0_3 a4 a5 a6 a7).bind fun bt309 => (some (bt305.1 == bt309.1 && (bt305.2.1 == bt309.2.1 && (bt305.2.2.1 == bt309.2.2.1 && (bt305.2.2.2 == bt309.2.2.2))))))) else (some false)))) else (some false)))) else (some false)))) else (some false)))) else (some false)) = some r := H
              have A31 := Aside0.mk A310
              clear A310
              by_cases c32 : t283 = t284
              · rw [if_pos c32] at H
                have c32b0 : (t283 == t284) = true := beq_iff_eq.mpr c32
                have c32b1 : (t283 != t284) = false := bne_eq_false_iff_eq.mpr c32
                clear c32
                replace H := Option.bind_eq_some_iff.mp H
                obtain ⟨t285, A330, H⟩ := H
                replace H : ((tilefarmref2_Contains.f a0_0 a0_1 a0_2 a0_3 a2 a3).bind fun t286 => (if (t285 == t286) = true then ((rect_Inside.f k1 a0_0 a0_1 a0_2 a0_3 a1_0 a1_1 a1_2 a1_3).bind fun t287 => ((tilefarmref2_Inside.f a0_0 a0_1 a0_2 a0_3 a1_0 a1_1 a1_2 a1_3).bind fun t288 => (if (t287 == t288) = true then ((rect_Intersect.f k1 a0_0 a0_1 a0_2 a0_3 a1_0 a1_1 a1_2 a1_3).bind fun bt289 => ((tilefarmref2_Intersect.f a0_0 a0_1 a0_2 a0_3 a1_0 a1_1 a1_2 a1_3).bind fun bt293 => (if (bt289.1 == bt293.1 && (bt289.2.1 == bt293.2.1 && (bt289.2.2.1 == bt293.2.2.1 && (bt289.2.2.2 == bt293.2.2.2)))) = true then ((rect_Hull.f k1 a0_0 a0_1 a0_2 a0_3 a1_0 a1_1 a1_2 a1_3).bind fun bt297 => ((tilefarmref2_Hull.f k1 a0_0 a0_1 a0_2 a0_3 a1_0 a1_1 a1_2 a1_3).bind fun bt301 => (if (bt297.1 == bt301.1 && (bt297.2.1 == bt301.2.1 && (bt297.2.2.1 == bt301.2.2.1 && (bt297.2.2.2 == bt301.2.2.2)))) = true then ((rect_Outset.f k1 a0_0 a0_1 a0_2 a0_3 a4 a5 a6 a7).bind fun bt305 => ((tilefarmref2_Outset.f k1 a0_0 a0_1 a0_2 a0_3 a4 a5 a6 a7).bind fun bt309 => (some (bt305.1 == bt309.1 && (bt305.2.1 == bt309.2.1 && (bt305.2.2.1 == bt309.2.2.1 && (bt305.2.2.2 == bt309.2.2.2))))))) else (some false)))) else (some false)))) else (some false)))) else (some false))) = some r := H
                have A33 := Aside0.mk A330
                clear A330
                replace H := Option.bind_eq_some_iff.mp H
                obtain ⟨t286, A340, H⟩ := H
                replace H : (if (t285 == t286) = true then ((rect_Inside.f k1 a0_0 a0_1 a0_2 a0_3 a1_0 a1_1 a1_2 a1_3).bind fun t287 => ((tilefarmref2_Inside.f a0_0 a0_1 a0_2 a0_3 a1_0 a1_1 a1_2 a1_3).bind fun t288 => (if (t287 == t288) = true then ((rect_Intersect.f k1 a0_0 a0_1 a0_2 a0_3 a1_0 a1_1 a1_2 a1_3).bind fun bt289 => ((tilefarmref2_Intersect.f a0_0 a0_1 a0_2 a0_3 a1_0 a1_1 a1_2 a1_3).bind fun bt293 => (if (bt289.1 == bt293.1 && (bt289.2.1 == bt293.2.1 && (bt289.2.2.1 == bt293.2.2.1 && (bt289.2.2.2 == bt293.2.2.2)))) = true then ((rect_Hull.f k1 a0_0 a0_1 a0_2 a0_3 a1_0 a1_1 a1_2 a1_3).bind fun bt297 => ((tilefarmref2_Hull.f k1 a0_0 a0_1 a0_2 a0_3 a1_0 a1_1 a1_2 a1_3).bind fun bt301 => (if (bt297.1 == bt301.1 && (bt297.2.1 == bt301.2.1 && (bt297.2.2.1 == bt301.2.2.1 && (bt297.2.2.2 == bt301.2.2.2)))) = true then ((rect_Outset.f k1 a0_0 a0_1 a0_2 a0_3 a4 a5 a6 a7).bind fun bt305 => ((tilefarmref2_Outset.f k1 a0_0 a0_1 a0_2 a0_3 a4 a5 a6 a7).bind fun bt309 => (some (bt305.1 == bt309.1 && (bt305.2.1 == bt309.2.1 && (bt305.2.2.1 == bt309.2.2.1 && (bt305.2.2.2 == bt309.2.2.2))))))) else (some false)))) else (some false)))) else (some false)))) else (some false)) = some r := H
                have A34 := Aside0.mk A340
                clear A340
                by_cases c35 : (t285 == t286) = true
                · rw [if_pos c35] at H
                  have c35b0 : (t285 == t286) = true := c35
                  (try (have c35b1 : decide (t285 = t286) = true := by simpa using c35))
                  (try (have c35b2 : (t285 == t286) = true := by simpa using c35))
                  clear c35
                  replace H := Option.bind_eq_some_iff.mp H
                  obtain ⟨t287, A360, H⟩ := H
                  replace H : ((tilefarmref2_Inside.f a0_0 a0_1 a0_2 a0_3 a1_0 a1_1 a1_2 a1_3).bind fun t288 => (if (t287 == t288) = true then ((rect_Intersect.f k1 a0_0 a0_1 a0_2 a0_3 a1_0 a1_1 a1_2 a1_3).bind fun bt289 => ((tilefarmref2_Intersect.f a0_0 a0_1 a0_2 a0_3 a1_0 a1_1 a1_2 a1_3).bind fun bt293 => (if (bt289.1 == bt293.1 && (bt289.2.1 == bt293.2.1 && (bt289.2.2.1 == bt293.2.2.1 && (bt289.2.2.2 == bt293.2.2.2)))) = true then ((rect_Hull.f k1 a0_0 a0_1 a0_2 a0_3 a1_0 a1_1 a1_2 a1_3).bind fun bt297 => ((tilefarmref2_Hull.f k1 a0_0 a0_1 a0_2 a0_3 a1_0 a1_1 a1_2 a1_3).bind fun bt301 => (if (bt297.1 == bt301.1 && (bt297.2.1 == bt301.2.1 && (bt297.2.2.1 == bt301.2.2.1 && (bt297.2.2.2 == bt301.2.2.2)))) = true then ((rect_Outset.f k1 a0_0 a0_1 a0_2 a0_3 a4 a5 a6 a7).bind fun bt305 => ((tilefarmref2_Outset.f k1 a0_0 a0_1 a0_2 a0_3 a4 a5 a6 a7).bind fun bt309 => (some (bt305.1 == bt309.1 && (bt305.2.1 == bt309.2.1 && (bt305.2.2.1 == bt309.2.2.1 && (bt305.2.2.2 == bt309.2.2.2))))))) else (some false)))) else (some false)))) else (some false))) = some r := H
                  have A36 := Aside0.mk A360
                  clear A360
                  replace H := Option.bind_eq_some_iff.mp H
                  obtain ⟨t288, A370, H⟩ := H
                  replace H : (if (t287 == t288) = true then ((rect_Intersect.f k1 a0_0 a0_1 a0_2 a0_3 a1_0 a1_1 a1_2 a1_3).bind fun bt289 => ((tilefarmref2_Intersect.f a0_0 a0_1 a0_2 a0_3 a1_0 a1_1 a1_2 a1_3).bind fun bt293 => (if (bt289.1 == bt293.1 && (bt289.2.1 == bt293.2.1 && (bt289.2.2.1 == bt293.2.2.1 && (bt289.2.2.2 == bt293.2.2.2)))) = true then ((rect_Hull.f k1 a0_0 a0_1 a0_2 a0_3 a1_0 a1_1 a1_2 a1_3).bind fun bt297 => ((tilefarmref2_Hull.f k1 a0_0 a0_1 a0_2 a0_3 a1_0 a1_1 a1_2 a1_3).bind fun bt301 => (if (bt297.1 == bt301.1 && (bt297.2.1 == bt301.2.1 && (bt297.2.2.1 == bt301.2.2.1 && (bt297.2.2.2 == bt301.2.2.2)))) = true then ((rect_Outset.f k1 a0_0 a0_1 a0_2 a0_3 a4 a5 a6 a7).bind fun bt305 => ((tilefarmref2_Outset.f k1 a0_0 a0_1 a0_2 a0_3 a4 a5 a6 a7).bind fun bt309 => (some (bt305.1 == bt309.1 && (bt305.2.1 == bt309.2.1 && (bt305.2.2.1 == bt309.2.2.1 && (bt305.2.2.2 == bt309.2.2.2))))))) else (some false)))) else (some false)))) else (some false)) = some r := H
                  have A37 := Aside0.mk A370
                  clear A370
                  by_cases c38 : (t287 == t288) = true
                  · rw [if_pos c38] at H
                    have c38b0 : (t287 == t288) = true := c38
                    (try (have c38b1 : decide (t287 = t288) = true := by simpa using c38))
                    (try (have c38b2 : (t287 == t288) = true := by simpa using c38))
                    clear c38
                    replace H := Option.bind_eq_some_iff.mp H
                    obtain ⟨⟨t289, t290, t291, t292⟩, A390, H⟩ := H
                    replace H : ((tilefarmref2_Intersect.f a0_0 a0_1 a0_2 a0_3 a1_0 a1_1 a1_2 a1_3).bind fun bt293 => (if (t289 == bt293.1 && (t290 == bt293.2.1 && (t291 == bt293.2.2.1 && (t292 == bt293.2.2.2)))) = true then ((rect_Hull.f k1 a0_0 a0_1 a0_2 a0_3 a1_0 a1_1 a1_2 a1_3).bind fun bt297 => ((tilefarmref2_Hull.f k1 a0_0 a0_1 a0_2 a0_3 a1_0 a1_1 a1_2 a1_3).bind fun bt301 => (if (bt297.1 == bt301.1 && (bt297.2.1 == bt301.2.1 && (bt297.2.2.1 == bt301.2.2.1 && (bt297.2.2.2 == bt301.2.2.2)))) = true then ((rect_Outset.f k1 a0_0 a0_1 a0_2 a0_3 a4 a5 a6 a7).bind fun bt305 => ((tilefarmref2_Outset.f k1 a0_0 a0_1 a0_2 a0_3 a4 a5 a6 a7).bind fun bt309 => (some (bt305.1 == bt309.1 && (bt305.2.1 == bt309.2.1 && (bt305.2.2.1 == bt309.2.2.1 && (bt305.2.2.2 == bt309.2.2.2))))))) else (some false)))) else (some false))) = some r := H
                    have A39 := Aside0.mk A390
                    clear A390
                    replace H := Option.bind_eq_some_iff.mp H
                    obtain ⟨⟨t293, t294, t295, t296⟩, A400, H⟩ := H
                    replace H : (if (t289 == t293 && (t290 == t294 && (t291 == t295 && (t292 == t296)))) = true then ((rect_Hull.f k1 a0_0 a0_1 a0_2 a0_3 a1_0 a1_1 a1_2 a1_3).bind fun bt297 => ((tilefarmref2_Hull.f k1 a0_0 a0_1 a0_2 a0_3 a1_0 a1_1 a1_2 a1_3).bind fun bt301 => (if (bt297.1 == bt301.1 && (bt297.2.1 == bt301.2.1 && (bt297.2.2.1 == bt301.2.2.1 && (bt297.2.2.2 == bt301.2.2.2)))) = true then ((rect_Outset.f k1 a0_0 a0_1 a0_2 a0_3 a4 a5 a6 a7).bind fun bt305 => ((tilefarmref2_Outset.f k1 a0_0 a0_1 a0_2 a0_3 a4 a5 a6 a7).bind fun bt309 => (some (bt305.1 == bt309.1 && (bt305.2.1 == bt309.2.1 && (bt305.2.2.1 == bt309.2.2.1 && (bt305.2.2.2 == bt309.2.2.2))))))) else (some false)))) else (some false)) = some r := H
                    have A40 := Aside0.mk A400
                    clear A400
                    by_cases c41 : (t289 == t293 && (t290 == t294 && (t291 == t295 && (t292 == t296)))) = true
                    · rw [if_pos c41] at H
                      have c41b0 : (t289 == t293 && (t290 == t294 && (t291 == t295 && (t292 == t296)))) = true := c41
                      (try (have c41b1 : decide (t289 = t293 && (t290 == t294 && (t291 == t295 && (t292 == t296)))) = true := by simpa using c41))
                      (try (have c41b2 : (t289 == t293 && (t290 == t294 && (t291 == t295 && (t292 == t296)))) = true := by simpa using c41))
                      clear c41
                      replace H := Option.bind_eq_some_iff.mp H
                      obtain ⟨⟨t297, t298, t299, t300⟩, A420, H⟩ := H
                      replace H : ((tilefarmref2_Hull.f k1 a0_0 a0_1 a0_2 a0_3 a1_0 a1_1 a1_2 a1_3).bind fun bt301 => (if (t297 == bt301.1 && (t298 == bt301.2.1 && (t299 == bt301.2.2.1 && (t300 == bt301.2.2.2)))) = true then ((rect_Outset.f k1 a0_0 a0_1 a0_2 a0_3 a4 a5 a6 a7).bind fun bt305 => ((tilefarmref2_Outset.f k1 a0_0 a0_1 a0_2 a0_3 a4 a5 a6 a7).bind fun bt309 => (some (bt305.1 == bt309.1 && (bt305.2.1 == bt309.2.1 && (bt305.2.2.1 == bt309.2.2.1 && (bt305.2.2.2 == bt309.2.2.2))))))) else (some false))) = some r := H
                      have A42 := Aside0.mk A420
                      clear A420
                      replace H := Option.bind_eq_some_iff.mp H
                      obtain ⟨⟨t301, t302, t303, t304⟩, A430, H⟩ := H
                      replace H : (if (t297 == t301 && (t298 == t302 && (t299 == t303 && (t300 == t304)))) = true then ((rect_Outset.f k1 a0_0 a0_1 a0_2 a0_3 a4 a5 a6 a7).bind fun bt305 => ((tilefarmref2_Outset.f k1 a0_0 a0_1 a0_2 a0_3 a4 a5 a6 a7).bind fun bt309 => (some (bt305.1 == bt309.1 && (bt305.2.1 == bt309.2.1 && (bt305.2.2.1 == bt309.2.2.1 && (bt305.2.2.2 == bt309.2.2.2))))))) else (some false)) = some r := H
                      have A43 := Aside0.mk A430
                      clear A430
                      by_cases c44 : (t297 == t301 && (t298 == t302 && (t299 == t303 && (t300 == t304)))) = true
                      · rw [if_pos c44] at H
                        have c44b0 : (t297 == t301 && (t298 == t302 && (t299 == t303 && (t300 == t304)))) = true := c44
                        (try (have c44b1 : decide (t297 = t301 && (t298 == t302 && (t299 == t303 && (t300 == t304)))) = true := by simpa using c44))
                        (try (have c44b2 : (t297 == t301 && (t298 == t302 && (t299 == t303 && (t300 == t304)))) = true := by simpa using c44))
                        clear c44
                        replace H := Option.bind_eq_some_iff.mp H
                        obtain ⟨⟨t305, t306, t307, t308⟩, A450, H⟩ := H
                        replace H : ((tilefarmref2_Outset.f k1 a0_0 a0_1 a0_2 a0_3 a4 a5 a6 a7).bind fun bt309 => (some (t305 == bt309.1 && (t306 == bt309.2.1 && (t307 == bt309.2.2.1 && (t308 == bt309.2.2.2)))))) = some r := H
                        have A45 := Aside0.mk A450
                        clear A450
                        replace H := Option.bind_eq_some_iff.mp H
                        obtain ⟨⟨t309, t310, t311, t312⟩, A460, H⟩ := H
                        replace H : (some (t305 == t309 && (t306 == t310 && (t307 == t311 && (t308 == t312))))) = some r := H
                        have A46 := Aside0.mk A460
                        clear A460
                        obtain rfl := Option.some.inj H
                        try go_wp2
                        have n0_ := Aside0.mk (Kd.R_drew HO_17.out)
                        have n1_ := Aside0.mk (Kd.R_drew HO_18.out)
                        have n2_ := Aside0.mk (blk_drew BK269.out)
                        have n3_ := Aside0.mk (blk_drew BK270.out)
                        have n4_ := Aside0.mk (below_drew1 HB.out)
                        clear HO_17
                        clear HO_18
                        clear BK269
                        clear BK270
                        clear HB
                        have HO_17 := n0_
                        have HO_18 := n1_
                        have BK269 := n2_
                        have BK270 := n3_
                        have HB := n4_
                        clear n0_ n1_ n2_ n3_ n4_
                        refine start_ (n := 73) (S := fun w' => w'.cell? ⟨gb269, 0, none⟩ = some (.int .i64 a0_0) ∧ w'.cell? ⟨gb269, 1, none⟩ = some (.int .i64 a0_1) ∧ w'.cell? ⟨gb269, 2, none⟩ = some (.int .i64 a0_2) ∧ w'.cell? ⟨gb269, 3, none⟩ = some (.int .i64 a0_3) ∧ w'.cell? ⟨gb270, 0, none⟩ = some (.int .i64 a1_0) ∧ w'.cell? ⟨gb270, 1, none⟩ = some (.int .i64 a1_1) ∧ w'.cell? ⟨gb270, 2, none⟩ = some (.int .i64 a1_2) ∧ w'.cell? ⟨gb270, 3, none⟩ = some (.int .i64 a1_3)) (ds := []) #[false, false, false, false, false, false, false, false, false, false, false, false, false, false, false, false, false, false, false, false, false, false, false, false, false, false, false, false, false, false, false, false, false, false, false, false, false, false, false, false, false, false, false, false, false, false, false, false, false, false, false, false, false, false, false, false, false, false, false, false, false, false, false, false, false, false, false, false, false, false, false, false, false] (by kernel_rfl) rfl rfl ⟨(blk_cell BK269.out 0).trans rfl, (blk_cell BK269.out 1).trans rfl, (blk_cell BK269.out 2).trans rfl, (blk_cell BK269.out 3).trans rfl, (blk_cell BK270.out 0).trans rfl, (blk_cell BK270.out 1).trans rfl, (blk_cell BK270.out 2).trans rfl, (blk_cell BK270.out 3).trans rfl⟩ (fun hHeld => ?_); refine with_tabW tilefarmlaw2_agrees.tab9 tilefarmlaw2_agrees.bits9 (fun HT_ HW_ => ?_)
                        generalize wr.drew = w47 at HO_17 HO_18 BK269 BK270 HB hHeld ⊢
                        refine take_ (i := 0) (N := some 46) (v := ?_) (a' := ?_) #[true, false, false, false, false, false, false, false, false, false, false, false, false, false, false, false, false, false, false, false, false, false, false, false, false, false, false, false, false, false, false, false, false, false, false, false, false, false, false, false, false, false, false, false, false, false, false, false, false, false, false, false, false, false, false, false, false, false, false, false, false, false, false, false, false, false, false, false, false, false, false, false, false] rfl rfl (take_ofW HT_.out HW_.out (by kernel_rfl)) (fun _ _ _ h => h) (Or.inl ⟨by rfl, ?_⟩) hHeld ?_ ?_
                        rotate_left
                        · rintro w' ⟨s0, s1, s2, s3, s4, s5, s6, s7⟩
                          go_simp
                          with_reducible rfl
                        rotate_left
                        · simp only [Act.put, List.setIfInBounds_toArray, List.set_cons_zero, List.set_cons_succ, i64_w, i32_w]
                          rfl
                        refine take_ (i := 2) (N := some 48) (v := ?_) (a' := ?_) #[true, false, true, false, false, false, false, false, false, false, false, false, false, false, false, false, false, false, false, false, false, false, false, false, false, false, false, false, false, false, false, false, false, false, false, false, false, false, false, false, false, false, false, false, false, false, false, false, false, false, false, false, false, false, false, false, false, false, false, false, false, false, false, false, false, false, false, false, false, false, false, false, false] rfl rfl (take_ofW HT_.out HW_.out (by kernel_rfl)) (fun _ _ _ h => h) (Or.inl ⟨by rfl, ?_⟩) hHeld ?_ ?_
                        rotate_left
                        · rintro w' ⟨s0, s1, s2, s3, s4, s5, s6, s7⟩
                          go_simp
                          with_reducible rfl
                        rotate_left
                        · simp only [Act.put, List.setIfInBounds_toArray, List.set_cons_zero, List.set_cons_succ, i64_w, i32_w]
                          rfl
                        refine one_ (i := 1) (N := some 47) #[true, true, true, false, false, false, false, false, false, false, false, false, false, false, false, false, false, false, false, false, false, false, false, false, false, false, false, false, false, false, false, false, false, false, false, false, false, false, false, false, false, false, false, false, false, false, false, false, false, false, false, false, false, false, false, false, false, false, false, false, false, false, false, false, false, false, false, false, false, false, false, false, false] rfl rfl (one_of HT_.out (by kernel_rfl)) (by decide) (fun K hK => ?_)
                        refine goes_ Try.func24 (by kernel_rfl) rfl #[.agg #[.int .i64 a0_0, .int .i64 a0_1, .int .i64 a0_2, .int .i64 a0_3]] (by rfl) rfl rfl q128_ ?_
                        with_reducible refine (rect_Valid.calls a0_0 a0_1 a0_2 a0_3 t279 _ A24.out).mono ?_
                        rintro e w48 ⟨rfl, hb⟩
                        refine ⟨_, rfl, ?_⟩
                        have n0_ := Aside0.mk (Kd.R_below q172_ hb)
                        have n1_ := Aside0.mk (Kd.R_below q171_ hb)
                        have n2_ := Aside0.mk (blk_below (g := gb269) (o := .cells #[.int .i64 a0_0, .int .i64 a0_1, .int .i64 a0_2, .int .i64 a0_3] 26 (0, 0)) q164_ hb)
                        have n3_ := Aside0.mk (blk_below (g := gb270) (o := .cells #[.int .i64 a1_0, .int .i64 a1_1, .int .i64 a1_2, .int .i64 a1_3] 26 (0, 0)) q165_ hb)
                        have n4_ := Aside0.mk (below_step q98_ hb)
                        clear HO_17
                        clear HO_18
                        clear BK269
                        clear BK270
                        clear HB
                        have HO_17 := n0_
                        have HO_18 := n1_
                        have BK269 := n2_
                        have BK270 := n3_
                        have HB := n4_
                        clear n0_ n1_ n2_ n3_ n4_
                        (try clear hb)
                        (try clear hb2)
                        (try clear hk)
                        (try clear hi)
                        refine hK.out _ _ ⟨(blk_cell BK269.out 0).trans rfl, (blk_cell BK269.out 1).trans rfl, (blk_cell BK269.out 2).trans rfl, (blk_cell BK269.out 3).trans rfl, (blk_cell BK270.out 0).trans rfl, (blk_cell BK270.out 1).trans rfl, (blk_cell BK270.out 2).trans rfl, (blk_cell BK270.out 3).trans rfl⟩ (fun hHeld => ?_)
                        clear hK K
                        refine norm_ (a' := ?_) ?_ ?_
                        rotate_left
                        · show Act.put _ (some 47) _ = _
                          simp only [Act.put, List.setIfInBounds_toArray, List.set_cons_zero, List.set_cons_succ, i64_w, i32_w]
                          rfl
                        refine one_ (i := 3) (N := some 49) #[true, true, true, true, false, false, false, false, false, false, false, false, false, false, false, false, false, false, false, false, false, false, false, false, false, false, false, false, false, false, false, false, false, false, false, false, false, false, false, false, false, false, false, false, false, false, false, false, false, false, false, false, false, false, false, false, false, false, false, false, false, false, false, false, false, false, false, false, false, false, false, false, false] rfl rfl (one_of HT_.out (by kernel_rfl)) (by decide) (fun K hK => ?_)
                        refine goes_ Try.func9 (by kernel_rfl) rfl #[.agg #[.int .i64 a0_0, .int .i64 a0_1, .int .i64 a0_2, .int .i64 a0_3]] (by rfl) rfl rfl q128_ ?_
                        with_reducible refine (tilefarmref2_Valid.calls a0_0 a0_1 a0_2 a0_3 t280 _ A25.out).mono ?_
                        rintro e w49 ⟨rfl, hb⟩
                        refine ⟨_, rfl, ?_⟩
                        have n0_ := Aside0.mk (Kd.R_below q172_ hb)
                        have n1_ := Aside0.mk (Kd.R_below q171_ hb)
                        have n2_ := Aside0.mk (blk_below (g := gb269) (o := .cells #[.int .i64 a0_0, .int .i64 a0_1, .int .i64 a0_2, .int .i64 a0_3] 26 (0, 0)) q164_ hb)
                        have n3_ := Aside0.mk (blk_below (g := gb270) (o := .cells #[.int .i64 a1_0, .int .i64 a1_1, .int .i64 a1_2, .int .i64 a1_3] 26 (0, 0)) q165_ hb)
                        have n4_ := Aside0.mk (below_step q98_ hb)
                        clear HO_17
                        clear HO_18
                        clear BK269
                        clear BK270
                        clear HB
                        have HO_17 := n0_
                        have HO_18 := n1_
                        have BK269 := n2_
                        have BK270 := n3_
                        have HB := n4_
                        clear n0_ n1_ n2_ n3_ n4_
                        (try clear hb)
                        (try clear hb2)
                        (try clear hk)
                        (try clear hi)
                        refine hK.out _ _ ⟨(blk_cell BK269.out 0).trans rfl, (blk_cell BK269.out 1).trans rfl, (blk_cell BK269.out 2).trans rfl, (blk_cell BK269.out 3).trans rfl, (blk_cell BK270.out 0).trans rfl, (blk_cell BK270.out 1).trans rfl, (blk_cell BK270.out 2).trans rfl, (blk_cell BK270.out 3).trans rfl⟩ (fun hHeld => ?_)
                        clear hK K
                        refine norm_ (a' := ?_) ?_ ?_
                        rotate_left
                        · show Act.put _ (some 49) _ = _
                          simp only [Act.put, List.setIfInBounds_toArray, List.set_cons_zero, List.set_cons_succ, i64_w, i32_w]
                          rfl
                        refine pure_ (i := 4) (N := some 50) (v := ?_) (a' := ?_) #[true, true, true, true, true, false, false, false, false, false, false, false, false, false, false, false, false, false, false, false, false, false, false, false, false, false, false, false, false, false, false, false, false, false, false, false, false, false, false, false, false, false, false, false, false, false, false, false, false, false, false, false, false, false, false, false, false, false, false, false, false, false, false, false, false, false, false, false, false, false, false, false, false] rfl rfl (any_of HT_.out (by kernel_rfl)) (fun _ _ _ h => h) (Or.inl ⟨by rfl, ?_⟩) ?_ ?_
                        rotate_left
                        · intro w'
                          go_simp
                          with_reducible rfl
                        rotate_left
                        · simp only [Act.put, List.setIfInBounds_toArray, List.set_cons_zero, List.set_cons_succ, i64_w, i32_w]
                          rfl
                        refine pure_ (i := 5) (N := some 51) (v := ?_) (a' := ?_) #[true, true, true, true, true, true, false, false, false, false, false, false, false, false, false, false, false, false, false, false, false, false, false, false, false, false, false, false, false, false, false, false, false, false, false, false, false, false, false, false, false, false, false, false, false, false, false, false, false, false, false, false, false, false, false, false, false, false, false, false, false, false, false, false, false, false, false, false, false, false, false, false, false] rfl rfl (any_of HT_.out (by kernel_rfl)) (fun _ _ _ h => h) (Or.inl ⟨by rfl, ?_⟩) ?_ ?_
                        rotate_left
                        · intro w'
                          go_simp
                          with_reducible rfl
                        rotate_left
                        · simp only [Act.put, List.setIfInBounds_toArray, List.set_cons_zero, List.set_cons_succ, i64_w, i32_w]
                          rfl
                        refine take_ (i := 6) (N := some 52) (v := ?_) (a' := ?_) #[true, true, true, true, true, true, true, false, false, false, false, false, false, false, false, false, false, false, false, false, false, false, false, false, false, false, false, false, false, false, false, false, false, false, false, false, false, false, false, false, false, false, false, false, false, false, false, false, false, false, false, false, false, false, false, false, false, false, false, false, false, false, false, false, false, false, false, false, false, false, false, false, false] rfl rfl (take_ofW HT_.out HW_.out (by kernel_rfl)) (fun _ _ _ h => h) (Or.inl ⟨by rfl, ?_⟩) hHeld ?_ ?_
                        rotate_left
                        · rintro w' ⟨s0, s1, s2, s3, s4, s5, s6, s7⟩
                          go_simp
                          with_reducible rfl
                        rotate_left
                        · simp only [Act.put, List.setIfInBounds_toArray, List.set_cons_zero, List.set_cons_succ, i64_w, i32_w]
                          rfl
                        refine take_ (i := 8) (N := some 54) (v := ?_) (a' := ?_) #[true, true, true, true, true, true, true, false, true, false, false, false, false, false, false, false, false, false, false, false, false, false, false, false, false, false, false, false, false, false, false, false, false, false, false, false, false, false, false, false, false, false, false, false, false, false, false, false, false, false, false, false, false, false, false, false, false, false, false, false, false, false, false, false, false, false, false, false, false, false, false, false, false] rfl rfl (take_ofW HT_.out HW_.out (by kernel_rfl)) (fun _ _ _ h => h) (Or.inl ⟨by rfl, ?_⟩) hHeld ?_ ?_
                        rotate_left
                        · rintro w' ⟨s0, s1, s2, s3, s4, s5, s6, s7⟩
                          go_simp
                          with_reducible rfl
                        rotate_left
                        · simp only [Act.put, List.setIfInBounds_toArray, List.set_cons_zero, List.set_cons_succ, i64_w, i32_w]
                          rfl
                        refine one_ (i := 7) (N := some 53) #[true, true, true, true, true, true, true, true, true, false, false, false, false, false, false, false, false, false, false, false, false, false, false, false, false, false, false, false, false, false, false, false, false, false, false, false, false, false, false, false, false, false, false, false, false, false, false, false, false, false, false, false, false, false, false, false, false, false, false, false, false, false, false, false, false, false, false, false, false, false, false, false, false] rfl rfl (one_of HT_.out (by kernel_rfl)) (by decide) (fun K hK => ?_)
                        refine goes_ Try.func25 (by kernel_rfl) rfl #[.agg #[.int .i64 a0_0, .int .i64 a0_1, .int .i64 a0_2, .int .i64 a0_3]] (by rfl) rfl rfl q128_ ?_
                        with_reducible refine (rect_Empty.calls a0_0 a0_1 a0_2 a0_3 t281 _ A27.out).mono ?_
                        rintro e w50 ⟨rfl, hb⟩
                        refine ⟨_, rfl, ?_⟩
                        have n0_ := Aside0.mk (Kd.R_below q172_ hb)
                        have n1_ := Aside0.mk (Kd.R_below q171_ hb)
                        have n2_ := Aside0.mk (blk_below (g := gb269) (o := .cells #[.int .i64 a0_0, .int .i64 a0_1, .int .i64 a0_2, .int .i64 a0_3] 26 (0, 0)) q164_ hb)
                        have n3_ := Aside0.mk (blk_below (g := gb270) (o := .cells #[.int .i64 a1_0, .int .i64 a1_1, .int .i64 a1_2, .int .i64 a1_3] 26 (0, 0)) q165_ hb)
                        have n4_ := Aside0.mk (below_step q98_ hb)
                        clear HO_17
                        clear HO_18
                        clear BK269
                        clear BK270
                        clear HB
                        have HO_17 := n0_
                        have HO_18 := n1_
                        have BK269 := n2_
                        have BK270 := n3_
                        have HB := n4_
                        clear n0_ n1_ n2_ n3_ n4_
                        (try clear hb)
                        (try clear hb2)
                        (try clear hk)
                        (try clear hi)
                        refine hK.out _ _ ⟨(blk_cell BK269.out 0).trans rfl, (blk_cell BK269.out 1).trans rfl, (blk_cell BK269.out 2).trans rfl, (blk_cell BK269.out 3).trans rfl, (blk_cell BK270.out 0).trans rfl, (blk_cell BK270.out 1).trans rfl, (blk_cell BK270.out 2).trans rfl, (blk_cell BK270.out 3).trans rfl⟩ (fun hHeld => ?_)
                        clear hK K
                        refine norm_ (a' := ?_) ?_ ?_
                        rotate_left
                        · show Act.put _ (some 53) _ = _
                          simp only [Act.put, List.setIfInBounds_toArray, List.set_cons_zero, List.set_cons_succ, i64_w, i32_w]
                          rfl
                        refine one_ (i := 9) (N := some 55) #[true, true, true, true, true, true, true, true, true, true, false, false, false, false, false, false, false, false, false, false, false, false, false, false, false, false, false, false, false, false, false, false, false, false, false, false, false, false, false, false, false, false, false, false, false, false, false, false, false, false, false, false, false, false, false, false, false, false, false, false, false, false, false, false, false, false, false, false, false, false, false, false, false] rfl rfl (one_of HT_.out (by kernel_rfl)) (by decide) (fun K hK => ?_)
                        refine goes_ Try.func27 (by kernel_rfl) rfl #[.agg #[.int .i64 a0_0, .int .i64 a0_1, .int .i64 a0_2, .int .i64 a0_3]] (by rfl) rfl rfl q128_ ?_
                        with_reducible refine (tilefarmref2_Empty.calls a0_0 a0_1 a0_2 a0_3 t282 _ A28.out).mono ?_
                        rintro e w51 ⟨rfl, hb⟩
                        refine ⟨_, rfl, ?_⟩
                        have n0_ := Aside0.mk (Kd.R_below q172_ hb)
                        have n1_ := Aside0.mk (Kd.R_below q171_ hb)
                        have n2_ := Aside0.mk (blk_below (g := gb269) (o := .cells #[.int .i64 a0_0, .int .i64 a0_1, .int .i64 a0_2, .int .i64 a0_3] 26 (0, 0)) q164_ hb)
                        have n3_ := Aside0.mk (blk_below (g := gb270) (o := .cells #[.int .i64 a1_0, .int .i64 a1_1, .int .i64 a1_2, .int .i64 a1_3] 26 (0, 0)) q165_ hb)
                        have n4_ := Aside0.mk (below_step q98_ hb)
                        clear HO_17
                        clear HO_18
                        clear BK269
                        clear BK270
                        clear HB
                        have HO_17 := n0_
                        have HO_18 := n1_
                        have BK269 := n2_
                        have BK270 := n3_
                        have HB := n4_
                        clear n0_ n1_ n2_ n3_ n4_
                        (try clear hb)
                        (try clear hb2)
                        (try clear hk)
                        (try clear hi)
                        refine hK.out _ _ ⟨(blk_cell BK269.out 0).trans rfl, (blk_cell BK269.out 1).trans rfl, (blk_cell BK269.out 2).trans rfl, (blk_cell BK269.out 3).trans rfl, (blk_cell BK270.out 0).trans rfl, (blk_cell BK270.out 1).trans rfl, (blk_cell BK270.out 2).trans rfl, (blk_cell BK270.out 3).trans rfl⟩ (fun hHeld => ?_)
                        clear hK K
                        refine norm_ (a' := ?_) ?_ ?_
                        rotate_left
                        · show Act.put _ (some 55) _ = _
                          simp only [Act.put, List.setIfInBounds_toArray, List.set_cons_zero, List.set_cons_succ, i64_w, i32_w]
                          rfl
                        refine pure_ (i := 10) (N := some 56) (v := ?_) (a' := ?_) #[true, true, true, true, true, true, true, true, true, true, true, false, false, false, false, false, false, false, false, false, false, false, false, false, false, false, false, false, false, false, false, false, false, false, false, false, false, false, false, false, false, false, false, false, false, false, false, false, false, false, false, false, false, false, false, false, false, false, false, false, false, false, false, false, false, false, false, false, false, false, false, false, false] rfl rfl (any_of HT_.out (by kernel_rfl)) (fun _ _ _ h => h) (Or.inl ⟨by rfl, ?_⟩) ?_ ?_
                        rotate_left
                        · intro w'
                          go_simp
                          with_reducible rfl
                        rotate_left
                        · simp only [Act.put, List.setIfInBounds_toArray, List.set_cons_zero, List.set_cons_succ, i64_w, i32_w]
                          rfl
                        refine pure_ (i := 11) (N := some 57) (v := ?_) (a' := ?_) #[true, true, true, true, true, true, true, true, true, true, true, true, false, false, false, false, false, false, false, false, false, false, false, false, false, false, false, false, false, false, false, false, false, false, false, false, false, false, false, false, false, false, false, false, false, false, false, false, false, false, false, false, false, false, false, false, false, false, false, false, false, false, false, false, false, false, false, false, false, false, false, false, false] rfl rfl (any_of HT_.out (by kernel_rfl)) (fun _ _ _ h => h) (Or.inl ⟨by rfl, ?_⟩) ?_ ?_
                        rotate_left
                        · intro w'
                          go_simp
                          with_reducible rfl
                        rotate_left
                        · simp only [Act.put, List.setIfInBounds_toArray, List.set_cons_zero, List.set_cons_succ, i64_w, i32_w]
                          rfl
                        refine pure_ (i := 12) (N := some 58) (v := ?_) (a' := ?_) #[true, true, true, true, true, true, true, true, true, true, true, true, true, false, false, false, false, false, false, false, false, false, false, false, false, false, false, false, false, false, false, false, false, false, false, false, false, false, false, false, false, false, false, false, false, false, false, false, false, false, false, false, false, false, false, false, false, false, false, false, false, false, false, false, false, false, false, false, false, false, false, false, false] rfl rfl (any_of HT_.out (by kernel_rfl)) (fun _ _ _ h => h) (Or.inl ⟨by rfl, ?_⟩) ?_ ?_
                        rotate_left
                        · intro w'
                          go_simp
                          with_reducible rfl
                        rotate_left
                        · simp only [Act.put, List.setIfInBounds_toArray, List.set_cons_zero, List.set_cons_succ, i64_w, i32_w]
                          rfl
                        refine take_ (i := 13) (N := some 59) (v := ?_) (a' := ?_) #[true, true, true, true, true, true, true, true, true, true, true, true, true, true, false, false, false, false, false, false, false, false, false, false, false, false, false, false, false, false, false, false, false, false, false, false, false, false, false, false, false, false, false, false, false, false, false, false, false, false, false, false, false, false, false, false, false, false, false, false, false, false, false, false, false, false, false, false, false, false, false, false, false] rfl rfl (take_ofW HT_.out HW_.out (by kernel_rfl)) (fun _ _ _ h => h) (Or.inl ⟨by rfl, ?_⟩) hHeld ?_ ?_
                        rotate_left
                        · rintro w' ⟨s0, s1, s2, s3, s4, s5, s6, s7⟩
                          go_simp
                          with_reducible rfl
                        rotate_left
                        · simp only [Act.put, List.setIfInBounds_toArray, List.set_cons_zero, List.set_cons_succ, i64_w, i32_w]
                          rfl
                        refine take_ (i := 15) (N := some 61) (v := ?_) (a' := ?_) #[true, true, true, true, true, true, true, true, true, true, true, true, true, true, false, true, false, false, false, false, false, false, false, false, false, false, false, false, false, false, false, false, false, false, false, false, false, false, false, false, false, false, false, false, false, false, false, false, false, false, false, false, false, false, false, false, false, false, false, false, false, false, false, false, false, false, false, false, false, false, false, false, false] rfl rfl (take_ofW HT_.out HW_.out (by kernel_rfl)) (fun _ _ _ h => h) (Or.inl ⟨by rfl, ?_⟩) hHeld ?_ ?_
                        rotate_left
                        · rintro w' ⟨s0, s1, s2, s3, s4, s5, s6, s7⟩
                          go_simp
                          with_reducible rfl
                        rotate_left
                        · simp only [Act.put, List.setIfInBounds_toArray, List.set_cons_zero, List.set_cons_succ, i64_w, i32_w]
                          rfl
                        refine one_ (i := 14) (N := some 60) #[true, true, true, true, true, true, true, true, true, true, true, true, true, true, true, true, false, false, false, false, false, false, false, false, false, false, false, false, false, false, false, false, false, false, false, false, false, false, false, false, false, false, false, false, false, false, false, false, false, false, false, false, false, false, false, false, false, false, false, false, false, false, false, false, false, false, false, false, false, false, false, false, false] rfl rfl (one_of HT_.out (by kernel_rfl)) (by decide) (fun K hK => ?_)
                        refine goes_ Try.func12 (by kernel_rfl) rfl #[.agg #[.int .i64 a0_0, .int .i64 a0_1, .int .i64 a0_2, .int .i64 a0_3]] (by rfl) rfl rfl q128_ ?_
                        with_reducible refine (rect_Area.calls a0_0 a0_1 a0_2 a0_3 t283 _ A30.out).mono ?_
                        rintro e w52 ⟨rfl, hb⟩
                        refine ⟨_, rfl, ?_⟩
                        have n0_ := Aside0.mk (Kd.R_below q172_ hb)
                        have n1_ := Aside0.mk (Kd.R_below q171_ hb)
                        have n2_ := Aside0.mk (blk_below (g := gb269) (o := .cells #[.int .i64 a0_0, .int .i64 a0_1, .int .i64 a0_2, .int .i64 a0_3] 26 (0, 0)) q164_ hb)
                        have n3_ := Aside0.mk (blk_below (g := gb270) (o := .cells #[.int .i64 a1_0, .int .i64 a1_1, .int .i64 a1_2, .int .i64 a1_3] 26 (0, 0)) q165_ hb)
                        have n4_ := Aside0.mk (below_step q98_ hb)
                        clear HO_17
                        clear HO_18
                        clear BK269
                        clear BK270
                        clear HB
                        have HO_17 := n0_
                        have HO_18 := n1_
                        have BK269 := n2_
                        have BK270 := n3_
                        have HB := n4_
                        clear n0_ n1_ n2_ n3_ n4_
                        (try clear hb)
                        (try clear hb2)
                        (try clear hk)
                        (try clear hi)
                        refine hK.out _ _ ⟨(blk_cell BK269.out 0).trans rfl, (blk_cell BK269.out 1).trans rfl, (blk_cell BK269.out 2).trans rfl, (blk_cell BK269.out 3).trans rfl, (blk_cell BK270.out 0).trans rfl, (blk_cell BK270.out 1).trans rfl, (blk_cell BK270.out 2).trans rfl, (blk_cell BK270.out 3).trans rfl⟩ (fun hHeld => ?_)
                        clear hK K
                        refine norm_ (a' := ?_) ?_ ?_
                        rotate_left
                        · show Act.put _ (some 60) _ = _
                          simp only [Act.put, List.setIfInBounds_toArray, List.set_cons_zero, List.set_cons_succ, i64_w, i32_w]
                          rfl
                        refine one_ (i := 16) (N := some 62) #[true, true, true, true, true, true, true, true, true, true, true, true, true, true, true, true, true, false, false, false, false, false, false, false, false, false, false, false, false, false, false, false, false, false, false, false, false, false, false, false, false, false, false, false, false, false, false, false, false, false, false, false, false, false, false, false, false, false, false, false, false, false, false, false, false, false, false, false, false, false, false, false, false] rfl rfl (one_of HT_.out (by kernel_rfl)) (by decide) (fun K hK => ?_)
                        refine goes_ Try.func28 (by kernel_rfl) rfl #[.agg #[.int .i64 a0_0, .int .i64 a0_1, .int .i64 a0_2, .int .i64 a0_3]] (by rfl) rfl rfl q128_ ?_
                        with_reducible refine (tilefarmref2_Area.calls a0_0 a0_1 a0_2 a0_3 t284 _ A31.out).mono ?_
                        rintro e w53 ⟨rfl, hb⟩
                        refine ⟨_, rfl, ?_⟩
                        have n0_ := Aside0.mk (Kd.R_below q172_ hb)
                        have n1_ := Aside0.mk (Kd.R_below q171_ hb)
                        have n2_ := Aside0.mk (blk_below (g := gb269) (o := .cells #[.int .i64 a0_0, .int .i64 a0_1, .int .i64 a0_2, .int .i64 a0_3] 26 (0, 0)) q164_ hb)
                        have n3_ := Aside0.mk (blk_below (g := gb270) (o := .cells #[.int .i64 a1_0, .int .i64 a1_1, .int .i64 a1_2, .int .i64 a1_3] 26 (0, 0)) q165_ hb)
                        have n4_ := Aside0.mk (below_step q98_ hb)
                        clear HO_17
                        clear HO_18
                        clear BK269
                        clear BK270
                        clear HB
                        have HO_17 := n0_
                        have HO_18 := n1_
                        have BK269 := n2_
                        have BK270 := n3_
                        have HB := n4_
                        clear n0_ n1_ n2_ n3_ n4_
                        (try clear hb)
                        (try clear hb2)
                        (try clear hk)
                        (try clear hi)
                        refine hK.out _ _ ⟨(blk_cell BK269.out 0).trans rfl, (blk_cell BK269.out 1).trans rfl, (blk_cell BK269.out 2).trans rfl, (blk_cell BK269.out 3).trans rfl, (blk_cell BK270.out 0).trans rfl, (blk_cell BK270.out 1).trans rfl, (blk_cell BK270.out 2).trans rfl, (blk_cell BK270.out 3).trans rfl⟩ (fun hHeld => ?_)
                        clear hK K
                        refine norm_ (a' := ?_) ?_ ?_
                        rotate_left
                        · show Act.put _ (some 62) _ = _
                          simp only [Act.put, List.setIfInBounds_toArray, List.set_cons_zero, List.set_cons_succ, i64_w, i32_w]
                          rfl
                        refine pure_ (i := 17) (N := some 63) (v := ?_) (a' := ?_) #[true, true, true, true, true, true, true, true, true, true, true, true, true, true, true, true, true, true, false, false, false, false, false, false, false, false, false, false, false, false, false, false, false, false, false, false, false, false, false, false, false, false, false, false, false, false, false, false, false, false, false, false, false, false, false, false, false, false, false, false, false, false, false, false, false, false, false, false, false, false, false, false, false] rfl rfl (any_of HT_.out (by kernel_rfl)) (fun _ _ _ h => h) (Or.inl ⟨by rfl, ?_⟩) ?_ ?_
                        rotate_left
                        · intro w'
                          go_simp
                          with_reducible rfl
                        rotate_left
                        · simp only [Act.put, List.setIfInBounds_toArray, List.set_cons_zero, List.set_cons_succ, i64_w, i32_w]
                          rfl
                        refine pure_ (i := 18) (N := some 64) (v := ?_) (a' := ?_) #[true, true, true, true, true, true, true, true, true, true, true, true, true, true, true, true, true, true, true, false, false, false, false, false, false, false, false, false, false, false, false, false, false, false, false, false, false, false, false, false, false, false, false, false, false, false, false, false, false, false, false, false, false, false, false, false, false, false, false, false, false, false, false, false, false, false, false, false, false, false, false, false, false] rfl rfl (any_of HT_.out (by kernel_rfl)) (fun _ _ _ h => h) (Or.inl ⟨by rfl, ?_⟩) ?_ ?_
                        rotate_left
                        · intro w'
                          go_simp
                          with_reducible rfl
                        rotate_left
                        · simp only [Act.put, List.setIfInBounds_toArray, List.set_cons_zero, List.set_cons_succ, i64_w, i32_w]
                          rfl
                        refine pure_ (i := 19) (N := some 65) (v := ?_) (a' := ?_) #[true, true, true, true, true, true, true, true, true, true, true, true, true, true, true, true, true, true, true, true, false, false, false, false, false, false, false, false, false, false, false, false, false, false, false, false, false, false, false, false, false, false, false, false, false, false, false, false, false, false, false, false, false, false, false, false, false, false, false, false, false, false, false, false, false, false, false, false, false, false, false, false, false] rfl rfl (any_of HT_.out (by kernel_rfl)) (fun _ _ _ h => h) (Or.inl ⟨by rfl, ?_⟩) ?_ ?_
                        rotate_left
                        · intro w'
                          go_simp
                          with_reducible rfl
                        rotate_left
                        · simp only [Act.put, List.setIfInBounds_toArray, List.set_cons_zero, List.set_cons_succ, i64_w, i32_w]
                          rfl
                        refine pure_ (i := 21) (N := some 67) (v := ?_) (a' := ?_) #[true, true, true, true, true, true, true, true, true, true, true, true, true, true, true, true, true, true, true, true, false, true, false, false, false, false, false, false, false, false, false, false, false, false, false, false, false, false, false, false, false, false, false, false, false, false, false, false, false, false, false, false, false, false, false, false, false, false, false, false, false, false, false, false, false, false, false, false, false, false, false, false, false] rfl rfl (any_of HT_.out (by kernel_rfl)) (fun _ _ _ h => h) (Or.inl ⟨by rfl, ?_⟩) ?_ ?_
                        rotate_left
                        · intro w'
                          go_simp
                          with_reducible rfl
                        rotate_left
                        · simp only [Act.put, List.setIfInBounds_toArray, List.set_cons_zero, List.set_cons_succ, i64_w, i32_w]
                          rfl
                        refine pure_ (i := 22) (N := some 68) (v := ?_) (a' := ?_) #[true, true, true, true, true, true, true, true, true, true, true, true, true, true, true, true, true, true, true, true, false, true, true, false, false, false, false, false, false, false, false, false, false, false, false, false, false, false, false, false, false, false, false, false, false, false, false, false, false, false, false, false, false, false, false, false, false, false, false, false, false, false, false, false, false, false, false, false, false, false, false, false, false] rfl rfl (any_of HT_.out (by kernel_rfl)) (fun _ _ _ h => h) (Or.inl ⟨by rfl, ?_⟩) ?_ ?_
                        rotate_left
                        · intro w'
                          go_simp
                          with_reducible rfl
                        rotate_left
                        · simp only [Act.put, List.setIfInBounds_toArray, List.set_cons_zero, List.set_cons_succ, i64_w, i32_w]
                          rfl
                        refine pure_ (i := 25) (N := some 71) (v := ?_) (a' := ?_) #[true, true, true, true, true, true, true, true, true, true, true, true, true, true, true, true, true, true, true, true, false, true, true, false, false, true, false, false, false, false, false, false, false, false, false, false, false, false, false, false, false, false, false, false, false, false, false, false, false, false, false, false, false, false, false, false, false, false, false, false, false, false, false, false, false, false, false, false, false, false, false, false, false] rfl rfl (any_of HT_.out (by kernel_rfl)) (fun _ _ _ h => h) (Or.inl ⟨by rfl, ?_⟩) ?_ ?_
                        rotate_left
                        · intro w'
                          go_simp
                          with_reducible rfl
                        rotate_left
                        · simp only [Act.put, List.setIfInBounds_toArray, List.set_cons_zero, List.set_cons_succ, i64_w, i32_w]
                          rfl
                        refine pure_ (i := 26) (N := some 72) (v := ?_) (a' := ?_) #[true, true, true, true, true, true, true, true, true, true, true, true, true, true, true, true, true, true, true, true, false, true, true, false, false, true, true, false, false, false, false, false, false, false, false, false, false, false, false, false, false, false, false, false, false, false, false, false, false, false, false, false, false, false, false, false, false, false, false, false, false, false, false, false, false, false, false, false, false, false, false, false, false] rfl rfl (any_of HT_.out (by kernel_rfl)) (fun _ _ _ h => h) (Or.inl ⟨by rfl, ?_⟩) ?_ ?_
                        rotate_left
                        · intro w'
                          go_simp
                          with_reducible rfl
                        rotate_left
                        · simp only [Act.put, List.setIfInBounds_toArray, List.set_cons_zero, List.set_cons_succ, i64_w, i32_w]
                          rfl
                        refine take_ (i := 20) (N := some 66) (v := ?_) (a' := ?_) #[true, true, true, true, true, true, true, true, true, true, true, true, true, true, true, true, true, true, true, true, true, true, true, false, false, true, true, false, false, false, false, false, false, false, false, false, false, false, false, false, false, false, false, false, false, false, false, false, false, false, false, false, false, false, false, false, false, false, false, false, false, false, false, false, false, false, false, false, false, false, false, false, false] rfl rfl (take_ofW HT_.out HW_.out (by kernel_rfl)) (fun _ _ _ h => h) (Or.inl ⟨by rfl, ?_⟩) hHeld ?_ ?_
                        rotate_left
                        · rintro w' ⟨s0, s1, s2, s3, s4, s5, s6, s7⟩
                          go_simp
                          with_reducible rfl
                        rotate_left
                        · simp only [Act.put, List.setIfInBounds_toArray, List.set_cons_zero, List.set_cons_succ, i64_w, i32_w]
                          rfl
                        refine take_ (i := 24) (N := some 70) (v := ?_) (a' := ?_) #[true, true, true, true, true, true, true, true, true, true, true, true, true, true, true, true, true, true, true, true, true, true, true, false, true, true, true, false, false, false, false, false, false, false, false, false, false, false, false, false, false, false, false, false, false, false, false, false, false, false, false, false, false, false, false, false, false, false, false, false, false, false, false, false, false, false, false, false, false, false, false, false, false] rfl rfl (take_ofW HT_.out HW_.out (by kernel_rfl)) (fun _ _ _ h => h) (Or.inl ⟨by rfl, ?_⟩) hHeld ?_ ?_
                        rotate_left
                        · rintro w' ⟨s0, s1, s2, s3, s4, s5, s6, s7⟩
                          go_simp
                          with_reducible rfl
                        rotate_left
                        · simp only [Act.put, List.setIfInBounds_toArray, List.set_cons_zero, List.set_cons_succ, i64_w, i32_w]
                          rfl
                        refine one_ (i := 23) (N := some 69) #[true, true, true, true, true, true, true, true, true, true, true, true, true, true, true, true, true, true, true, true, true, true, true, true, true, true, true, false, false, false, false, false, false, false, false, false, false, false, false, false, false, false, false, false, false, false, false, false, false, false, false, false, false, false, false, false, false, false, false, false, false, false, false, false, false, false, false, false, false, false, false, false, false] rfl rfl (one_of HT_.out (by kernel_rfl)) (by decide) (fun K hK => ?_)
                        refine goes_ Try.func16 (by kernel_rfl) rfl #[.agg #[.int .i64 a0_0, .int .i64 a0_1, .int .i64 a0_2, .int .i64 a0_3], .int .i64 a2, .int .i64 a3] (by rfl) rfl rfl q128_ ?_
                        with_reducible refine (rect_Contains.calls a0_0 a0_1 a0_2 a0_3 a2 a3 t285 _ A33.out).mono ?_
                        rintro e w54 ⟨rfl, hb⟩
                        refine ⟨_, rfl, ?_⟩
                        have n0_ := Aside0.mk (Kd.R_below q172_ hb)
                        have n1_ := Aside0.mk (Kd.R_below q171_ hb)
                        have n2_ := Aside0.mk (blk_below (g := gb269) (o := .cells #[.int .i64 a0_0, .int .i64 a0_1, .int .i64 a0_2, .int .i64 a0_3] 26 (0, 0)) q164_ hb)
                        have n3_ := Aside0.mk (blk_below (g := gb270) (o := .cells #[.int .i64 a1_0, .int .i64 a1_1, .int .i64 a1_2, .int .i64 a1_3] 26 (0, 0)) q165_ hb)
                        have n4_ := Aside0.mk (below_step q98_ hb)
                        clear HO_17
                        clear HO_18
                        clear BK269
                        clear BK270
                        clear HB
                        have HO_17 := n0_
                        have HO_18 := n1_
                        have BK269 := n2_
                        have BK270 := n3_
                        have HB := n4_
                        clear n0_ n1_ n2_ n3_ n4_
                        (try clear hb)
                        (try clear hb2)
                        (try clear hk)
                        (try clear hi)
                        refine hK.out _ _ ⟨(blk_cell BK269.out 0).trans rfl, (blk_cell BK269.out 1).trans rfl, (blk_cell BK269.out 2).trans rfl, (blk_cell BK269.out 3).trans rfl, (blk_cell BK270.out 0).trans rfl, (blk_cell BK270.out 1).trans rfl, (blk_cell BK270.out 2).trans rfl, (blk_cell BK270.out 3).trans rfl⟩ (fun hHeld => ?_)
                        clear hK K
                        refine norm_ (a' := ?_) ?_ ?_
                        rotate_left
                        · show Act.put _ (some 69) _ = _
                          simp only [Act.put, List.setIfInBounds_toArray, List.set_cons_zero, List.set_cons_succ, i64_w, i32_w]
                          rfl
                        refine one_ (i := 27) (N := some 73) #[true, true, true, true, true, true, true, true, true, true, true, true, true, true, true, true, true, true, true, true, true, true, true, true, true, true, true, true, false, false, false, false, false, false, false, false, false, false, false, false, false, false, false, false, false, false, false, false, false, false, false, false, false, false, false, false, false, false, false, false, false, false, false, false, false, false, false, false, false, false, false, false, false] rfl rfl (one_of HT_.out (by kernel_rfl)) (by decide) (fun K hK => ?_)
                        refine goes_ Try.func29 (by kernel_rfl) rfl #[.agg #[.int .i64 a0_0, .int .i64 a0_1, .int .i64 a0_2, .int .i64 a0_3], .int .i64 a2, .int .i64 a3] (by rfl) rfl rfl q128_ ?_
                        with_reducible refine (tilefarmref2_Contains.calls a0_0 a0_1 a0_2 a0_3 a2 a3 t286 _ A34.out).mono ?_
                        rintro e w55 ⟨rfl, hb⟩
                        refine ⟨_, rfl, ?_⟩
                        have n0_ := Aside0.mk (Kd.R_below q172_ hb)
                        have n1_ := Aside0.mk (Kd.R_below q171_ hb)
                        have n2_ := Aside0.mk (blk_below (g := gb269) (o := .cells #[.int .i64 a0_0, .int .i64 a0_1, .int .i64 a0_2, .int .i64 a0_3] 26 (0, 0)) q164_ hb)
                        have n3_ := Aside0.mk (blk_below (g := gb270) (o := .cells #[.int .i64 a1_0, .int .i64 a1_1, .int .i64 a1_2, .int .i64 a1_3] 26 (0, 0)) q165_ hb)
                        have n4_ := Aside0.mk (below_step q98_ hb)
                        clear HO_17
                        clear HO_18
                        clear BK269
                        clear BK270
                        clear HB
                        have HO_17 := n0_
                        have HO_18 := n1_
                        have BK269 := n2_
                        have BK270 := n3_
                        have HB := n4_
                        clear n0_ n1_ n2_ n3_ n4_
                        (try clear hb)
                        (try clear hb2)
                        (try clear hk)
                        (try clear hi)
                        refine hK.out _ _ ⟨(blk_cell BK269.out 0).trans rfl, (blk_cell BK269.out 1).trans rfl, (blk_cell BK269.out 2).trans rfl, (blk_cell BK269.out 3).trans rfl, (blk_cell BK270.out 0).trans rfl, (blk_cell BK270.out 1).trans rfl, (blk_cell BK270.out 2).trans rfl, (blk_cell BK270.out 3).trans rfl⟩ (fun hHeld => ?_)
                        clear hK K
                        refine norm_ (a' := ?_) ?_ ?_
                        rotate_left
                        · show Act.put _ (some 73) _ = _
                          simp only [Act.put, List.setIfInBounds_toArray, List.set_cons_zero, List.set_cons_succ, i64_w, i32_w]
                          rfl
                        refine pure_ (i := 28) (N := some 74) (v := ?_) (a' := ?_) #[true, true, true, true, true, true, true, true, true, true, true, true, true, true, true, true, true, true, true, true, true, true, true, true, true, true, true, true, true, false, false, false, false, false, false, false, false, false, false, false, false, false, false, false, false, false, false, false, false, false, false, false, false, false, false, false, false, false, false, false, false, false, false, false, false, false, false, false, false, false, false, false, false] rfl rfl (any_of HT_.out (by kernel_rfl)) (fun _ _ _ h => h) (Or.inl ⟨by rfl, ?_⟩) ?_ ?_
                        rotate_left
                        · intro w'
                          go_simp
                          with_reducible rfl
                        rotate_left
                        · simp only [Act.put, List.setIfInBounds_toArray, List.set_cons_zero, List.set_cons_succ, i64_w, i32_w]
                          rfl
                        refine pure_ (i := 29) (N := some 75) (v := ?_) (a' := ?_) #[true, true, true, true, true, true, true, true, true, true, true, true, true, true, true, true, true, true, true, true, true, true, true, true, true, true, true, true, true, true, false, false, false, false, false, false, false, false, false, false, false, false, false, false, false, false, false, false, false, false, false, false, false, false, false, false, false, false, false, false, false, false, false, false, false, false, false, false, false, false, false, false, false] rfl rfl (any_of HT_.out (by kernel_rfl)) (fun _ _ _ h => h) (Or.inl ⟨by rfl, ?_⟩) ?_ ?_
                        rotate_left
                        · intro w'
                          go_simp
                          with_reducible rfl
                        rotate_left
                        · simp only [Act.put, List.setIfInBounds_toArray, List.set_cons_zero, List.set_cons_succ, i64_w, i32_w]
                          rfl
                        refine pure_ (i := 30) (N := some 76) (v := ?_) (a' := ?_) #[true, true, true, true, true, true, true, true, true, true, true, true, true, true, true, true, true, true, true, true, true, true, true, true, true, true, true, true, true, true, true, false, false, false, false, false, false, false, false, false, false, false, false, false, false, false, false, false, false, false, false, false, false, false, false, false, false, false, false, false, false, false, false, false, false, false, false, false, false, false, false, false, false] rfl rfl (any_of HT_.out (by kernel_rfl)) (fun _ _ _ h => h) (Or.inl ⟨by rfl, ?_⟩) ?_ ?_
                        rotate_left
                        · intro w'
                          go_simp
                          with_reducible rfl
                        rotate_left
                        · simp only [Act.put, List.setIfInBounds_toArray, List.set_cons_zero, List.set_cons_succ, i64_w, i32_w]
                          rfl
                        refine take_ (i := 31) (N := some 77) (v := ?_) (a' := ?_) #[true, true, true, true, true, true, true, true, true, true, true, true, true, true, true, true, true, true, true, true, true, true, true, true, true, true, true, true, true, true, true, true, false, false, false, false, false, false, false, false, false, false, false, false, false, false, false, false, false, false, false, false, false, false, false, false, false, false, false, false, false, false, false, false, false, false, false, false, false, false, false, false, false] rfl rfl (take_ofW HT_.out HW_.out (by kernel_rfl)) (fun _ _ _ h => h) (Or.inl ⟨by rfl, ?_⟩) hHeld ?_ ?_
                        rotate_left
                        · rintro w' ⟨s0, s1, s2, s3, s4, s5, s6, s7⟩
                          go_simp
                          with_reducible rfl
                        rotate_left
                        · simp only [Act.put, List.setIfInBounds_toArray, List.set_cons_zero, List.set_cons_succ, i64_w, i32_w]
                          rfl
                        refine take_ (i := 32) (N := some 78) (v := ?_) (a' := ?_) #[true, true, true, true, true, true, true, true, true, true, true, true, true, true, true, true, true, true, true, true, true, true, true, true, true, true, true, true, true, true, true, true, true, false, false, false, false, false, false, false, false, false, false, false, false, false, false, false, false, false, false, false, false, false, false, false, false, false, false, false, false, false, false, false, false, false, false, false, false, false, false, false, false] rfl rfl (take_ofW HT_.out HW_.out (by kernel_rfl)) (fun _ _ _ h => h) (Or.inl ⟨by rfl, ?_⟩) hHeld ?_ ?_
                        rotate_left
                        · rintro w' ⟨s0, s1, s2, s3, s4, s5, s6, s7⟩
                          go_simp
                          with_reducible rfl
                        rotate_left
                        · simp only [Act.put, List.setIfInBounds_toArray, List.set_cons_zero, List.set_cons_succ, i64_w, i32_w]
                          rfl
                        refine take_ (i := 34) (N := some 80) (v := ?_) (a' := ?_) #[true, true, true, true, true, true, true, true, true, true, true, true, true, true, true, true, true, true, true, true, true, true, true, true, true, true, true, true, true, true, true, true, true, false, true, false, false, false, false, false, false, false, false, false, false, false, false, false, false, false, false, false, false, false, false, false, false, false, false, false, false, false, false, false, false, false, false, false, false, false, false, false, false] rfl rfl (take_ofW HT_.out HW_.out (by kernel_rfl)) (fun _ _ _ h => h) (Or.inl ⟨by rfl, ?_⟩) hHeld ?_ ?_
                        rotate_left
                        · rintro w' ⟨s0, s1, s2, s3, s4, s5, s6, s7⟩
                          go_simp
                          with_reducible rfl
                        rotate_left
                        · simp only [Act.put, List.setIfInBounds_toArray, List.set_cons_zero, List.set_cons_succ, i64_w, i32_w]
                          rfl
                        refine take_ (i := 35) (N := some 81) (v := ?_) (a' := ?_) #[true, true, true, true, true, true, true, true, true, true, true, true, true, true, true, true, true, true, true, true, true, true, true, true, true, true, true, true, true, true, true, true, true, false, true, true, false, false, false, false, false, false, false, false, false, false, false, false, false, false, false, false, false, false, false, false, false, false, false, false, false, false, false, false, false, false, false, false, false, false, false, false, false] rfl rfl (take_ofW HT_.out HW_.out (by kernel_rfl)) (fun _ _ _ h => h) (Or.inl ⟨by rfl, ?_⟩) hHeld ?_ ?_
                        rotate_left
                        · rintro w' ⟨s0, s1, s2, s3, s4, s5, s6, s7⟩
                          go_simp
                          with_reducible rfl
                        rotate_left
                        · simp only [Act.put, List.setIfInBounds_toArray, List.set_cons_zero, List.set_cons_succ, i64_w, i32_w]
                          rfl
                        refine one_ (i := 33) (N := some 79) #[true, true, true, true, true, true, true, true, true, true, true, true, true, true, true, true, true, true, true, true, true, true, true, true, true, true, true, true, true, true, true, true, true, true, true, true, false, false, false, false, false, false, false, false, false, false, false, false, false, false, false, false, false, false, false, false, false, false, false, false, false, false, false, false, false, false, false, false, false, false, false, false, false] rfl rfl (one_of HT_.out (by kernel_rfl)) (by decide) (fun K hK => ?_)
                        refine goes_ Try.func14 (by kernel_rfl) rfl #[.agg #[.int .i64 a0_0, .int .i64 a0_1, .int .i64 a0_2, .int .i64 a0_3], .agg #[.int .i64 a1_0, .int .i64 a1_1, .int .i64 a1_2, .int .i64 a1_3]] (by rfl) rfl rfl q128_ ?_
                        with_reducible refine (rect_Inside.calls k1 a0_0 a0_1 a0_2 a0_3 a1_0 a1_1 a1_2 a1_3 t287 _ A36.out).mono ?_
                        rintro e w56 ⟨rfl, hb⟩
                        refine ⟨_, rfl, ?_⟩
                        have n0_ := Aside0.mk (Kd.R_below q172_ hb)
                        have n1_ := Aside0.mk (Kd.R_below q171_ hb)
                        have n2_ := Aside0.mk (blk_below (g := gb269) (o := .cells #[.int .i64 a0_0, .int .i64 a0_1, .int .i64 a0_2, .int .i64 a0_3] 26 (0, 0)) q164_ hb)
                        have n3_ := Aside0.mk (blk_below (g := gb270) (o := .cells #[.int .i64 a1_0, .int .i64 a1_1, .int .i64 a1_2, .int .i64 a1_3] 26 (0, 0)) q165_ hb)
                        have n4_ := Aside0.mk (below_step q98_ hb)
                        clear HO_17
                        clear HO_18
                        clear BK269
                        clear BK270
                        clear HB
                        have HO_17 := n0_
                        have HO_18 := n1_
                        have BK269 := n2_
                        have BK270 := n3_
                        have HB := n4_
                        clear n0_ n1_ n2_ n3_ n4_
                        (try clear hb)
                        (try clear hb2)
                        (try clear hk)
                        (try clear hi)
                        refine hK.out _ _ ⟨(blk_cell BK269.out 0).trans rfl, (blk_cell BK269.out 1).trans rfl, (blk_cell BK269.out 2).trans rfl, (blk_cell BK269.out 3).trans rfl, (blk_cell BK270.out 0).trans rfl, (blk_cell BK270.out 1).trans rfl, (blk_cell BK270.out 2).trans rfl, (blk_cell BK270.out 3).trans rfl⟩ (fun hHeld => ?_)
                        clear hK K
                        refine norm_ (a' := ?_) ?_ ?_
                        rotate_left
                        · show Act.put _ (some 79) _ = _
                          simp only [Act.put, List.setIfInBounds_toArray, List.set_cons_zero, List.set_cons_succ, i64_w, i32_w]
                          rfl
                        refine one_ (i := 36) (N := some 82) #[true, true, true, true, true, true, true, true, true, true, true, true, true, true, true, true, true, true, true, true, true, true, true, true, true, true, true, true, true, true, true, true, true, true, true, true, true, false, false, false, false, false, false, false, false, false, false, false, false, false, false, false, false, false, false, false, false, false, false, false, false, false, false, false, false, false, false, false, false, false, false, false, false] rfl rfl (one_of HT_.out (by kernel_rfl)) (by decide) (fun K hK => ?_)
                        refine goes_ Try.func30 (by kernel_rfl) rfl #[.agg #[.int .i64 a0_0, .int .i64 a0_1, .int .i64 a0_2, .int .i64 a0_3], .agg #[.int .i64 a1_0, .int .i64 a1_1, .int .i64 a1_2, .int .i64 a1_3]] (by rfl) rfl rfl q128_ ?_
                        with_reducible refine (tilefarmref2_Inside.calls a0_0 a0_1 a0_2 a0_3 a1_0 a1_1 a1_2 a1_3 t288 _ A37.out).mono ?_
                        rintro e w57 ⟨rfl, hb⟩
                        refine ⟨_, rfl, ?_⟩
                        have n0_ := Aside0.mk (Kd.R_below q172_ hb)
                        have n1_ := Aside0.mk (Kd.R_below q171_ hb)
                        have n2_ := Aside0.mk (blk_below (g := gb269) (o := .cells #[.int .i64 a0_0, .int .i64 a0_1, .int .i64 a0_2, .int .i64 a0_3] 26 (0, 0)) q164_ hb)
                        have n3_ := Aside0.mk (blk_below (g := gb270) (o := .cells #[.int .i64 a1_0, .int .i64 a1_1, .int .i64 a1_2, .int .i64 a1_3] 26 (0, 0)) q165_ hb)
                        have n4_ := Aside0.mk (below_step q98_ hb)
                        clear HO_17
                        clear HO_18
                        clear BK269
                        clear BK270
                        clear HB
                        have HO_17 := n0_
                        have HO_18 := n1_
                        have BK269 := n2_
                        have BK270 := n3_
                        have HB := n4_
                        clear n0_ n1_ n2_ n3_ n4_
                        (try clear hb)
                        (try clear hb2)
                        (try clear hk)
                        (try clear hi)
                        refine hK.out _ _ ⟨(blk_cell BK269.out 0).trans rfl, (blk_cell BK269.out 1).trans rfl, (blk_cell BK269.out 2).trans rfl, (blk_cell BK269.out 3).trans rfl, (blk_cell BK270.out 0).trans rfl, (blk_cell BK270.out 1).trans rfl, (blk_cell BK270.out 2).trans rfl, (blk_cell BK270.out 3).trans rfl⟩ (fun hHeld => ?_)
                        clear hK K
                        refine norm_ (a' := ?_) ?_ ?_
                        rotate_left
                        · show Act.put _ (some 82) _ = _
                          simp only [Act.put, List.setIfInBounds_toArray, List.set_cons_zero, List.set_cons_succ, i64_w, i32_w]
                          rfl
                        refine pure_ (i := 37) (N := some 83) (v := ?_) (a' := ?_) #[true, true, true, true, true, true, true, true, true, true, true, true, true, true, true, true, true, true, true, true, true, true, true, true, true, true, true, true, true, true, true, true, true, true, true, true, true, true, false, false, false, false, false, false, false, false, false, false, false, false, false, false, false, false, false, false, false, false, false, false, false, false, false, false, false, false, false, false, false, false, false, false, false] rfl rfl (any_of HT_.out (by kernel_rfl)) (fun _ _ _ h => h) (Or.inl ⟨by rfl, ?_⟩) ?_ ?_
                        rotate_left
                        · intro w'
                          go_simp
                          with_reducible rfl
                        rotate_left
                        · simp only [Act.put, List.setIfInBounds_toArray, List.set_cons_zero, List.set_cons_succ, i64_w, i32_w]
                          rfl
                        refine pure_ (i := 38) (N := some 84) (v := ?_) (a' := ?_) #[true, true, true, true, true, true, true, true, true, true, true, true, true, true, true, true, true, true, true, true, true, true, true, true, true, true, true, true, true, true, true, true, true, true, true, true, true, true, true, false, false, false, false, false, false, false, false, false, false, false, false, false, false, false, false, false, false, false, false, false, false, false, false, false, false, false, false, false, false, false, false, false, false] rfl rfl (any_of HT_.out (by kernel_rfl)) (fun _ _ _ h => h) (Or.inl ⟨by rfl, ?_⟩) ?_ ?_
                        rotate_left
                        · intro w'
                          go_simp
                          with_reducible rfl
                        rotate_left
                        · simp only [Act.put, List.setIfInBounds_toArray, List.set_cons_zero, List.set_cons_succ, i64_w, i32_w]
                          rfl
                        refine pure_ (i := 39) (N := some 85) (v := ?_) (a' := ?_) #[true, true, true, true, true, true, true, true, true, true, true, true, true, true, true, true, true, true, true, true, true, true, true, true, true, true, true, true, true, true, true, true, true, true, true, true, true, true, true, true, false, false, false, false, false, false, false, false, false, false, false, false, false, false, false, false, false, false, false, false, false, false, false, false, false, false, false, false, false, false, false, false, false] rfl rfl (any_of HT_.out (by kernel_rfl)) (fun _ _ _ h => h) (Or.inl ⟨by rfl, ?_⟩) ?_ ?_
                        rotate_left
                        · intro w'
                          go_simp
                          with_reducible rfl
                        rotate_left
                        · simp only [Act.put, List.setIfInBounds_toArray, List.set_cons_zero, List.set_cons_succ, i64_w, i32_w]
                          rfl
                        refine take_ (i := 40) (N := some 86) (v := ?_) (a' := ?_) #[true, true, true, true, true, true, true, true, true, true, true, true, true, true, true, true, true, true, true, true, true, true, true, true, true, true, true, true, true, true, true, true, true, true, true, true, true, true, true, true, true, false, false, false, false, false, false, false, false, false, false, false, false, false, false, false, false, false, false, false, false, false, false, false, false, false, false, false, false, false, false, false, false] rfl rfl (take_ofW HT_.out HW_.out (by kernel_rfl)) (fun _ _ _ h => h) (Or.inl ⟨by rfl, ?_⟩) hHeld ?_ ?_
                        rotate_left
                        · rintro w' ⟨s0, s1, s2, s3, s4, s5, s6, s7⟩
                          go_simp
                          with_reducible rfl
                        rotate_left
                        · simp only [Act.put, List.setIfInBounds_toArray, List.set_cons_zero, List.set_cons_succ, i64_w, i32_w]
                          rfl
                        refine take_ (i := 41) (N := some 87) (v := ?_) (a' := ?_) #[true, true, true, true, true, true, true, true, true, true, true, true, true, true, true, true, true, true, true, true, true, true, true, true, true, true, true, true, true, true, true, true, true, true, true, true, true, true, true, true, true, true, false, false, false, false, false, false, false, false, false, false, false, false, false, false, false, false, false, false, false, false, false, false, false, false, false, false, false, false, false, false, false] rfl rfl (take_ofW HT_.out HW_.out (by kernel_rfl)) (fun _ _ _ h => h) (Or.inl ⟨by rfl, ?_⟩) hHeld ?_ ?_
                        rotate_left
                        · rintro w' ⟨s0, s1, s2, s3, s4, s5, s6, s7⟩
                          go_simp
                          with_reducible rfl
                        rotate_left
                        · simp only [Act.put, List.setIfInBounds_toArray, List.set_cons_zero, List.set_cons_succ, i64_w, i32_w]
                          rfl
                        refine take_ (i := 43) (N := some 89) (v := ?_) (a' := ?_) #[true, true, true, true, true, true, true, true, true, true, true, true, true, true, true, true, true, true, true, true, true, true, true, true, true, true, true, true, true, true, true, true, true, true, true, true, true, true, true, true, true, true, false, true, false, false, false, false, false, false, false, false, false, false, false, false, false, false, false, false, false, false, false, false, false, false, false, false, false, false, false, false, false] rfl rfl (take_ofW HT_.out HW_.out (by kernel_rfl)) (fun _ _ _ h => h) (Or.inl ⟨by rfl, ?_⟩) hHeld ?_ ?_
                        rotate_left
                        · rintro w' ⟨s0, s1, s2, s3, s4, s5, s6, s7⟩
                          go_simp
                          with_reducible rfl
                        rotate_left
                        · simp only [Act.put, List.setIfInBounds_toArray, List.set_cons_zero, List.set_cons_succ, i64_w, i32_w]
                          rfl
                        refine take_ (i := 44) (N := some 90) (v := ?_) (a' := ?_) #[true, true, true, true, true, true, true, true, true, true, true, true, true, true, true, true, true, true, true, true, true, true, true, true, true, true, true, true, true, true, true, true, true, true, true, true, true, true, true, true, true, true, false, true, true, false, false, false, false, false, false, false, false, false, false, false, false, false, false, false, false, false, false, false, false, false, false, false, false, false, false, false, false] rfl rfl (take_ofW HT_.out HW_.out (by kernel_rfl)) (fun _ _ _ h => h) (Or.inl ⟨by rfl, ?_⟩) hHeld ?_ ?_
                        rotate_left
                        · rintro w' ⟨s0, s1, s2, s3, s4, s5, s6, s7⟩
                          go_simp
                          with_reducible rfl
                        rotate_left
                        · simp only [Act.put, List.setIfInBounds_toArray, List.set_cons_zero, List.set_cons_succ, i64_w, i32_w]
                          rfl
                        refine one_ (i := 42) (N := some 88) #[true, true, true, true, true, true, true, true, true, true, true, true, true, true, true, true, true, true, true, true, true, true, true, true, true, true, true, true, true, true, true, true, true, true, true, true, true, true, true, true, true, true, true, true, true, false, false, false, false, false, false, false, false, false, false, false, false, false, false, false, false, false, false, false, false, false, false, false, false, false, false, false, false] rfl rfl (one_of HT_.out (by kernel_rfl)) (by decide) (fun K hK => ?_)
                        refine goes_ Try.func13 (by kernel_rfl) rfl #[.agg #[.int .i64 a0_0, .int .i64 a0_1, .int .i64 a0_2, .int .i64 a0_3], .agg #[.int .i64 a1_0, .int .i64 a1_1, .int .i64 a1_2, .int .i64 a1_3]] (by rfl) rfl rfl q128_ ?_
                        with_reducible refine (rect_Intersect.calls k1 a0_0 a0_1 a0_2 a0_3 a1_0 a1_1 a1_2 a1_3 t289 t290 t291 t292 _ A39.out).mono ?_
                        rintro e w58 ⟨rfl, hb⟩
                        refine ⟨_, rfl, ?_⟩
                        have n0_ := Aside0.mk (Kd.R_below q172_ hb)
                        have n1_ := Aside0.mk (Kd.R_below q171_ hb)
                        have n2_ := Aside0.mk (blk_below (g := gb269) (o := .cells #[.int .i64 a0_0, .int .i64 a0_1, .int .i64 a0_2, .int .i64 a0_3] 26 (0, 0)) q164_ hb)
                        have n3_ := Aside0.mk (blk_below (g := gb270) (o := .cells #[.int .i64 a1_0, .int .i64 a1_1, .int .i64 a1_2, .int .i64 a1_3] 26 (0, 0)) q165_ hb)
                        have n4_ := Aside0.mk (below_step q98_ hb)
                        clear HO_17
                        clear HO_18
                        clear BK269
                        clear BK270
                        clear HB
                        have HO_17 := n0_
                        have HO_18 := n1_
                        have BK269 := n2_
                        have BK270 := n3_
                        have HB := n4_
                        clear n0_ n1_ n2_ n3_ n4_
                        (try clear hb)
                        (try clear hb2)
                        (try clear hk)
                        (try clear hi)
                        refine hK.out _ _ ⟨(blk_cell BK269.out 0).trans rfl, (blk_cell BK269.out 1).trans rfl, (blk_cell BK269.out 2).trans rfl, (blk_cell BK269.out 3).trans rfl, (blk_cell BK270.out 0).trans rfl, (blk_cell BK270.out 1).trans rfl, (blk_cell BK270.out 2).trans rfl, (blk_cell BK270.out 3).trans rfl⟩ (fun hHeld => ?_)
                        clear hK K
                        refine norm_ (a' := ?_) ?_ ?_
                        rotate_left
                        · show Act.put _ (some 88) _ = _
                          simp only [Act.put, List.setIfInBounds_toArray, List.set_cons_zero, List.set_cons_succ, i64_w, i32_w]
                          rfl
                        refine one_ (i := 45) (N := some 91) #[true, true, true, true, true, true, true, true, true, true, true, true, true, true, true, true, true, true, true, true, true, true, true, true, true, true, true, true, true, true, true, true, true, true, true, true, true, true, true, true, true, true, true, true, true, true, false, false, false, false, false, false, false, false, false, false, false, false, false, false, false, false, false, false, false, false, false, false, false, false, false, false, false] rfl rfl (one_of HT_.out (by kernel_rfl)) (by decide) (fun K hK => ?_)
                        refine goes_ Try.func31 (by kernel_rfl) rfl #[.agg #[.int .i64 a0_0, .int .i64 a0_1, .int .i64 a0_2, .int .i64 a0_3], .agg #[.int .i64 a1_0, .int .i64 a1_1, .int .i64 a1_2, .int .i64 a1_3]] (by rfl) rfl rfl q128_ ?_
                        with_reducible refine (tilefarmref2_Intersect.calls a0_0 a0_1 a0_2 a0_3 a1_0 a1_1 a1_2 a1_3 t293 t294 t295 t296 _ A40.out).mono ?_
                        rintro e w59 ⟨rfl, hb⟩
                        refine ⟨_, rfl, ?_⟩
                        have n0_ := Aside0.mk (Kd.R_below q172_ hb)
                        have n1_ := Aside0.mk (Kd.R_below q171_ hb)
                        have n2_ := Aside0.mk (blk_below (g := gb269) (o := .cells #[.int .i64 a0_0, .int .i64 a0_1, .int .i64 a0_2, .int .i64 a0_3] 26 (0, 0)) q164_ hb)
                        have n3_ := Aside0.mk (blk_below (g := gb270) (o := .cells #[.int .i64 a1_0, .int .i64 a1_1, .int .i64 a1_2, .int .i64 a1_3] 26 (0, 0)) q165_ hb)
                        have n4_ := Aside0.mk (below_step q98_ hb)
                        clear HO_17
                        clear HO_18
                        clear BK269
                        clear BK270
                        clear HB
                        have HO_17 := n0_
                        have HO_18 := n1_
                        have BK269 := n2_
                        have BK270 := n3_
                        have HB := n4_
                        clear n0_ n1_ n2_ n3_ n4_
                        (try clear hb)
                        (try clear hb2)
                        (try clear hk)
                        (try clear hi)
                        refine hK.out _ _ ⟨(blk_cell BK269.out 0).trans rfl, (blk_cell BK269.out 1).trans rfl, (blk_cell BK269.out 2).trans rfl, (blk_cell BK269.out 3).trans rfl, (blk_cell BK270.out 0).trans rfl, (blk_cell BK270.out 1).trans rfl, (blk_cell BK270.out 2).trans rfl, (blk_cell BK270.out 3).trans rfl⟩ (fun hHeld => ?_)
                        clear hK K
                        refine norm_ (a' := ?_) ?_ ?_
                        rotate_left
                        · show Act.put _ (some 91) _ = _
                          simp only [Act.put, List.setIfInBounds_toArray, List.set_cons_zero, List.set_cons_succ, i64_w, i32_w]
                          rfl
                        refine pure_ (i := 46) (N := some 92) (v := ?_) (a' := ?_) #[true, true, true, true, true, true, true, true, true, true, true, true, true, true, true, true, true, true, true, true, true, true, true, true, true, true, true, true, true, true, true, true, true, true, true, true, true, true, true, true, true, true, true, true, true, true, true, false, false, false, false, false, false, false, false, false, false, false, false, false, false, false, false, false, false, false, false, false, false, false, false, false, false] rfl rfl (any_of HT_.out (by kernel_rfl)) (fun _ _ _ h => h) (Or.inl ⟨by rfl, ?_⟩) ?_ ?_
                        rotate_left
                        · intro w'
                          go_simp
                          with_reducible rfl
                        rotate_left
                        · simp only [Act.put, List.setIfInBounds_toArray, List.set_cons_zero, List.set_cons_succ, i64_w, i32_w]
                          rfl
                        refine pure_ (i := 47) (N := some 93) (v := ?_) (a' := ?_) #[true, true, true, true, true, true, true, true, true, true, true, true, true, true, true, true, true, true, true, true, true, true, true, true, true, true, true, true, true, true, true, true, true, true, true, true, true, true, true, true, true, true, true, true, true, true, true, true, false, false, false, false, false, false, false, false, false, false, false, false, false, false, false, false, false, false, false, false, false, false, false, false, false] rfl rfl (any_of HT_.out (by kernel_rfl)) (fun _ _ _ h => h) (Or.inl ⟨by rfl, ?_⟩) ?_ ?_
                        rotate_left
                        · intro w'
                          go_simp
                          with_reducible rfl
                        rotate_left
                        · simp only [Act.put, List.setIfInBounds_toArray, List.set_cons_zero, List.set_cons_succ, i64_w, i32_w]
                          rfl
                        refine pure_ (i := 48) (N := some 94) (v := ?_) (a' := ?_) #[true, true, true, true, true, true, true, true, true, true, true, true, true, true, true, true, true, true, true, true, true, true, true, true, true, true, true, true, true, true, true, true, true, true, true, true, true, true, true, true, true, true, true, true, true, true, true, true, true, false, false, false, false, false, false, false, false, false, false, false, false, false, false, false, false, false, false, false, false, false, false, false, false] rfl rfl (any_of HT_.out (by kernel_rfl)) (fun _ _ _ h => h) (Or.inl ⟨by rfl, ?_⟩) ?_ ?_
                        rotate_left
                        · intro w'
                          go_simp
                          with_reducible rfl
                        rotate_left
                        · simp only [Act.put, List.setIfInBounds_toArray, List.set_cons_zero, List.set_cons_succ, i64_w, i32_w]
                          rfl
                        refine take_ (i := 49) (N := some 95) (v := ?_) (a' := ?_) #[true, true, true, true, true, true, true, true, true, true, true, true, true, true, true, true, true, true, true, true, true, true, true, true, true, true, true, true, true, true, true, true, true, true, true, true, true, true, true, true, true, true, true, true, true, true, true, true, true, true, false, false, false, false, false, false, false, false, false, false, false, false, false, false, false, false, false, false, false, false, false, false, false] rfl rfl (take_ofW HT_.out HW_.out (by kernel_rfl)) (fun _ _ _ h => h) (Or.inl ⟨by rfl, ?_⟩) hHeld ?_ ?_
                        rotate_left
                        · rintro w' ⟨s0, s1, s2, s3, s4, s5, s6, s7⟩
                          go_simp
                          with_reducible rfl
                        rotate_left
                        · simp only [Act.put, List.setIfInBounds_toArray, List.set_cons_zero, List.set_cons_succ, i64_w, i32_w]
                          rfl
                        refine take_ (i := 50) (N := some 96) (v := ?_) (a' := ?_) #[true, true, true, true, true, true, true, true, true, true, true, true, true, true, true, true, true, true, true, true, true, true, true, true, true, true, true, true, true, true, true, true, true, true, true, true, true, true, true, true, true, true, true, true, true, true, true, true, true, true, true, false, false, false, false, false, false, false, false, false, false, false, false, false, false, false, false, false, false, false, false, false, false] rfl rfl (take_ofW HT_.out HW_.out (by kernel_rfl)) (fun _ _ _ h => h) (Or.inl ⟨by rfl, ?_⟩) hHeld ?_ ?_
                        rotate_left
                        · rintro w' ⟨s0, s1, s2, s3, s4, s5, s6, s7⟩
                          go_simp
                          with_reducible rfl
                        rotate_left
                        · simp only [Act.put, List.setIfInBounds_toArray, List.set_cons_zero, List.set_cons_succ, i64_w, i32_w]
                          rfl
                        refine take_ (i := 52) (N := some 98) (v := ?_) (a' := ?_) #[true, true, true, true, true, true, true, true, true, true, true, true, true, true, true, true, true, true, true, true, true, true, true, true, true, true, true, true, true, true, true, true, true, true, true, true, true, true, true, true, true, true, true, true, true, true, true, true, true, true, true, false, true, false, false, false, false, false, false, false, false, false, false, false, false, false, false, false, false, false, false, false, false] rfl rfl (take_ofW HT_.out HW_.out (by kernel_rfl)) (fun _ _ _ h => h) (Or.inl ⟨by rfl, ?_⟩) hHeld ?_ ?_
                        rotate_left
                        · rintro w' ⟨s0, s1, s2, s3, s4, s5, s6, s7⟩
                          go_simp
                          with_reducible rfl
                        rotate_left
                        · simp only [Act.put, List.setIfInBounds_toArray, List.set_cons_zero, List.set_cons_succ, i64_w, i32_w]
                          rfl
                        refine take_ (i := 53) (N := some 99) (v := ?_) (a' := ?_) #[true, true, true, true, true, true, true, true, true, true, true, true, true, true, true, true, true, true, true, true, true, true, true, true, true, true, true, true, true, true, true, true, true, true, true, true, true, true, true, true, true, true, true, true, true, true, true, true, true, true, true, false, true, true, false, false, false, false, false, false, false, false, false, false, false, false, false, false, false, false, false, false, false] rfl rfl (take_ofW HT_.out HW_.out (by kernel_rfl)) (fun _ _ _ h => h) (Or.inl ⟨by rfl, ?_⟩) hHeld ?_ ?_
                        rotate_left
                        · rintro w' ⟨s0, s1, s2, s3, s4, s5, s6, s7⟩
                          go_simp
                          with_reducible rfl
                        rotate_left
                        · simp only [Act.put, List.setIfInBounds_toArray, List.set_cons_zero, List.set_cons_succ, i64_w, i32_w]
                          rfl
                        refine one_ (i := 51) (N := some 97) #[true, true, true, true, true, true, true, true, true, true, true, true, true, true, true, true, true, true, true, true, true, true, true, true, true, true, true, true, true, true, true, true, true, true, true, true, true, true, true, true, true, true, true, true, true, true, true, true, true, true, true, true, true, true, false, false, false, false, false, false, false, false, false, false, false, false, false, false, false, false, false, false, false] rfl rfl (one_of HT_.out (by kernel_rfl)) (by decide) (fun K hK => ?_)
                        refine goes_ Try.func17 (by kernel_rfl) rfl #[.agg #[.int .i64 a0_0, .int .i64 a0_1, .int .i64 a0_2, .int .i64 a0_3], .agg #[.int .i64 a1_0, .int .i64 a1_1, .int .i64 a1_2, .int .i64 a1_3]] (by rfl) rfl rfl q128_ ?_
                        with_reducible refine (rect_Hull.calls k1 a0_0 a0_1 a0_2 a0_3 a1_0 a1_1 a1_2 a1_3 t297 t298 t299 t300 _ A42.out).mono ?_
                        rintro e w60 ⟨rfl, hb⟩
                        refine ⟨_, rfl, ?_⟩
                        have n0_ := Aside0.mk (Kd.R_below q172_ hb)
                        have n1_ := Aside0.mk (Kd.R_below q171_ hb)
                        have n2_ := Aside0.mk (blk_below (g := gb269) (o := .cells #[.int .i64 a0_0, .int .i64 a0_1, .int .i64 a0_2, .int .i64 a0_3] 26 (0, 0)) q164_ hb)
                        have n3_ := Aside0.mk (blk_below (g := gb270) (o := .cells #[.int .i64 a1_0, .int .i64 a1_1, .int .i64 a1_2, .int .i64 a1_3] 26 (0, 0)) q165_ hb)
                        have n4_ := Aside0.mk (below_step q98_ hb)
                        clear HO_17
                        clear HO_18
                        clear BK269
                        clear BK270
                        clear HB
                        have HO_17 := n0_
                        have HO_18 := n1_
                        have BK269 := n2_
                        have BK270 := n3_
                        have HB := n4_
                        clear n0_ n1_ n2_ n3_ n4_
                        (try clear hb)
                        (try clear hb2)
                        (try clear hk)
                        (try clear hi)
                        refine hK.out _ _ ⟨(blk_cell BK269.out 0).trans rfl, (blk_cell BK269.out 1).trans rfl, (blk_cell BK269.out 2).trans rfl, (blk_cell BK269.out 3).trans rfl, (blk_cell BK270.out 0).trans rfl, (blk_cell BK270.out 1).trans rfl, (blk_cell BK270.out 2).trans rfl, (blk_cell BK270.out 3).trans rfl⟩ (fun hHeld => ?_)
                        clear hK K
                        refine norm_ (a' := ?_) ?_ ?_
                        rotate_left
                        · show Act.put _ (some 97) _ = _
                          simp only [Act.put, List.setIfInBounds_toArray, List.set_cons_zero, List.set_cons_succ, i64_w, i32_w]
                          rfl
                        refine one_ (i := 54) (N := some 100) #[true, true, true, true, true, true, true, true, true, true, true, true, true, true, true, true, true, true, true, true, true, true, true, true, true, true, true, true, true, true, true, true, true, true, true, true, true, true, true, true, true, true, true, true, true, true, true, true, true, true, true, true, true, true, true, false, false, false, false, false, false, false, false, false, false, false, false, false, false, false, false, false, false] rfl rfl (one_of HT_.out (by kernel_rfl)) (by decide) (fun K hK => ?_)
                        refine goes_ Try.func32 (by kernel_rfl) rfl #[.agg #[.int .i64 a0_0, .int .i64 a0_1, .int .i64 a0_2, .int .i64 a0_3], .agg #[.int .i64 a1_0, .int .i64 a1_1, .int .i64 a1_2, .int .i64 a1_3]] (by rfl) rfl rfl q128_ ?_
                        with_reducible refine (tilefarmref2_Hull.calls k1 a0_0 a0_1 a0_2 a0_3 a1_0 a1_1 a1_2 a1_3 t301 t302 t303 t304 _ A43.out).mono ?_
                        rintro e w61 ⟨rfl, hb⟩
                        refine ⟨_, rfl, ?_⟩
                        have n0_ := Aside0.mk (Kd.R_below q172_ hb)
                        have n1_ := Aside0.mk (Kd.R_below q171_ hb)
                        have n2_ := Aside0.mk (blk_below (g := gb269) (o := .cells #[.int .i64 a0_0, .int .i64 a0_1, .int .i64 a0_2, .int .i64 a0_3] 26 (0, 0)) q164_ hb)
                        have n3_ := Aside0.mk (blk_below (g := gb270) (o := .cells #[.int .i64 a1_0, .int .i64 a1_1, .int .i64 a1_2, .int .i64 a1_3] 26 (0, 0)) q165_ hb)
                        have n4_ := Aside0.mk (below_step q98_ hb)
                        clear HO_17
                        clear HO_18
                        clear BK269
                        clear BK270
                        clear HB
                        have HO_17 := n0_
                        have HO_18 := n1_
                        have BK269 := n2_
                        have BK270 := n3_
                        have HB := n4_
                        clear n0_ n1_ n2_ n3_ n4_
                        (try clear hb)
                        (try clear hb2)
                        (try clear hk)
                        (try clear hi)
                        refine hK.out _ _ ⟨(blk_cell BK269.out 0).trans rfl, (blk_cell BK269.out 1).trans rfl, (blk_cell BK269.out 2).trans rfl, (blk_cell BK269.out 3).trans rfl, (blk_cell BK270.out 0).trans rfl, (blk_cell BK270.out 1).trans rfl, (blk_cell BK270.out 2).trans rfl, (blk_cell BK270.out 3).trans rfl⟩ (fun hHeld => ?_)
                        clear hK K
                        refine norm_ (a' := ?_) ?_ ?_
                        rotate_left
                        · show Act.put _ (some 100) _ = _
                          simp only [Act.put, List.setIfInBounds_toArray, List.set_cons_zero, List.set_cons_succ, i64_w, i32_w]
                          rfl
                        refine pure_ (i := 55) (N := some 101) (v := ?_) (a' := ?_) #[true, true, true, true, true, true, true, true, true, true, true, true, true, true, true, true, true, true, true, true, true, true, true, true, true, true, true, true, true, true, true, true, true, true, true, true, true, true, true, true, true, true, true, true, true, true, true, true, true, true, true, true, true, true, true, true, false, false, false, false, false, false, false, false, false, false, false, false, false, false, false, false, false] rfl rfl (any_of HT_.out (by kernel_rfl)) (fun _ _ _ h => h) (Or.inl ⟨by rfl, ?_⟩) ?_ ?_
                        rotate_left
                        · intro w'
                          go_simp
                          with_reducible rfl
                        rotate_left
                        · simp only [Act.put, List.setIfInBounds_toArray, List.set_cons_zero, List.set_cons_succ, i64_w, i32_w]
                          rfl
                        refine pure_ (i := 56) (N := some 102) (v := ?_) (a' := ?_) #[true, true, true, true, true, true, true, true, true, true, true, true, true, true, true, true, true, true, true, true, true, true, true, true, true, true, true, true, true, true, true, true, true, true, true, true, true, true, true, true, true, true, true, true, true, true, true, true, true, true, true, true, true, true, true, true, true, false, false, false, false, false, false, false, false, false, false, false, false, false, false, false, false] rfl rfl (any_of HT_.out (by kernel_rfl)) (fun _ _ _ h => h) (Or.inl ⟨by rfl, ?_⟩) ?_ ?_
                        rotate_left
                        · intro w'
                          go_simp
                          with_reducible rfl
                        rotate_left
                        · simp only [Act.put, List.setIfInBounds_toArray, List.set_cons_zero, List.set_cons_succ, i64_w, i32_w]
                          rfl
                        refine pure_ (i := 57) (N := some 103) (v := ?_) (a' := ?_) #[true, true, true, true, true, true, true, true, true, true, true, true, true, true, true, true, true, true, true, true, true, true, true, true, true, true, true, true, true, true, true, true, true, true, true, true, true, true, true, true, true, true, true, true, true, true, true, true, true, true, true, true, true, true, true, true, true, true, false, false, false, false, false, false, false, false, false, false, false, false, false, false, false] rfl rfl (any_of HT_.out (by kernel_rfl)) (fun _ _ _ h => h) (Or.inl ⟨by rfl, ?_⟩) ?_ ?_
                        rotate_left
                        · intro w'
                          go_simp
                          with_reducible rfl
                        rotate_left
                        · simp only [Act.put, List.setIfInBounds_toArray, List.set_cons_zero, List.set_cons_succ, i64_w, i32_w]
                          rfl
                        refine pure_ (i := 59) (N := some 105) (v := ?_) (a' := ?_) #[true, true, true, true, true, true, true, true, true, true, true, true, true, true, true, true, true, true, true, true, true, true, true, true, true, true, true, true, true, true, true, true, true, true, true, true, true, true, true, true, true, true, true, true, true, true, true, true, true, true, true, true, true, true, true, true, true, true, false, true, false, false, false, false, false, false, false, false, false, false, false, false, false] rfl rfl (any_of HT_.out (by kernel_rfl)) (fun _ _ _ h => h) (Or.inl ⟨by rfl, ?_⟩) ?_ ?_
                        rotate_left
                        · intro w'
                          go_simp
                          with_reducible rfl
                        rotate_left
                        · simp only [Act.put, List.setIfInBounds_toArray, List.set_cons_zero, List.set_cons_succ, i64_w, i32_w]
                          rfl
                        refine pure_ (i := 60) (N := some 106) (v := ?_) (a' := ?_) #[true, true, true, true, true, true, true, true, true, true, true, true, true, true, true, true, true, true, true, true, true, true, true, true, true, true, true, true, true, true, true, true, true, true, true, true, true, true, true, true, true, true, true, true, true, true, true, true, true, true, true, true, true, true, true, true, true, true, false, true, true, false, false, false, false, false, false, false, false, false, false, false, false] rfl rfl (any_of HT_.out (by kernel_rfl)) (fun _ _ _ h => h) (Or.inl ⟨by rfl, ?_⟩) ?_ ?_
                        rotate_left
                        · intro w'
                          go_simp
                          with_reducible rfl
                        rotate_left
                        · simp only [Act.put, List.setIfInBounds_toArray, List.set_cons_zero, List.set_cons_succ, i64_w, i32_w]
                          rfl
                        refine pure_ (i := 61) (N := some 107) (v := ?_) (a' := ?_) #[true, true, true, true, true, true, true, true, true, true, true, true, true, true, true, true, true, true, true, true, true, true, true, true, true, true, true, true, true, true, true, true, true, true, true, true, true, true, true, true, true, true, true, true, true, true, true, true, true, true, true, true, true, true, true, true, true, true, false, true, true, true, false, false, false, false, false, false, false, false, false, false, false] rfl rfl (any_of HT_.out (by kernel_rfl)) (fun _ _ _ h => h) (Or.inl ⟨by rfl, ?_⟩) ?_ ?_
                        rotate_left
                        · intro w'
                          go_simp
                          with_reducible rfl
                        rotate_left
                        · simp only [Act.put, List.setIfInBounds_toArray, List.set_cons_zero, List.set_cons_succ, i64_w, i32_w]
                          rfl
                        refine pure_ (i := 62) (N := some 108) (v := ?_) (a' := ?_) #[true, true, true, true, true, true, true, true, true, true, true, true, true, true, true, true, true, true, true, true, true, true, true, true, true, true, true, true, true, true, true, true, true, true, true, true, true, true, true, true, true, true, true, true, true, true, true, true, true, true, true, true, true, true, true, true, true, true, false, true, true, true, true, false, false, false, false, false, false, false, false, false, false] rfl rfl (any_of HT_.out (by kernel_rfl)) (fun _ _ _ h => h) (Or.inl ⟨by rfl, ?_⟩) ?_ ?_
                        rotate_left
                        · intro w'
                          go_simp
                          with_reducible rfl
                        rotate_left
                        · simp only [Act.put, List.setIfInBounds_toArray, List.set_cons_zero, List.set_cons_succ, i64_w, i32_w]
                          rfl
                        refine pure_ (i := 65) (N := some 111) (v := ?_) (a' := ?_) #[true, true, true, true, true, true, true, true, true, true, true, true, true, true, true, true, true, true, true, true, true, true, true, true, true, true, true, true, true, true, true, true, true, true, true, true, true, true, true, true, true, true, true, true, true, true, true, true, true, true, true, true, true, true, true, true, true, true, false, true, true, true, true, false, false, true, false, false, false, false, false, false, false] rfl rfl (any_of HT_.out (by kernel_rfl)) (fun _ _ _ h => h) (Or.inl ⟨by rfl, ?_⟩) ?_ ?_
                        rotate_left
                        · intro w'
                          go_simp
                          with_reducible rfl
                        rotate_left
                        · simp only [Act.put, List.setIfInBounds_toArray, List.set_cons_zero, List.set_cons_succ, i64_w, i32_w]
                          rfl
                        refine pure_ (i := 66) (N := some 112) (v := ?_) (a' := ?_) #[true, true, true, true, true, true, true, true, true, true, true, true, true, true, true, true, true, true, true, true, true, true, true, true, true, true, true, true, true, true, true, true, true, true, true, true, true, true, true, true, true, true, true, true, true, true, true, true, true, true, true, true, true, true, true, true, true, true, false, true, true, true, true, false, false, true, true, false, false, false, false, false, false] rfl rfl (any_of HT_.out (by kernel_rfl)) (fun _ _ _ h => h) (Or.inl ⟨by rfl, ?_⟩) ?_ ?_
                        rotate_left
                        · intro w'
                          go_simp
                          with_reducible rfl
                        rotate_left
                        · simp only [Act.put, List.setIfInBounds_toArray, List.set_cons_zero, List.set_cons_succ, i64_w, i32_w]
                          rfl
                        refine pure_ (i := 67) (N := some 113) (v := ?_) (a' := ?_) #[true, true, true, true, true, true, true, true, true, true, true, true, true, true, true, true, true, true, true, true, true, true, true, true, true, true, true, true, true, true, true, true, true, true, true, true, true, true, true, true, true, true, true, true, true, true, true, true, true, true, true, true, true, true, true, true, true, true, false, true, true, true, true, false, false, true, true, true, false, false, false, false, false] rfl rfl (any_of HT_.out (by kernel_rfl)) (fun _ _ _ h => h) (Or.inl ⟨by rfl, ?_⟩) ?_ ?_
                        rotate_left
                        · intro w'
                          go_simp
                          with_reducible rfl
                        rotate_left
                        · simp only [Act.put, List.setIfInBounds_toArray, List.set_cons_zero, List.set_cons_succ, i64_w, i32_w]
                          rfl
                        refine pure_ (i := 68) (N := some 114) (v := ?_) (a' := ?_) #[true, true, true, true, true, true, true, true, true, true, true, true, true, true, true, true, true, true, true, true, true, true, true, true, true, true, true, true, true, true, true, true, true, true, true, true, true, true, true, true, true, true, true, true, true, true, true, true, true, true, true, true, true, true, true, true, true, true, false, true, true, true, true, false, false, true, true, true, true, false, false, false, false] rfl rfl (any_of HT_.out (by kernel_rfl)) (fun _ _ _ h => h) (Or.inl ⟨by rfl, ?_⟩) ?_ ?_
                        rotate_left
                        · intro w'
                          go_simp
                          with_reducible rfl
                        rotate_left
                        · simp only [Act.put, List.setIfInBounds_toArray, List.set_cons_zero, List.set_cons_succ, i64_w, i32_w]
                          rfl
                        refine take_ (i := 58) (N := some 104) (v := ?_) (a' := ?_) #[true, true, true, true, true, true, true, true, true, true, true, true, true, true, true, true, true, true, true, true, true, true, true, true, true, true, true, true, true, true, true, true, true, true, true, true, true, true, true, true, true, true, true, true, true, true, true, true, true, true, true, true, true, true, true, true, true, true, true, true, true, true, true, false, false, true, true, true, true, false, false, false, false] rfl rfl (take_ofW HT_.out HW_.out (by kernel_rfl)) (fun _ _ _ h => h) (Or.inl ⟨by rfl, ?_⟩) hHeld ?_ ?_
                        rotate_left
                        · rintro w' ⟨s0, s1, s2, s3, s4, s5, s6, s7⟩
                          go_simp
                          with_reducible rfl
                        rotate_left
                        · simp only [Act.put, List.setIfInBounds_toArray, List.set_cons_zero, List.set_cons_succ, i64_w, i32_w]
                          rfl
                        refine take_ (i := 64) (N := some 110) (v := ?_) (a' := ?_) #[true, true, true, true, true, true, true, true, true, true, true, true, true, true, true, true, true, true, true, true, true, true, true, true, true, true, true, true, true, true, true, true, true, true, true, true, true, true, true, true, true, true, true, true, true, true, true, true, true, true, true, true, true, true, true, true, true, true, true, true, true, true, true, false, true, true, true, true, true, false, false, false, false] rfl rfl (take_ofW HT_.out HW_.out (by kernel_rfl)) (fun _ _ _ h => h) (Or.inl ⟨by rfl, ?_⟩) hHeld ?_ ?_
                        rotate_left
                        · rintro w' ⟨s0, s1, s2, s3, s4, s5, s6, s7⟩
                          go_simp
                          with_reducible rfl
                        rotate_left
                        · simp only [Act.put, List.setIfInBounds_toArray, List.set_cons_zero, List.set_cons_succ, i64_w, i32_w]
                          rfl
                        refine one_ (i := 63) (N := some 109) #[true, true, true, true, true, true, true, true, true, true, true, true, true, true, true, true, true, true, true, true, true, true, true, true, true, true, true, true, true, true, true, true, true, true, true, true, true, true, true, true, true, true, true, true, true, true, true, true, true, true, true, true, true, true, true, true, true, true, true, true, true, true, true, true, true, true, true, true, true, false, false, false, false] rfl rfl (one_of HT_.out (by kernel_rfl)) (by decide) (fun K hK => ?_)
                        refine goes_ Try.func20 (by kernel_rfl) rfl #[.agg #[.int .i64 a0_0, .int .i64 a0_1, .int .i64 a0_2, .int .i64 a0_3], .int .i64 a4, .int .i64 a5, .int .i64 a6, .int .i64 a7] (by rfl) rfl rfl q128_ ?_
                        with_reducible refine (rect_Outset.calls k1 a0_0 a0_1 a0_2 a0_3 a4 a5 a6 a7 t305 t306 t307 t308 _ A45.out).mono ?_
                        rintro e w62 ⟨rfl, hb⟩
                        refine ⟨_, rfl, ?_⟩
                        have n0_ := Aside0.mk (Kd.R_below q172_ hb)
                        have n1_ := Aside0.mk (Kd.R_below q171_ hb)
                        have n2_ := Aside0.mk (blk_below (g := gb269) (o := .cells #[.int .i64 a0_0, .int .i64 a0_1, .int .i64 a0_2, .int .i64 a0_3] 26 (0, 0)) q164_ hb)
                        have n3_ := Aside0.mk (blk_below (g := gb270) (o := .cells #[.int .i64 a1_0, .int .i64 a1_1, .int .i64 a1_2, .int .i64 a1_3] 26 (0, 0)) q165_ hb)
                        have n4_ := Aside0.mk (below_step q98_ hb)
                        clear HO_17
                        clear HO_18
                        clear BK269
                        clear BK270
                        clear HB
                        have HO_17 := n0_
                        have HO_18 := n1_
                        have BK269 := n2_
                        have BK270 := n3_
                        have HB := n4_
                        clear n0_ n1_ n2_ n3_ n4_
                        (try clear hb)
                        (try clear hb2)
                        (try clear hk)
                        (try clear hi)
                        refine hK.out _ _ ⟨(blk_cell BK269.out 0).trans rfl, (blk_cell BK269.out 1).trans rfl, (blk_cell BK269.out 2).trans rfl, (blk_cell BK269.out 3).trans rfl, (blk_cell BK270.out 0).trans rfl, (blk_cell BK270.out 1).trans rfl, (blk_cell BK270.out 2).trans rfl, (blk_cell BK270.out 3).trans rfl⟩ (fun hHeld => ?_)
                        clear hK K
                        refine norm_ (a' := ?_) ?_ ?_
                        rotate_left
                        · show Act.put _ (some 109) _ = _
                          simp only [Act.put, List.setIfInBounds_toArray, List.set_cons_zero, List.set_cons_succ, i64_w, i32_w]
                          rfl
                        refine one_ (i := 69) (N := some 115) #[true, true, true, true, true, true, true, true, true, true, true, true, true, true, true, true, true, true, true, true, true, true, true, true, true, true, true, true, true, true, true, true, true, true, true, true, true, true, true, true, true, true, true, true, true, true, true, true, true, true, true, true, true, true, true, true, true, true, true, true, true, true, true, true, true, true, true, true, true, true, false, false, false] rfl rfl (one_of HT_.out (by kernel_rfl)) (by decide) (fun K hK => ?_)
                        refine goes_ Try.func33 (by kernel_rfl) rfl #[.agg #[.int .i64 a0_0, .int .i64 a0_1, .int .i64 a0_2, .int .i64 a0_3], .int .i64 a4, .int .i64 a5, .int .i64 a6, .int .i64 a7] (by rfl) rfl rfl q128_ ?_
                        with_reducible refine (tilefarmref2_Outset.calls k1 a0_0 a0_1 a0_2 a0_3 a4 a5 a6 a7 t309 t310 t311 t312 _ A46.out).mono ?_
                        rintro e w63 ⟨rfl, hb⟩
                        refine ⟨_, rfl, ?_⟩
                        have n0_ := Aside0.mk (Kd.R_below q172_ hb)
                        have n1_ := Aside0.mk (Kd.R_below q171_ hb)
                        have n2_ := Aside0.mk (blk_below (g := gb269) (o := .cells #[.int .i64 a0_0, .int .i64 a0_1, .int .i64 a0_2, .int .i64 a0_3] 26 (0, 0)) q164_ hb)
                        have n3_ := Aside0.mk (blk_below (g := gb270) (o := .cells #[.int .i64 a1_0, .int .i64 a1_1, .int .i64 a1_2, .int .i64 a1_3] 26 (0, 0)) q165_ hb)
                        have n4_ := Aside0.mk (below_step q98_ hb)
                        clear HO_17
                        clear HO_18
                        clear BK269
                        clear BK270
                        clear HB
                        have HO_17 := n0_
                        have HO_18 := n1_
                        have BK269 := n2_
                        have BK270 := n3_
                        have HB := n4_
                        clear n0_ n1_ n2_ n3_ n4_
                        (try clear hb)
                        (try clear hb2)
                        (try clear hk)
                        (try clear hi)
                        refine hK.out _ _ ⟨(blk_cell BK269.out 0).trans rfl, (blk_cell BK269.out 1).trans rfl, (blk_cell BK269.out 2).trans rfl, (blk_cell BK269.out 3).trans rfl, (blk_cell BK270.out 0).trans rfl, (blk_cell BK270.out 1).trans rfl, (blk_cell BK270.out 2).trans rfl, (blk_cell BK270.out 3).trans rfl⟩ (fun hHeld => ?_)
                        clear hK K
                        refine norm_ (a' := ?_) ?_ ?_
                        rotate_left
                        · show Act.put _ (some 115) _ = _
                          simp only [Act.put, List.setIfInBounds_toArray, List.set_cons_zero, List.set_cons_succ, i64_w, i32_w]
                          rfl
                        refine pure_ (i := 70) (N := some 116) (v := ?_) (a' := ?_) #[true, true, true, true, true, true, true, true, true, true, true, true, true, true, true, true, true, true, true, true, true, true, true, true, true, true, true, true, true, true, true, true, true, true, true, true, true, true, true, true, true, true, true, true, true, true, true, true, true, true, true, true, true, true, true, true, true, true, true, true, true, true, true, true, true, true, true, true, true, true, true, false, false] rfl rfl (any_of HT_.out (by kernel_rfl)) (fun _ _ _ h => h) (Or.inl ⟨by rfl, ?_⟩) ?_ ?_
                        rotate_left
                        · intro w'
                          go_simp
                          with_reducible rfl
                        rotate_left
                        · simp only [Act.put, List.setIfInBounds_toArray, List.set_cons_zero, List.set_cons_succ, i64_w, i32_w]
                          rfl
                        refine pure_ (i := 71) (N := some 117) (v := ?_) (a' := ?_) #[true, true, true, true, true, true, true, true, true, true, true, true, true, true, true, true, true, true, true, true, true, true, true, true, true, true, true, true, true, true, true, true, true, true, true, true, true, true, true, true, true, true, true, true, true, true, true, true, true, true, true, true, true, true, true, true, true, true, true, true, true, true, true, true, true, true, true, true, true, true, true, true, false] rfl rfl (any_of HT_.out (by kernel_rfl)) (fun _ _ _ h => h) (Or.inl ⟨by rfl, ?_⟩) ?_ ?_
                        rotate_left
                        · intro w'
                          go_simp
                          with_reducible rfl
                        rotate_left
                        · simp only [Act.put, List.setIfInBounds_toArray, List.set_cons_zero, List.set_cons_succ, i64_w, i32_w]
                          rfl
                        refine pure_ (i := 72) (N := some 16) (v := ?_) (a' := ?_) #[true, true, true, true, true, true, true, true, true, true, true, true, true, true, true, true, true, true, true, true, true, true, true, true, true, true, true, true, true, true, true, true, true, true, true, true, true, true, true, true, true, true, true, true, true, true, true, true, true, true, true, true, true, true, true, true, true, true, true, true, true, true, true, true, true, true, true, true, true, true, true, true, true] rfl rfl (any_of HT_.out (by kernel_rfl)) (fun _ _ _ h => h) (Or.inl ⟨by rfl, ?_⟩) ?_ ?_
                        rotate_left
                        · intro w'
                          go_simp
                          with_reducible rfl
                        rotate_left
                        · simp only [Act.put, List.setIfInBounds_toArray, List.set_cons_zero, List.set_cons_succ, i64_w, i32_w]
                          rfl
                        refine done_ (done_of HT_.out (by kernel_rfl)) ?_
                        try go_wp2
                        go_ret
                        exact ⟨q177_, q98_⟩
                      · rw [if_neg c44] at H
                        have c44b0 : (t297 == t301 && (t298 == t302 && (t299 == t303 && (t300 == t304)))) = false := by simpa using c44
                        (try (have c44b1 : decide (t297 = t301 && (t298 == t302 && (t299 == t303 && (t300 == t304)))) = false := by simpa using c44))
                        (try (have c44b2 : (t297 == t301 && (t298 == t302 && (t299 == t303 && (t300 == t304)))) = false := by simpa using c44))
                        (try (have c44b3 : ¬ (t297 = t301 && (t298 == t302 && (t299 == t303 && (t300 == t304)))) := by simpa using c44))
                        clear c44
                        exact absurd ((Option.some.inj H).trans HT.out) (by decide)
                    · rw [if_neg c41] at H
                      have c41b0 : (t289 == t293 && (t290 == t294 && (t291 == t295 && (t292 == t296)))) = false := by simpa using c41
                      (try (have c41b1 : decide (t289 = t293 && (t290 == t294 && (t291 == t295 && (t292 == t296)))) = false := by simpa using c41))
                      (try (have c41b2 : (t289 == t293 && (t290 == t294 && (t291 == t295 && (t292 == t296)))) = false := by simpa using c41))
                      (try (have c41b3 : ¬ (t289 = t293 && (t290 == t294 && (t291 == t295 && (t292 == t296)))) := by simpa using c41))
                      clear c41
                      exact absurd ((Option.some.inj H).trans HT.out) (by decide)
                  · rw [if_neg c38] at H
                    have c38b0 : (t287 == t288) = false := by simpa using c38
                    (try (have c38b1 : decide (t287 = t288) = false := by simpa using c38))
                    (try (have c38b2 : (t287 == t288) = false := by simpa using c38))
                    (try (have c38b3 : ¬ (t287 = t288) := by simpa using c38))
                    clear c38
                    exact absurd ((Option.some.inj H).trans HT.out) (by decide)
                · rw [if_neg c35] at H
                  have c35b0 : (t285 == t286) = false := by simpa using c35
                  (try (have c35b1 : decide (t285 = t286) = false := by simpa using c35))
                  (try (have c35b2 : (t285 == t286) = false := by simpa using c35))
                  (try (have c35b3 : ¬ (t285 = t286) := by simpa using c35))
                  clear c35
                  exact absurd ((Option.some.inj H).trans HT.out) (by decide)
              · rw [if_neg c32] at H
                have c32b0 : (t283 == t284) = false := beq_eq_false_iff_ne.mpr c32
                have c32b1 : (t283 != t284) = true := bne_iff_ne.mpr c32
                exact absurd ((Option.some.inj H).trans HT.out) (by decide)
            · rw [if_neg c29] at H
              have c29b0 : (t281 == t282) = false := by simpa using c29
              (try (have c29b1 : decide (t281 = t282) = false := by simpa using c29))
              (try (have c29b2 : (t281 == t282) = false := by simpa using c29))
              (try (have c29b3 : ¬ (t281 = t282) := by simpa using c29))
              clear c29
              exact absurd ((Option.some.inj H).trans HT.out) (by decide)
          · rw [if_neg c26] at H
            have c26b0 : (t279 == t280) = false := by simpa using c26
            (try (have c26b1 : decide (t279 = t280) = false := by simpa using c26))
            (try (have c26b2 : (t279 == t280) = false := by simpa using c26))
            (try (have c26b3 : ¬ (t279 = t280) := by simpa using c26))
            clear c26
            exact absurd ((Option.some.inj H).trans HT.out) (by decide)
  · rw [if_neg c11] at H
    have c11b0 : ((t271.length : Int) == (t274.length : Int)) = false := beq_eq_false_iff_ne.mpr c11
    have c11b1 : ((t271.length : Int) != (t274.length : Int)) = true := bne_iff_ne.mpr c11
    have c11b2 : (t271.length == t274.length) = false := by first | simpa using c11 | (simp at c11 ⊢; omega)
    exact absurd ((Option.some.inj H).trans HT.out) (by decide)

end Go.Proofs.Ytdkmgcckcimhfaa.PRectComputes
