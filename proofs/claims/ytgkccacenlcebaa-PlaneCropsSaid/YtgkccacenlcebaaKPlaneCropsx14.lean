-- Written by a program of the session (wip/tools/pack.py): the printed texts, pruned; checked by Lean.
import Derived.Test.YtgkccacenlcebaaKPlaneCropsa
import Derived.Test.YtgkccacenlcebaaKPlaneCropsx0
import Derived.Test.YtgkccacenlcebaaKPlaneCropsx13
namespace Go.Proofs.Ytgkccacenlcebaa.PPlaneCrops
open Go.RowKit Go.Proofs.YtgkccacenlcebaaW.PrintWords Go.Proofs.YtgkccacenlcebaaW.PrintLast Go.Proofs.YtgkccacenlcebaaW.PrintMore
attribute [local go_sem] max2_int min2_int max_two min_two max_three min_three max_four min_four   -- for this text's walks alone
set_option linter.unusedVariables false
set_option linter.unusedSimpArgs false
mutual
def tilefarmref4_Crop.j0 : Nat → Bool → Int → Int → Int → List Int → Int → Int → Int → Int → Option (Int × Int × Int × List Int × Bool)
 | 0, _, _, _, _, _, _, _, _, _ => none
 | k + 1, x23, x343000, x343001, x343002, x343003, x344000, x344001, x344002, x344003 => if x23 = true then (some (0, 0, 0, ([] : List Int), false)) else ((tilefarmref4_New.f (wrap64 (x344002 - x344000)) (wrap64 (x344003 - x344001)) x343002).bind fun bt352 => (tilefarmref4_Crop.l0 k 0 x343000 x343001 x343002 x343003 x344000 x344001 x344002 x344003 bt352.1 bt352.2.1 bt352.2.2.1 bt352.2.2.2.1))
def tilefarmref4_Crop.l0 : Nat → Int → Int → Int → Int → List Int → Int → Int → Int → Int → Int → Int → Int → List Int → Option (Int × Int × Int × List Int × Bool)
 | 0, _, _, _, _, _, _, _, _, _, _, _, _, _ => none
 | k + 1, x8, x343000, x343001, x343002, x343003, x344000, x344001, x344002, x344003, x360000, x360001, x360002, x360003 => if x8 < x360001 then (tilefarmref4_Crop.l1 k x8 0 x343000 x343001 x343002 x343003 x344000 x344001 x344002 x344003 x360000 x360001 x360002 x360003) else (some (x360000, x360001, x360002, x360003, true))
def tilefarmref4_Crop.l1 : Nat → Int → Int → Int → Int → Int → List Int → Int → Int → Int → Int → Int → Int → Int → List Int → Option (Int × Int × Int × List Int × Bool)
 | 0, _, _, _, _, _, _, _, _, _, _, _, _, _, _ => none
 | k + 1, x8, x9, x343000, x343001, x343002, x343003, x344000, x344001, x344002, x344003, x360000, x360001, x360002, x360003 => if x9 < x360000 then (if 0 ≤ (wrap64 ((wrap64 ((wrap64 ((wrap64 (x8 + x344001)) * x343000)) + x9)) + x344000)) then (if (wrap64 ((wrap64 ((wrap64 ((wrap64 (x8 + x344001)) * x343000)) + x9)) + x344000)) < (x343003.length : Int) then (if 0 ≤ (wrap64 ((wrap64 (x8 * x360000)) + x9)) then (if (wrap64 ((wrap64 (x8 * x360000)) + x9)) < (x360003.length : Int) then (tilefarmref4_Crop.l1 k x8 (wrap64 (x9 + 1)) x343000 x343001 x343002 x343003 x344000 x344001 x344002 x344003 x360000 x360001 x360002 (x360003.set ((wrap64 ((wrap64 (x8 * x360000)) + x9)) : Int).toNat (rd x343003 (wrap64 ((wrap64 ((wrap64 ((wrap64 (x8 + x344001)) * x343000)) + x9)) + x344000))))) else (none)) else (none)) else (none)) else (none)) else (tilefarmref4_Crop.l0 k (wrap64 (x8 + 1)) x343000 x343001 x343002 x343003 x344000 x344001 x344002 x344003 x360000 x360001 x360002 x360003)
end
def tilefarmref4_Crop.f (k : Nat) (a0_0 : Int) (a0_1 : Int) (a0_2 : Int) (l0_3 : List Int) (a1_0 : Int) (a1_1 : Int) (a1_2 : Int) (a1_3 : Int) : Option (Int × Int × Int × List Int × Bool) := (tilefarmref4_Valid.f k a0_0 a0_1 a0_2 l0_3).bind fun t345 => (if t345 = true then ((tilefarmref2_Empty.f a1_0 a1_1 a1_2 a1_3).bind fun t346 => (if t346 = true then (tilefarmref4_Crop.j0 k true a0_0 a0_1 a0_2 l0_3 a1_0 a1_1 a1_2 a1_3) else ((tilefarmref4_Cover.f a0_0 a0_1 a0_2 l0_3).bind fun bt347 => ((tilefarmref2_Inside.f a1_0 a1_1 a1_2 a1_3 bt347.1 bt347.2.1 bt347.2.2.1 bt347.2.2.2).bind fun t351 => (tilefarmref4_Crop.j0 k (!t351) a0_0 a0_1 a0_2 l0_3 a1_0 a1_1 a1_2 a1_3))))) else (tilefarmref4_Crop.j0 k true a0_0 a0_1 a0_2 l0_3 a1_0 a1_1 a1_2 a1_3))
theorem tilefarmref4_Crop.mono_l : ∀ k, (∀ y0 y1 y2 y3 y4 y5 y6 y7 y8, LeO (tilefarmref4_Crop.j0 k y0 y1 y2 y3 y4 y5 y6 y7 y8) (tilefarmref4_Crop.j0 (k + 1) y0 y1 y2 y3 y4 y5 y6 y7 y8)) ∧ (∀ y0 y1 y2 y3 y4 y5 y6 y7 y8 y9 y10 y11 y12, LeO (tilefarmref4_Crop.l0 k y0 y1 y2 y3 y4 y5 y6 y7 y8 y9 y10 y11 y12) (tilefarmref4_Crop.l0 (k + 1) y0 y1 y2 y3 y4 y5 y6 y7 y8 y9 y10 y11 y12)) ∧ (∀ y0 y1 y2 y3 y4 y5 y6 y7 y8 y9 y10 y11 y12 y13, LeO (tilefarmref4_Crop.l1 k y0 y1 y2 y3 y4 y5 y6 y7 y8 y9 y10 y11 y12 y13) (tilefarmref4_Crop.l1 (k + 1) y0 y1 y2 y3 y4 y5 y6 y7 y8 y9 y10 y11 y12 y13))
 | 0 => ⟨fun _ _ _ _ _ _ _ _ _ r h => by simp [tilefarmref4_Crop.j0] at h, fun _ _ _ _ _ _ _ _ _ _ _ _ _ r h => by simp [tilefarmref4_Crop.l0] at h, fun _ _ _ _ _ _ _ _ _ _ _ _ _ _ r h => by simp [tilefarmref4_Crop.l1] at h⟩
 | k + 1 => by
  obtain ⟨ih0, ih1, ih2⟩ := tilefarmref4_Crop.mono_l k; refine ⟨?_, ?_, ?_⟩
  ·intro y0 y1 y2 y3 y4 y5 y6 y7 y8
   unfold tilefarmref4_Crop.j0
   repeat' first
   | (with_reducible exact ih0 _ _ _ _ _ _ _ _ _)
   | (with_reducible exact ih1 _ _ _ _ _ _ _ _ _ _ _ _ _)
   | (with_reducible exact ih2 _ _ _ _ _ _ _ _ _ _ _ _ _ _)
   | (with_reducible exact tilefarmref4_Valid.mono _ _ _ _ _)
   | (with_reducible exact LeO.refl _)
   | (with_reducible exact LeO.none _)
   | (with_reducible refine LeO.ite ?_ ?_)
   | (with_reducible refine LeO.bind ?_ (fun _ => ?_))
   | exact ih0 _ _ _ _ _ _ _ _ _
   | exact ih1 _ _ _ _ _ _ _ _ _ _ _ _ _
   | exact ih2 _ _ _ _ _ _ _ _ _ _ _ _ _ _
   | exact tilefarmref4_Valid.mono _ _ _ _ _
   | exact LeO.none _
   | refine LeO.ite ?_ ?_
   | refine LeO.bind ?_ (fun _ => ?_)
  ·intro y0 y1 y2 y3 y4 y5 y6 y7 y8 y9 y10 y11 y12
   unfold tilefarmref4_Crop.l0
   repeat' first
   | (with_reducible exact ih0 _ _ _ _ _ _ _ _ _)
   | (with_reducible exact ih1 _ _ _ _ _ _ _ _ _ _ _ _ _)
   | (with_reducible exact ih2 _ _ _ _ _ _ _ _ _ _ _ _ _ _)
   | (with_reducible exact tilefarmref4_Valid.mono _ _ _ _ _)
   | (with_reducible exact LeO.refl _)
   | (with_reducible exact LeO.none _)
   | (with_reducible refine LeO.ite ?_ ?_)
   | (with_reducible refine LeO.bind ?_ (fun _ => ?_))
   | exact ih0 _ _ _ _ _ _ _ _ _
   | exact ih1 _ _ _ _ _ _ _ _ _ _ _ _ _
   | exact ih2 _ _ _ _ _ _ _ _ _ _ _ _ _ _
   | exact tilefarmref4_Valid.mono _ _ _ _ _
   | exact LeO.none _
   | refine LeO.ite ?_ ?_
   | refine LeO.bind ?_ (fun _ => ?_)
  ·intro y0 y1 y2 y3 y4 y5 y6 y7 y8 y9 y10 y11 y12 y13
   unfold tilefarmref4_Crop.l1
   repeat' first
   | (with_reducible exact ih0 _ _ _ _ _ _ _ _ _)
   | (with_reducible exact ih1 _ _ _ _ _ _ _ _ _ _ _ _ _)
   | (with_reducible exact ih2 _ _ _ _ _ _ _ _ _ _ _ _ _ _)
   | (with_reducible exact tilefarmref4_Valid.mono _ _ _ _ _)
   | (with_reducible exact LeO.refl _)
   | (with_reducible exact LeO.none _)
   | (with_reducible refine LeO.ite ?_ ?_)
   | (with_reducible refine LeO.bind ?_ (fun _ => ?_))
   | exact ih0 _ _ _ _ _ _ _ _ _
   | exact ih1 _ _ _ _ _ _ _ _ _ _ _ _ _
   | exact ih2 _ _ _ _ _ _ _ _ _ _ _ _ _ _
   | exact tilefarmref4_Valid.mono _ _ _ _ _
   | exact LeO.none _
   | refine LeO.ite ?_ ?_
   | refine LeO.bind ?_ (fun _ => ?_)
theorem tilefarmref4_Crop.mono : ∀ a0 a1 a2 a3 a4 a5 a6 a7 k, LeO (tilefarmref4_Crop.f k a0 a1 a2 a3 a4 a5 a6 a7) (tilefarmref4_Crop.f (k + 1) a0 a1 a2 a3 a4 a5 a6 a7) := by
 intro a0 a1 a2 a3 a4 a5 a6 a7 k; obtain ⟨ih0, ih1, ih2⟩ := tilefarmref4_Crop.mono_l k; unfold tilefarmref4_Crop.f
 repeat' first
   | (with_reducible exact ih0 _ _ _ _ _ _ _ _ _)
   | (with_reducible exact ih1 _ _ _ _ _ _ _ _ _ _ _ _ _)
   | (with_reducible exact ih2 _ _ _ _ _ _ _ _ _ _ _ _ _ _)
   | (with_reducible exact tilefarmref4_Valid.mono _ _ _ _ _)
   | (with_reducible exact LeO.refl _)
   | (with_reducible exact LeO.none _)
   | (with_reducible refine LeO.ite ?_ ?_)
   | (with_reducible refine LeO.bind ?_ (fun _ => ?_))
   | exact ih0 _ _ _ _ _ _ _ _ _
   | exact ih1 _ _ _ _ _ _ _ _ _ _ _ _ _
   | exact ih2 _ _ _ _ _ _ _ _ _ _ _ _ _ _
   | exact tilefarmref4_Valid.mono _ _ _ _ _
   | exact LeO.none _
   | refine LeO.ite ?_ ?_
   | refine LeO.bind ?_ (fun _ => ?_)
def tilefarmref4_Crop.T1 : Bool × List (List Nat × List Nat) := (true, [([], []), ([0], [0]), ([1], [1]), ([2, 1], [2]), ([3], [3]), ([4, 3, 3], [3, 4]), ([3, 5], [3, 5]), ([6, 5], [6]), ([7], [7]), ([7], [7]), ([9, 7, 7], [7, 9]), ([8, 10, 10, 7], [7, 8, 10]), ([11, 7], [7, 11]), ([7, 12], [7, 12])])
def tilefarmref4_Crop.B1 : List Nat := [0, 1, 3, 7, 15, 31, 63, 127, 255, 255, 767, 2047, 4095, 8191]
theorem tilefarmref4_Crop.tab1 : rtab .any (opsOf Try.f29 1) = tilefarmref4_Crop.T1 := by kernel_rfl
theorem tilefarmref4_Crop.bits1 : waitsOk tilefarmref4_Crop.T1.2 tilefarmref4_Crop.B1 = true := by kernel_rfl
def tilefarmref4_Crop.T10 : Bool × List (List Nat × List Nat) := (true, [([], []), ([0], [0]), ([], []), ([], []), ([3], [3]), ([2, 4], [2, 4]), ([], []), ([5, 6], [5, 6]), ([], []), ([8], [8]), ([], []), ([], []), ([11], [11]), ([10, 12], [10, 12]), ([], []), ([14], [14]), ([13, 15], [13, 15]), ([], []), ([16, 17], [16, 17]), ([], []), ([19], [19]), ([18, 20], [18, 20]), ([9, 21], [9, 21]), ([22], [22]), ([1, 7, 0, 1, 2, 3, 4, 5, 6, 7, 8, 9, 10, 11, 12, 13, 14, 15, 16, 17, 18, 19, 20, 21, 22, 23], [1, 7]), ([24, 23, 0, 1, 2, 3, 4, 5, 6, 7, 8, 9, 10, 11, 12, 13, 14, 15, 16, 17, 18, 19, 20, 21, 22, 23], [23, 24])])
def tilefarmref4_Crop.B10 : List Nat := [0, 1, 0, 0, 8, 28, 0, 124, 0, 256, 0, 0, 2048, 7168, 0, 16384, 64512, 0, 261120, 0, 524288, 2096128, 4194048, 8388352, 16777215, 33554431]
theorem tilefarmref4_Crop.tab10 : rtab .any (opsOf Try.f29 10) = tilefarmref4_Crop.T10 := by kernel_rfl
theorem tilefarmref4_Crop.bits10 : waitsOk tilefarmref4_Crop.T10.2 tilefarmref4_Crop.B10 = true := by kernel_rfl
set_option maxHeartbeats 8000000 in
set_option maxRecDepth 100000 in
theorem tilefarmref4_Crop.calls (k : Nat) (a0_0 : Int) (a0_1 : Int) (a0_2 : Int) (A0_3 : Option Addr) (c0_3 : Nat) (l0_3 : List Int) (a1_0 : Int) (a1_1 : Int) (a1_2 : Int) (a1_3 : Int) (r1 : Int) (r2 : Int) (r3 : Int) (r4 : List Int) (r5 : Bool) (w : World) (hr0_3 : Kd.C (Kd.int .i64) w A0_3 l0_3.length l0_3) (hc0_3 : l0_3.length ≤ c0_3) (h : tilefarmref4_Crop.f k a0_0 a0_1 a0_2 l0_3 a1_0 a1_1 a1_2 a1_3 = some (r1, r2, r3, r4, r5)) :
  Calls Try.prog 29 #[.agg #[.int .i64 a0_0, .int .i64 a0_1, .int .i64 a0_2, .slice A0_3 l0_3.length c0_3], .agg #[.int .i64 a1_0, .int .i64 a1_1, .int .i64 a1_2, .int .i64 a1_3]] w fun e w' => ∃ v3_ : Value, e = .returned (.tuple #[.agg #[.int .i64 r1, .int .i64 r2, .int .i64 r3, v3_], .bool r5]) ∧ Kd.R (Kd.int .i64) 3 w' w.heap.size (fun _ => True) v3_ r4 ∧ Below w.heap.size w w' := by
 have hu26 := Try.underlying26; have hu31 := Try.underlying31; have HR0_3 := am_ hr0_3; have HC0_3 := am_ hc0_3; clear hr0_3 hc0_3; have HB := am_ (Below.refl w.heap.size w); have H : ((tilefarmref4_Valid.f k a0_0 a0_1 a0_2 l0_3).bind fun t345 => (if t345 = true then ((tilefarmref2_Empty.f a1_0 a1_1 a1_2 a1_3).bind fun t346 => (if t346 = true then (tilefarmref4_Crop.j0 k true a0_0 a0_1 a0_2 l0_3 a1_0 a1_1 a1_2 a1_3) else ((tilefarmref4_Cover.f a0_0 a0_1 a0_2 l0_3).bind fun bt347 => ((tilefarmref2_Inside.f a1_0 a1_1 a1_2 a1_3 bt347.1 bt347.2.1 bt347.2.2.1 bt347.2.2.2).bind fun t351 => (tilefarmref4_Crop.j0 k (!t351) a0_0 a0_1 a0_2 l0_3 a1_0 a1_1 a1_2 a1_3))))) else (tilefarmref4_Crop.j0 k true a0_0 a0_1 a0_2 l0_3 a1_0 a1_1 a1_2 a1_3))) = some (r1, r2, r3, r4, r5) := h; clear h; have HC3 := am_ H; clear H
 go_enter Try.func29, Try.ntmps29
 go_upto_region 1 with (first | ((with_reducible refine gate_dst (N := 2) rfl ?_); refine box_event ?hg (N := 2) ?hd (cs := #[.int .i64 a0_0, .int .i64 a0_1, .int .i64 a0_2, .slice A0_3 l0_3.length c0_3]) (t := 26) ?hr ?_; (case hd => rfl); (case hg => rfl); (case hr => first | (go_simp; done) | (go_simp; rfl)); intro gb342 hg w4 hbox hb; have n0_ := am_ (below_step q153_ hb); have n1_ := am_ (hbox); have n2_ := am_ ((q123_ : w.heap.size ≤ gb342)); have n3_ := am_ ((q123_ : w.heap.size ≤ gb342)); clear HB; have HB := n0_; have BK342 := n1_; have GW342 := n2_; have GE342 := n3_; clear n0_ n1_ n2_ n3_; clear hb hbox hg) | ((with_reducible refine gate_dst (N := 3) rfl ?_); refine box_event ?hg (N := 3) ?hd (cs := #[.int .i64 a1_0, .int .i64 a1_1, .int .i64 a1_2, .int .i64 a1_3]) (t := 31) ?hr ?_; (case hd => rfl); (case hg => rfl); (case hr => first | (go_simp; done) | (go_simp; rfl)); intro gb343 hg w5 hbox hb; have n0_ := am_ (blk_below (g := gb342) (o := .cells #[.int .i64 a0_0, .int .i64 a0_1, .int .i64 a0_2, .slice A0_3 l0_3.length c0_3] 26 (0, 0)) q189_ hb); have n1_ := am_ (below_step q144_ hb); have n2_ := am_ (hbox); have n3_ := am_ ((by rw [hg]; exact (below_size q144_) : w.heap.size ≤ gb343)); have n4_ := am_ ((by rw [hg]; exact (below_size q144_) : w.heap.size ≤ gb343)); have n5_ := am_ ((q31_ : gb342 ≠ gb343)); have n6_ := am_ ((q32_ : gb343 ≠ gb342)); clear BK342 HB; have BK342 := n0_; have HB := n1_; have BK343 := n2_; have GW343 := n3_; have GE343 := n4_; have NB342_343 := n5_; have NB343_342 := n6_; clear n0_ n1_ n2_ n3_ n4_ n5_ n6_; clear hb hbox hg) | ((with_reducible refine gate_dst (N := 4) rfl ?_); refine box_event ?hg (N := 4) ?hd (cs := #[.int .i64 0, .int .i64 0, .int .i64 0, .slice none 0 0]) (t := 26) ?hr ?_; (case hd => rfl); (case hg => rfl); (case hr => first | (go_simp; done) | (go_simp; rfl)); intro gb344 hg w6 hbox hb; have n0_ := am_ (blk_below (g := gb342) (o := .cells #[.int .i64 a0_0, .int .i64 a0_1, .int .i64 a0_2, .slice A0_3 l0_3.length c0_3] 26 (0, 0)) q189_ hb); have n1_ := am_ (blk_below (g := gb343) (o := .cells #[.int .i64 a1_0, .int .i64 a1_1, .int .i64 a1_2, .int .i64 a1_3] 31 (0, 0)) q190_ hb); have n2_ := am_ (below_step q108_ hb); have n3_ := am_ (hbox); have n4_ := am_ ((by rw [hg]; exact (below_size q108_) : w.heap.size ≤ gb344)); have n5_ := am_ ((by rw [hg]; exact (below_size q108_) : w.heap.size ≤ gb344)); have n6_ := am_ ((q31_ : gb342 ≠ gb344)); have n7_ := am_ ((q32_ : gb344 ≠ gb342)); have n8_ := am_ ((by rw [hg]; exact Nat.ne_of_lt (blk_lt (g := gb343) (o := .cells #[.int .i64 a1_0, .int .i64 a1_1, .int .i64 a1_2, .int .i64 a1_3] 31 (0, 0)) q190_) : gb343 ≠ gb344)); have n9_ := am_ ((by rw [hg]; exact Nat.ne_of_gt (blk_lt (g := gb343) (o := .cells #[.int .i64 a1_0, .int .i64 a1_1, .int .i64 a1_2, .int .i64 a1_3] 31 (0, 0)) q190_) : gb344 ≠ gb343)); clear BK342 BK343 HB; have BK342 := n0_; have BK343 := n1_; have HB := n2_; have BK344 := n3_; have GW344 := n4_; have GE344 := n5_; have NB342_344 := n6_; have NB344_342 := n7_; have NB343_344 := n8_; have NB344_343 := n9_; clear n0_ n1_ n2_ n3_ n4_ n5_ n6_ n7_ n8_ n9_; clear hb hbox hg))
 (try simp only [Act.put, la_, lz_, ls_])
 go_cut [23] (fun v23 wc => ∃ (kq : Nat) (x23_2 : Bool), v23 = .bool x23_2 ∧ Aside0 (tilefarmref4_Crop.j0 kq x23_2 a0_0 a0_1 a0_2 l0_3 a1_0 a1_1 a1_2 a1_3 = some (r1, r2, r3, r4, r5)) ∧ Aside0 (kq ≤ k) ∧ Aside0 (wc.heap[gb342]? = some (.cells #[.int .i64 a0_0, .int .i64 a0_1, .int .i64 a0_2, (.slice A0_3 l0_3.length c0_3)] 26 (0, 0))) ∧ Aside0 (wc.heap[gb343]? = some (.cells #[.int .i64 a1_0, .int .i64 a1_1, .int .i64 a1_2, .int .i64 a1_3] 31 (0, 0))) ∧ Aside0 (wc.heap[gb344]? = some (.cells #[.int .i64 0, .int .i64 0, .int .i64 0, (.slice none 0 0)] 26 (0, 0))) ∧ Aside0 (Below w.heap.size w wc))
 case first =>
  have H := HC3.out; clear HC3; replace H := Option.bind_eq_some_iff.mp H; obtain ⟨t345, A70, H⟩ := H; replace H : (if t345 = true then ((tilefarmref2_Empty.f a1_0 a1_1 a1_2 a1_3).bind fun t346 => (if t346 = true then (tilefarmref4_Crop.j0 k true a0_0 a0_1 a0_2 l0_3 a1_0 a1_1 a1_2 a1_3) else ((tilefarmref4_Cover.f a0_0 a0_1 a0_2 l0_3).bind fun bt347 => ((tilefarmref2_Inside.f a1_0 a1_1 a1_2 a1_3 bt347.1 bt347.2.1 bt347.2.2.1 bt347.2.2.2).bind fun t351 => (tilefarmref4_Crop.j0 k (!t351) a0_0 a0_1 a0_2 l0_3 a1_0 a1_1 a1_2 a1_3))))) else (tilefarmref4_Crop.j0 k true a0_0 a0_1 a0_2 l0_3 a1_0 a1_1 a1_2 a1_3)) = some (r1, r2, r3, r4, r5) := H; have A7 := am_ A70; clear A70
  by_cases c8 : t345 = true
  ·subst c8
   have H1 : ((tilefarmref2_Empty.f a1_0 a1_1 a1_2 a1_3).bind fun t346 => (if t346 = true then (tilefarmref4_Crop.j0 k true a0_0 a0_1 a0_2 l0_3 a1_0 a1_1 a1_2 a1_3) else ((tilefarmref4_Cover.f a0_0 a0_1 a0_2 l0_3).bind fun bt347 => ((tilefarmref2_Inside.f a1_0 a1_1 a1_2 a1_3 bt347.1 bt347.2.1 bt347.2.2.1 bt347.2.2.2).bind fun t351 => (tilefarmref4_Crop.j0 k (!t351) a0_0 a0_1 a0_2 l0_3 a1_0 a1_1 a1_2 a1_3))))) = some (r1, r2, r3, r4, r5) := by rw [if_pos rfl] at H; exact H
   clear H; have H := H1; clear H1; replace H := Option.bind_eq_some_iff.mp H; obtain ⟨t346, A90, H⟩ := H; replace H : (if t346 = true then (tilefarmref4_Crop.j0 k true a0_0 a0_1 a0_2 l0_3 a1_0 a1_1 a1_2 a1_3) else ((tilefarmref4_Cover.f a0_0 a0_1 a0_2 l0_3).bind fun bt347 => ((tilefarmref2_Inside.f a1_0 a1_1 a1_2 a1_3 bt347.1 bt347.2.1 bt347.2.2.1 bt347.2.2.2).bind fun t351 => (tilefarmref4_Crop.j0 k (!t351) a0_0 a0_1 a0_2 l0_3 a1_0 a1_1 a1_2 a1_3)))) = some (r1, r2, r3, r4, r5) := H; have A9 := am_ A90; clear A90
   by_cases c10 : t346 = true
   ·subst c10
    have H1 : (tilefarmref4_Crop.j0 k true a0_0 a0_1 a0_2 l0_3 a1_0 a1_1 a1_2 a1_3) = some (r1, r2, r3, r4, r5) := by rw [if_pos rfl] at H; exact H
    clear H; have H := H1; clear H1; have H' := am_ H; clear H
    try go_wp2
    have n0_ := am_ (blk_drew BK342.out); have n1_ := am_ (blk_drew BK343.out); have n2_ := am_ (blk_drew BK344.out); have n3_ := am_ (below_drew1 HB.out); clear BK342 BK343 BK344 HB; have BK342 := n0_; have BK343 := n1_; have BK344 := n2_; have HB := n3_; clear n0_ n1_ n2_ n3_; refine start_ (n := 14) (S := fun w' => w'.cell? ⟨gb342, 0, none⟩ = some (.int .i64 a0_0) ∧ w'.cell? ⟨gb342, 1, none⟩ = some (.int .i64 a0_1) ∧ w'.cell? ⟨gb342, 2, none⟩ = some (.int .i64 a0_2) ∧ w'.cell? ⟨gb342, 3, none⟩ = some (.slice A0_3 l0_3.length c0_3) ∧ w'.cell? ⟨gb343, 0, none⟩ = some (.int .i64 a1_0) ∧ w'.cell? ⟨gb343, 1, none⟩ = some (.int .i64 a1_1) ∧ w'.cell? ⟨gb343, 2, none⟩ = some (.int .i64 a1_2) ∧ w'.cell? ⟨gb343, 3, none⟩ = some (.int .i64 a1_3)) (ds := []) #[F_, F_, F_, F_, F_, F_, F_, F_, F_, F_, F_, F_, F_, F_] (by kernel_rfl) rfl rfl ⟨bc0_ BK342.out, bc1_ BK342.out, bc2_ BK342.out, bc3_ BK342.out, bc0_ BK343.out, bc1_ BK343.out, bc2_ BK343.out, bc3_ BK343.out⟩ (fun hHeld => ?_); refine with_tabW tilefarmref4_Crop.tab1 tilefarmref4_Crop.bits1 (fun HT_ HW_ => ?_); generalize w6.drew = w11 at BK342 BK343 BK344 HB hHeld ⊢; refine take_ (i := 0) (N := some 10) (v := ?_) (a' := ?_) #[T_, F_, F_, F_, F_, F_, F_, F_, F_, F_, F_, F_, F_, F_] rfl rfl (take_ofW HT_.out HW_.out (by kernel_rfl)) (fun _ _ _ h => h) (Or.inl ⟨by rfl, ?_⟩) hHeld ?_ ?_; rotate_left
    ·rintro w' ⟨s0, s1, s2, s3, s4, s5, s6, s7⟩
     go_simp
     with_reducible rfl
    rotate_left
    ·simp only [Act.put, la_, lz_, ls_, i64_w, i32_w]
     rfl
    refine one_ (i := 1) (N := some 11) #[T_, T_, F_, F_, F_, F_, F_, F_, F_, F_, F_, F_, F_, F_] rfl rfl (one_of HT_.out (by kernel_rfl)) (by decide) (fun K hK => ?_); refine goes_ Try.func16 (by kernel_rfl) rfl #[.agg #[.int .i64 a0_0, .int .i64 a0_1, .int .i64 a0_2, .slice A0_3 l0_3.length c0_3]] (by rfl) rfl rfl q150_ ?_
    with_reducible refine (tilefarmref4_Valid.calls k a0_0 a0_1 a0_2 _ _ l0_3 true _ ?side1 ?side2 A7.out).mono ?_
    (case side1 => repeat (first | exact (Kd.C_below HR0_3.out HB.out) | (with_reducible refine Kd.C_alloc ?_ _) | (with_reducible refine Kd.C_drewN ?_ _) | (with_reducible refine Kd.C_drew ?_))); (case side2 => exact HC0_3.out); rintro e w12 ⟨rfl, hb⟩; refine ⟨_, rfl, ?_⟩; have n0_ := am_ (blk_below (g := gb342) (o := .cells #[.int .i64 a0_0, .int .i64 a0_1, .int .i64 a0_2, .slice A0_3 l0_3.length c0_3] 26 (0, 0)) q189_ hb); have n1_ := am_ (blk_below (g := gb343) (o := .cells #[.int .i64 a1_0, .int .i64 a1_1, .int .i64 a1_2, .int .i64 a1_3] 31 (0, 0)) q190_ hb); have n2_ := am_ (blk_below (g := gb344) (o := .cells #[.int .i64 0, .int .i64 0, .int .i64 0, .slice none 0 0] 26 (0, 0)) q191_ hb); have n3_ := am_ (below_step q78_ hb); clear BK342 BK343 BK344 HB; have BK342 := n0_; have BK343 := n1_; have BK344 := n2_; have HB := n3_; clear n0_ n1_ n2_ n3_; (try clear hb); (try clear hb2); (try clear hk); (try clear hi); refine hK.out _ _ ⟨bc0_ BK342.out, bc1_ BK342.out, bc2_ BK342.out, bc3_ BK342.out, bc0_ BK343.out, bc1_ BK343.out, bc2_ BK343.out, bc3_ BK343.out⟩ (fun hHeld => ?_); clear hK K; refine norm_ (a' := ?_) ?_ ?_; rotate_left
    ·show Act.put _ (some 11) _ = _
     simp only [Act.put, la_, lz_, ls_, i64_w, i32_w]; rfl
    refine pure_ (i := 2) (N := some 12) (v := ?_) (a' := ?_) #[T_, T_, T_, F_, F_, F_, F_, F_, F_, F_, F_, F_, F_, F_] rfl rfl (any_of HT_.out (by kernel_rfl)) (fun _ _ _ h => h) (Or.inl ⟨by rfl, ?_⟩) ?_ ?_; rotate_left
    ·intro w'
     go_simp
     with_reducible rfl
    rotate_left
    ·simp only [Act.put, la_, lz_, ls_, i64_w, i32_w]
     rfl
    refine pure_ (i := 3) (N := some 13) (v := ?_) (a' := ?_) #[T_, T_, T_, T_, F_, F_, F_, F_, F_, F_, F_, F_, F_, F_] rfl rfl (any_of HT_.out (by kernel_rfl)) (fun _ _ _ h => h) (Or.inl ⟨by rfl, ?_⟩) ?_ ?_; rotate_left
    ·intro w'
     go_simp
     with_reducible rfl
    rotate_left
    ·simp only [Act.put, la_, lz_, ls_, i64_w, i32_w]
     rfl
    refine take_ (i := 4) (N := some 14) (v := ?_) (a' := ?_) #[T_, T_, T_, T_, T_, F_, F_, F_, F_, F_, F_, F_, F_, F_] rfl rfl (take_ofW HT_.out HW_.out (by kernel_rfl)) (fun _ _ _ h => h) (Or.inl ⟨by rfl, ?_⟩) hHeld ?_ ?_; rotate_left
    ·rintro w' ⟨s0, s1, s2, s3, s4, s5, s6, s7⟩
     go_simp
     with_reducible rfl
    rotate_left
    ·simp only [Act.put, la_, lz_, ls_, i64_w, i32_w]
     rfl
    refine one_ (i := 5) (N := some 15) #[T_, T_, T_, T_, T_, T_, F_, F_, F_, F_, F_, F_, F_, F_] rfl rfl (one_of HT_.out (by kernel_rfl)) (by decide) (fun K hK => ?_); refine goes_ Try.func47 (by kernel_rfl) rfl #[.agg #[.int .i64 a1_0, .int .i64 a1_1, .int .i64 a1_2, .int .i64 a1_3]] (by rfl) rfl rfl q150_ ?_
    with_reducible refine (tilefarmref2_Empty.calls a1_0 a1_1 a1_2 a1_3 true _ A9.out).mono ?_
    rintro e w13 ⟨rfl, hb⟩; refine ⟨_, rfl, ?_⟩; have n0_ := am_ (blk_below (g := gb342) (o := .cells #[.int .i64 a0_0, .int .i64 a0_1, .int .i64 a0_2, .slice A0_3 l0_3.length c0_3] 26 (0, 0)) q189_ hb); have n1_ := am_ (blk_below (g := gb343) (o := .cells #[.int .i64 a1_0, .int .i64 a1_1, .int .i64 a1_2, .int .i64 a1_3] 31 (0, 0)) q190_ hb); have n2_ := am_ (blk_below (g := gb344) (o := .cells #[.int .i64 0, .int .i64 0, .int .i64 0, .slice none 0 0] 26 (0, 0)) q191_ hb); have n3_ := am_ (below_step q78_ hb); clear BK342 BK343 BK344 HB; have BK342 := n0_; have BK343 := n1_; have BK344 := n2_; have HB := n3_; clear n0_ n1_ n2_ n3_; (try clear hb); (try clear hb2); (try clear hk); (try clear hi); refine hK.out _ _ ⟨bc0_ BK342.out, bc1_ BK342.out, bc2_ BK342.out, bc3_ BK342.out, bc0_ BK343.out, bc1_ BK343.out, bc2_ BK343.out, bc3_ BK343.out⟩ (fun hHeld => ?_); clear hK K; refine norm_ (a' := ?_) ?_ ?_; rotate_left
    ·show Act.put _ (some 15) _ = _
     simp only [Act.put, la_, lz_, ls_, i64_w, i32_w]; rfl
    refine pure_ (i := 6) (N := some 16) (v := ?_) (a' := ?_) #[T_, T_, T_, T_, T_, T_, T_, F_, F_, F_, F_, F_, F_, F_] rfl rfl (any_of HT_.out (by kernel_rfl)) (fun _ _ _ h => h) (Or.inl ⟨by rfl, ?_⟩) ?_ ?_; rotate_left
    ·intro w'
     go_simp
     with_reducible rfl
    rotate_left
    ·simp only [Act.put, la_, lz_, ls_, i64_w, i32_w]
     rfl
    refine pure_ (i := 7) (N := some 17) (v := ?_) (a' := ?_) #[T_, T_, T_, T_, T_, T_, T_, T_, F_, F_, F_, F_, F_, F_] rfl rfl (any_of HT_.out (by kernel_rfl)) (fun _ _ _ h => h) (Or.inl ⟨by rfl, ?_⟩) ?_ ?_; rotate_left
    ·intro w'
     go_simp
     with_reducible rfl
    rotate_left
    ·simp only [Act.put, la_, lz_, ls_, i64_w, i32_w]
     rfl
    refine pure_ (i := 8) (N := some 18) (v := undef) (a' := ?_) #[T_, T_, T_, T_, T_, T_, T_, T_, T_, F_, F_, F_, F_, F_] rfl rfl (any_of HT_.out (by kernel_rfl)) (fun _ _ _ h => h) (Or.inr ⟨by rfl, rfl⟩) ?_ ?_; rotate_left
    ·simp only [Act.put, la_, lz_, ls_, i64_w, i32_w]
     rfl
    refine pure_ (i := 9) (N := some 19) (v := undef) (a' := ?_) #[T_, T_, T_, T_, T_, T_, T_, T_, T_, T_, F_, F_, F_, F_] rfl rfl (any_of HT_.out (by kernel_rfl)) (fun _ _ _ h => h) (Or.inr ⟨by rfl, rfl⟩) ?_ ?_; rotate_left
    ·simp only [Act.put, la_, lz_, ls_, i64_w, i32_w]
     rfl
    refine pure_ (i := 10) (N := some 20) (v := undef) (a' := ?_) #[T_, T_, T_, T_, T_, T_, T_, T_, T_, T_, T_, F_, F_, F_] rfl rfl (any_of HT_.out (by kernel_rfl)) (fun _ _ _ h => h) (Or.inr ⟨by rfl, rfl⟩) ?_ ?_; rotate_left
    ·simp only [Act.put, la_, lz_, ls_, i64_w, i32_w]
     rfl
    refine pure_ (i := 11) (N := some 21) (v := undef) (a' := ?_) #[T_, T_, T_, T_, T_, T_, T_, T_, T_, T_, T_, T_, F_, F_] rfl rfl (any_of HT_.out (by kernel_rfl)) (fun _ _ _ h => h) (Or.inr ⟨by rfl, rfl⟩) ?_ ?_; rotate_left
    ·simp only [Act.put, la_, lz_, ls_, i64_w, i32_w]
     rfl
    refine pure_ (i := 12) (N := some 22) (v := undef) (a' := ?_) #[T_, T_, T_, T_, T_, T_, T_, T_, T_, T_, T_, T_, T_, F_] rfl rfl (any_of HT_.out (by kernel_rfl)) (fun _ _ _ h => h) (Or.inr ⟨by rfl, rfl⟩) ?_ ?_; rotate_left
    ·simp only [Act.put, la_, lz_, ls_, i64_w, i32_w]
     rfl
    refine pure_ (i := 13) (N := some 23) (v := ?_) (a' := ?_) #[T_, T_, T_, T_, T_, T_, T_, T_, T_, T_, T_, T_, T_, T_] rfl rfl (any_of HT_.out (by kernel_rfl)) (fun _ _ _ h => h) (Or.inl ⟨by rfl, ?_⟩) ?_ ?_; rotate_left
    ·intro w'
     go_simp
     with_reducible rfl
    rotate_left
    ·simp only [Act.put, la_, lz_, ls_, i64_w, i32_w]
     rfl
    refine done_ (done_of HT_.out (by kernel_rfl)) ?_
    try go_wp2
    go_meet
    case rel => exact ⟨_, (true), q227_, H', ⟨by first | omega | exact Nat.le_refl _⟩, ⟨q189_⟩, ⟨q190_⟩, ⟨q191_⟩, ⟨q78_⟩⟩
   ·replace c10 := Bool.eq_false_iff.mpr c10
    subst c10; have H1 : ((tilefarmref4_Cover.f a0_0 a0_1 a0_2 l0_3).bind fun bt347 => ((tilefarmref2_Inside.f a1_0 a1_1 a1_2 a1_3 bt347.1 bt347.2.1 bt347.2.2.1 bt347.2.2.2).bind fun t351 => (tilefarmref4_Crop.j0 k (!t351) a0_0 a0_1 a0_2 l0_3 a1_0 a1_1 a1_2 a1_3))) = some (r1, r2, r3, r4, r5) := by rw [if_neg (show ¬ (false = true) by decide)] at H; exact H
    clear H; have H := H1; clear H1; replace H := Option.bind_eq_some_iff.mp H; obtain ⟨⟨t347, t348, t349, t350⟩, A140, H⟩ := H; replace H : ((tilefarmref2_Inside.f a1_0 a1_1 a1_2 a1_3 t347 t348 t349 t350).bind fun t351 => (tilefarmref4_Crop.j0 k (!t351) a0_0 a0_1 a0_2 l0_3 a1_0 a1_1 a1_2 a1_3)) = some (r1, r2, r3, r4, r5) := H; have A14 := am_ A140; clear A140; replace H := Option.bind_eq_some_iff.mp H; obtain ⟨t351, A150, H⟩ := H; replace H : (tilefarmref4_Crop.j0 k (!t351) a0_0 a0_1 a0_2 l0_3 a1_0 a1_1 a1_2 a1_3) = some (r1, r2, r3, r4, r5) := H; have A15 := am_ A150; clear A150; have H' := am_ H; clear H
    try go_wp2
    have n0_ := am_ (blk_drew BK342.out); have n1_ := am_ (blk_drew BK343.out); have n2_ := am_ (blk_drew BK344.out); have n3_ := am_ (below_drew1 HB.out); clear BK342 BK343 BK344 HB; have BK342 := n0_; have BK343 := n1_; have BK344 := n2_; have HB := n3_; clear n0_ n1_ n2_ n3_; refine start_ (n := 14) (S := fun w' => w'.cell? ⟨gb342, 0, none⟩ = some (.int .i64 a0_0) ∧ w'.cell? ⟨gb342, 1, none⟩ = some (.int .i64 a0_1) ∧ w'.cell? ⟨gb342, 2, none⟩ = some (.int .i64 a0_2) ∧ w'.cell? ⟨gb342, 3, none⟩ = some (.slice A0_3 l0_3.length c0_3) ∧ w'.cell? ⟨gb343, 0, none⟩ = some (.int .i64 a1_0) ∧ w'.cell? ⟨gb343, 1, none⟩ = some (.int .i64 a1_1) ∧ w'.cell? ⟨gb343, 2, none⟩ = some (.int .i64 a1_2) ∧ w'.cell? ⟨gb343, 3, none⟩ = some (.int .i64 a1_3)) (ds := []) #[F_, F_, F_, F_, F_, F_, F_, F_, F_, F_, F_, F_, F_, F_] (by kernel_rfl) rfl rfl ⟨bc0_ BK342.out, bc1_ BK342.out, bc2_ BK342.out, bc3_ BK342.out, bc0_ BK343.out, bc1_ BK343.out, bc2_ BK343.out, bc3_ BK343.out⟩ (fun hHeld => ?_); refine with_tabW tilefarmref4_Crop.tab1 tilefarmref4_Crop.bits1 (fun HT_ HW_ => ?_); generalize w6.drew = w16 at BK342 BK343 BK344 HB hHeld ⊢; refine take_ (i := 0) (N := some 10) (v := ?_) (a' := ?_) #[T_, F_, F_, F_, F_, F_, F_, F_, F_, F_, F_, F_, F_, F_] rfl rfl (take_ofW HT_.out HW_.out (by kernel_rfl)) (fun _ _ _ h => h) (Or.inl ⟨by rfl, ?_⟩) hHeld ?_ ?_; rotate_left
    ·rintro w' ⟨s0, s1, s2, s3, s4, s5, s6, s7⟩
     go_simp
     with_reducible rfl
    rotate_left
    ·simp only [Act.put, la_, lz_, ls_, i64_w, i32_w]
     rfl
    refine one_ (i := 1) (N := some 11) #[T_, T_, F_, F_, F_, F_, F_, F_, F_, F_, F_, F_, F_, F_] rfl rfl (one_of HT_.out (by kernel_rfl)) (by decide) (fun K hK => ?_); refine goes_ Try.func16 (by kernel_rfl) rfl #[.agg #[.int .i64 a0_0, .int .i64 a0_1, .int .i64 a0_2, .slice A0_3 l0_3.length c0_3]] (by rfl) rfl rfl q150_ ?_
    with_reducible refine (tilefarmref4_Valid.calls k a0_0 a0_1 a0_2 _ _ l0_3 true _ ?side1 ?side2 A7.out).mono ?_
    (case side1 => repeat (first | exact (Kd.C_below HR0_3.out HB.out) | (with_reducible refine Kd.C_alloc ?_ _) | (with_reducible refine Kd.C_drewN ?_ _) | (with_reducible refine Kd.C_drew ?_))); (case side2 => exact HC0_3.out); rintro e w17 ⟨rfl, hb⟩; refine ⟨_, rfl, ?_⟩; have n0_ := am_ (blk_below (g := gb342) (o := .cells #[.int .i64 a0_0, .int .i64 a0_1, .int .i64 a0_2, .slice A0_3 l0_3.length c0_3] 26 (0, 0)) q189_ hb); have n1_ := am_ (blk_below (g := gb343) (o := .cells #[.int .i64 a1_0, .int .i64 a1_1, .int .i64 a1_2, .int .i64 a1_3] 31 (0, 0)) q190_ hb); have n2_ := am_ (blk_below (g := gb344) (o := .cells #[.int .i64 0, .int .i64 0, .int .i64 0, .slice none 0 0] 26 (0, 0)) q191_ hb); have n3_ := am_ (below_step q78_ hb); clear BK342 BK343 BK344 HB; have BK342 := n0_; have BK343 := n1_; have BK344 := n2_; have HB := n3_; clear n0_ n1_ n2_ n3_; (try clear hb); (try clear hb2); (try clear hk); (try clear hi); refine hK.out _ _ ⟨bc0_ BK342.out, bc1_ BK342.out, bc2_ BK342.out, bc3_ BK342.out, bc0_ BK343.out, bc1_ BK343.out, bc2_ BK343.out, bc3_ BK343.out⟩ (fun hHeld => ?_); clear hK K; refine norm_ (a' := ?_) ?_ ?_; rotate_left
    ·show Act.put _ (some 11) _ = _
     simp only [Act.put, la_, lz_, ls_, i64_w, i32_w]; rfl
    refine pure_ (i := 2) (N := some 12) (v := ?_) (a' := ?_) #[T_, T_, T_, F_, F_, F_, F_, F_, F_, F_, F_, F_, F_, F_] rfl rfl (any_of HT_.out (by kernel_rfl)) (fun _ _ _ h => h) (Or.inl ⟨by rfl, ?_⟩) ?_ ?_; rotate_left
    ·intro w'
     go_simp
     with_reducible rfl
    rotate_left
    ·simp only [Act.put, la_, lz_, ls_, i64_w, i32_w]
     rfl
    refine pure_ (i := 3) (N := some 13) (v := ?_) (a' := ?_) #[T_, T_, T_, T_, F_, F_, F_, F_, F_, F_, F_, F_, F_, F_] rfl rfl (any_of HT_.out (by kernel_rfl)) (fun _ _ _ h => h) (Or.inl ⟨by rfl, ?_⟩) ?_ ?_; rotate_left
    ·intro w'
     go_simp
     with_reducible rfl
    rotate_left
    ·simp only [Act.put, la_, lz_, ls_, i64_w, i32_w]
     rfl
    refine take_ (i := 4) (N := some 14) (v := ?_) (a' := ?_) #[T_, T_, T_, T_, T_, F_, F_, F_, F_, F_, F_, F_, F_, F_] rfl rfl (take_ofW HT_.out HW_.out (by kernel_rfl)) (fun _ _ _ h => h) (Or.inl ⟨by rfl, ?_⟩) hHeld ?_ ?_; rotate_left
    ·rintro w' ⟨s0, s1, s2, s3, s4, s5, s6, s7⟩
     go_simp
     with_reducible rfl
    rotate_left
    ·simp only [Act.put, la_, lz_, ls_, i64_w, i32_w]
     rfl
    refine one_ (i := 5) (N := some 15) #[T_, T_, T_, T_, T_, T_, F_, F_, F_, F_, F_, F_, F_, F_] rfl rfl (one_of HT_.out (by kernel_rfl)) (by decide) (fun K hK => ?_); refine goes_ Try.func47 (by kernel_rfl) rfl #[.agg #[.int .i64 a1_0, .int .i64 a1_1, .int .i64 a1_2, .int .i64 a1_3]] (by rfl) rfl rfl q150_ ?_
    with_reducible refine (tilefarmref2_Empty.calls a1_0 a1_1 a1_2 a1_3 false _ A9.out).mono ?_
    rintro e w18 ⟨rfl, hb⟩; refine ⟨_, rfl, ?_⟩; have n0_ := am_ (blk_below (g := gb342) (o := .cells #[.int .i64 a0_0, .int .i64 a0_1, .int .i64 a0_2, .slice A0_3 l0_3.length c0_3] 26 (0, 0)) q189_ hb); have n1_ := am_ (blk_below (g := gb343) (o := .cells #[.int .i64 a1_0, .int .i64 a1_1, .int .i64 a1_2, .int .i64 a1_3] 31 (0, 0)) q190_ hb); have n2_ := am_ (blk_below (g := gb344) (o := .cells #[.int .i64 0, .int .i64 0, .int .i64 0, .slice none 0 0] 26 (0, 0)) q191_ hb); have n3_ := am_ (below_step q78_ hb); clear BK342 BK343 BK344 HB; have BK342 := n0_; have BK343 := n1_; have BK344 := n2_; have HB := n3_; clear n0_ n1_ n2_ n3_; (try clear hb); (try clear hb2); (try clear hk); (try clear hi); refine hK.out _ _ ⟨bc0_ BK342.out, bc1_ BK342.out, bc2_ BK342.out, bc3_ BK342.out, bc0_ BK343.out, bc1_ BK343.out, bc2_ BK343.out, bc3_ BK343.out⟩ (fun hHeld => ?_); clear hK K; refine norm_ (a' := ?_) ?_ ?_; rotate_left
    ·show Act.put _ (some 15) _ = _
     simp only [Act.put, la_, lz_, ls_, i64_w, i32_w]; rfl
    refine pure_ (i := 6) (N := some 16) (v := ?_) (a' := ?_) #[T_, T_, T_, T_, T_, T_, T_, F_, F_, F_, F_, F_, F_, F_] rfl rfl (any_of HT_.out (by kernel_rfl)) (fun _ _ _ h => h) (Or.inl ⟨by rfl, ?_⟩) ?_ ?_; rotate_left
    ·intro w'
     go_simp
     with_reducible rfl
    rotate_left
    ·simp only [Act.put, la_, lz_, ls_, i64_w, i32_w]
     rfl
    refine pure_ (i := 7) (N := some 17) (v := ?_) (a' := ?_) #[T_, T_, T_, T_, T_, T_, T_, T_, F_, F_, F_, F_, F_, F_] rfl rfl (any_of HT_.out (by kernel_rfl)) (fun _ _ _ h => h) (Or.inl ⟨by rfl, ?_⟩) ?_ ?_; rotate_left
    ·intro w'
     go_simp
     with_reducible rfl
    rotate_left
    ·simp only [Act.put, la_, lz_, ls_, i64_w, i32_w]
     rfl
    refine take_ (i := 8) (N := some 18) (v := ?_) (a' := ?_) #[T_, T_, T_, T_, T_, T_, T_, T_, T_, F_, F_, F_, F_, F_] rfl rfl (take_ofW HT_.out HW_.out (by kernel_rfl)) (fun _ _ _ h => h) (Or.inl ⟨by rfl, ?_⟩) hHeld ?_ ?_; rotate_left
    ·rintro w' ⟨s0, s1, s2, s3, s4, s5, s6, s7⟩
     go_simp
     with_reducible rfl
    rotate_left
    ·simp only [Act.put, la_, lz_, ls_, i64_w, i32_w]
     rfl
    refine take_ (i := 9) (N := some 19) (v := ?_) (a' := ?_) #[T_, T_, T_, T_, T_, T_, T_, T_, T_, T_, F_, F_, F_, F_] rfl rfl (take_ofW HT_.out HW_.out (by kernel_rfl)) (fun _ _ _ h => h) (Or.inl ⟨by rfl, ?_⟩) hHeld ?_ ?_; rotate_left
    ·rintro w' ⟨s0, s1, s2, s3, s4, s5, s6, s7⟩
     go_simp
     with_reducible rfl
    rotate_left
    ·simp only [Act.put, la_, lz_, ls_, i64_w, i32_w]
     rfl
    refine one_ (i := 10) (N := some 20) #[T_, T_, T_, T_, T_, T_, T_, T_, T_, T_, T_, F_, F_, F_] rfl rfl (one_of HT_.out (by kernel_rfl)) (by decide) (fun K hK => ?_); refine goes_ Try.func49 (by kernel_rfl) rfl #[.agg #[.int .i64 a0_0, .int .i64 a0_1, .int .i64 a0_2, .slice A0_3 l0_3.length c0_3]] (by rfl) rfl rfl q150_ ?_
    with_reducible refine (tilefarmref4_Cover.calls a0_0 a0_1 a0_2 _ _ l0_3 t347 t348 t349 t350 _ ?side1 ?side2 A14.out).mono ?_
    (case side1 => repeat (first | exact (Kd.C_below HR0_3.out HB.out) | (with_reducible refine Kd.C_alloc ?_ _) | (with_reducible refine Kd.C_drewN ?_ _) | (with_reducible refine Kd.C_drew ?_))); (case side2 => exact HC0_3.out); rintro e w19 ⟨rfl, hb⟩; refine ⟨_, rfl, ?_⟩; have n0_ := am_ (blk_below (g := gb342) (o := .cells #[.int .i64 a0_0, .int .i64 a0_1, .int .i64 a0_2, .slice A0_3 l0_3.length c0_3] 26 (0, 0)) q189_ hb); have n1_ := am_ (blk_below (g := gb343) (o := .cells #[.int .i64 a1_0, .int .i64 a1_1, .int .i64 a1_2, .int .i64 a1_3] 31 (0, 0)) q190_ hb); have n2_ := am_ (blk_below (g := gb344) (o := .cells #[.int .i64 0, .int .i64 0, .int .i64 0, .slice none 0 0] 26 (0, 0)) q191_ hb); have n3_ := am_ (below_step q78_ hb); clear BK342 BK343 BK344 HB; have BK342 := n0_; have BK343 := n1_; have BK344 := n2_; have HB := n3_; clear n0_ n1_ n2_ n3_; (try clear hb); (try clear hb2); (try clear hk); (try clear hi); refine hK.out _ _ ⟨bc0_ BK342.out, bc1_ BK342.out, bc2_ BK342.out, bc3_ BK342.out, bc0_ BK343.out, bc1_ BK343.out, bc2_ BK343.out, bc3_ BK343.out⟩ (fun hHeld => ?_); clear hK K; refine norm_ (a' := ?_) ?_ ?_; rotate_left
    ·show Act.put _ (some 20) _ = _
     simp only [Act.put, la_, lz_, ls_, i64_w, i32_w]; rfl
    refine one_ (i := 11) (N := some 21) #[T_, T_, T_, T_, T_, T_, T_, T_, T_, T_, T_, T_, F_, F_] rfl rfl (one_of HT_.out (by kernel_rfl)) (by decide) (fun K hK => ?_); refine goes_ Try.func48 (by kernel_rfl) rfl #[.agg #[.int .i64 a1_0, .int .i64 a1_1, .int .i64 a1_2, .int .i64 a1_3], .agg #[.int .i64 t347, .int .i64 t348, .int .i64 t349, .int .i64 t350]] (by rfl) rfl rfl q150_ ?_
    with_reducible refine (tilefarmref2_Inside.calls a1_0 a1_1 a1_2 a1_3 t347 t348 t349 t350 t351 _ A15.out).mono ?_
    rintro e w20 ⟨rfl, hb⟩; refine ⟨_, rfl, ?_⟩; have n0_ := am_ (blk_below (g := gb342) (o := .cells #[.int .i64 a0_0, .int .i64 a0_1, .int .i64 a0_2, .slice A0_3 l0_3.length c0_3] 26 (0, 0)) q189_ hb); have n1_ := am_ (blk_below (g := gb343) (o := .cells #[.int .i64 a1_0, .int .i64 a1_1, .int .i64 a1_2, .int .i64 a1_3] 31 (0, 0)) q190_ hb); have n2_ := am_ (blk_below (g := gb344) (o := .cells #[.int .i64 0, .int .i64 0, .int .i64 0, .slice none 0 0] 26 (0, 0)) q191_ hb); have n3_ := am_ (below_step q78_ hb); clear BK342 BK343 BK344 HB; have BK342 := n0_; have BK343 := n1_; have BK344 := n2_; have HB := n3_; clear n0_ n1_ n2_ n3_; (try clear hb); (try clear hb2); (try clear hk); (try clear hi); refine hK.out _ _ ⟨bc0_ BK342.out, bc1_ BK342.out, bc2_ BK342.out, bc3_ BK342.out, bc0_ BK343.out, bc1_ BK343.out, bc2_ BK343.out, bc3_ BK343.out⟩ (fun hHeld => ?_); clear hK K; refine norm_ (a' := ?_) ?_ ?_; rotate_left
    ·show Act.put _ (some 21) _ = _
     simp only [Act.put, la_, lz_, ls_, i64_w, i32_w]; rfl
    refine pure_ (i := 12) (N := some 22) (v := ?_) (a' := ?_) #[T_, T_, T_, T_, T_, T_, T_, T_, T_, T_, T_, T_, T_, F_] rfl rfl (any_of HT_.out (by kernel_rfl)) (fun _ _ _ h => h) (Or.inl ⟨by rfl, ?_⟩) ?_ ?_; rotate_left
    ·intro w'
     go_simp
     with_reducible rfl
    rotate_left
    ·simp only [Act.put, la_, lz_, ls_, i64_w, i32_w]
     rfl
    refine pure_ (i := 13) (N := some 23) (v := ?_) (a' := ?_) #[T_, T_, T_, T_, T_, T_, T_, T_, T_, T_, T_, T_, T_, T_] rfl rfl (any_of HT_.out (by kernel_rfl)) (fun _ _ _ h => h) (Or.inl ⟨by rfl, ?_⟩) ?_ ?_; rotate_left
    ·intro w'
     go_simp
     with_reducible rfl
    rotate_left
    ·simp only [Act.put, la_, lz_, ls_, i64_w, i32_w]
     rfl
    refine done_ (done_of HT_.out (by kernel_rfl)) ?_
    try go_wp2
    go_meet
    case rel => exact ⟨_, (!t351), q227_, H', ⟨by first | omega | exact Nat.le_refl _⟩, ⟨q189_⟩, ⟨q190_⟩, ⟨q191_⟩, ⟨q78_⟩⟩
  ·replace c8 := Bool.eq_false_iff.mpr c8
   subst c8; have H1 : (tilefarmref4_Crop.j0 k true a0_0 a0_1 a0_2 l0_3 a1_0 a1_1 a1_2 a1_3) = some (r1, r2, r3, r4, r5) := by rw [if_neg (show ¬ (false = true) by decide)] at H; exact H
   clear H; have H := H1; clear H1; have H' := am_ H; clear H
   try go_wp2
   have n0_ := am_ (blk_drew BK342.out); have n1_ := am_ (blk_drew BK343.out); have n2_ := am_ (blk_drew BK344.out); have n3_ := am_ (below_drew1 HB.out); clear BK342 BK343 BK344 HB; have BK342 := n0_; have BK343 := n1_; have BK344 := n2_; have HB := n3_; clear n0_ n1_ n2_ n3_; refine start_ (n := 14) (S := fun w' => w'.cell? ⟨gb342, 0, none⟩ = some (.int .i64 a0_0) ∧ w'.cell? ⟨gb342, 1, none⟩ = some (.int .i64 a0_1) ∧ w'.cell? ⟨gb342, 2, none⟩ = some (.int .i64 a0_2) ∧ w'.cell? ⟨gb342, 3, none⟩ = some (.slice A0_3 l0_3.length c0_3)) (ds := []) #[F_, F_, F_, F_, F_, F_, F_, F_, F_, F_, F_, F_, F_, F_] (by kernel_rfl) rfl rfl ⟨bc0_ BK342.out, bc1_ BK342.out, bc2_ BK342.out, bc3_ BK342.out⟩ (fun hHeld => ?_); refine with_tabW tilefarmref4_Crop.tab1 tilefarmref4_Crop.bits1 (fun HT_ HW_ => ?_); generalize w6.drew = w21 at BK342 BK343 BK344 HB hHeld ⊢; refine take_ (i := 0) (N := some 10) (v := ?_) (a' := ?_) #[T_, F_, F_, F_, F_, F_, F_, F_, F_, F_, F_, F_, F_, F_] rfl rfl (take_ofW HT_.out HW_.out (by kernel_rfl)) (fun _ _ _ h => h) (Or.inl ⟨by rfl, ?_⟩) hHeld ?_ ?_; rotate_left
   ·rintro w' ⟨s0, s1, s2, s3⟩
    go_simp
    with_reducible rfl
   rotate_left
   ·simp only [Act.put, la_, lz_, ls_, i64_w, i32_w]
    rfl
   refine one_ (i := 1) (N := some 11) #[T_, T_, F_, F_, F_, F_, F_, F_, F_, F_, F_, F_, F_, F_] rfl rfl (one_of HT_.out (by kernel_rfl)) (by decide) (fun K hK => ?_); refine goes_ Try.func16 (by kernel_rfl) rfl #[.agg #[.int .i64 a0_0, .int .i64 a0_1, .int .i64 a0_2, .slice A0_3 l0_3.length c0_3]] (by rfl) rfl rfl q150_ ?_
   with_reducible refine (tilefarmref4_Valid.calls k a0_0 a0_1 a0_2 _ _ l0_3 false _ ?side1 ?side2 A7.out).mono ?_
   (case side1 => repeat (first | exact (Kd.C_below HR0_3.out HB.out) | (with_reducible refine Kd.C_alloc ?_ _) | (with_reducible refine Kd.C_drewN ?_ _) | (with_reducible refine Kd.C_drew ?_))); (case side2 => exact HC0_3.out); rintro e w22 ⟨rfl, hb⟩; refine ⟨_, rfl, ?_⟩; have n0_ := am_ (blk_below (g := gb342) (o := .cells #[.int .i64 a0_0, .int .i64 a0_1, .int .i64 a0_2, .slice A0_3 l0_3.length c0_3] 26 (0, 0)) q189_ hb); have n1_ := am_ (blk_below (g := gb343) (o := .cells #[.int .i64 a1_0, .int .i64 a1_1, .int .i64 a1_2, .int .i64 a1_3] 31 (0, 0)) q190_ hb); have n2_ := am_ (blk_below (g := gb344) (o := .cells #[.int .i64 0, .int .i64 0, .int .i64 0, .slice none 0 0] 26 (0, 0)) q191_ hb); have n3_ := am_ (below_step q78_ hb); clear BK342 BK343 BK344 HB; have BK342 := n0_; have BK343 := n1_; have BK344 := n2_; have HB := n3_; clear n0_ n1_ n2_ n3_; (try clear hb); (try clear hb2); (try clear hk); (try clear hi); refine hK.out _ _ ⟨bc0_ BK342.out, bc1_ BK342.out, bc2_ BK342.out, bc3_ BK342.out⟩ (fun hHeld => ?_); clear hK K; refine norm_ (a' := ?_) ?_ ?_; rotate_left
   ·show Act.put _ (some 11) _ = _
    simp only [Act.put, la_, lz_, ls_, i64_w, i32_w]; rfl
   refine pure_ (i := 2) (N := some 12) (v := ?_) (a' := ?_) #[T_, T_, T_, F_, F_, F_, F_, F_, F_, F_, F_, F_, F_, F_] rfl rfl (any_of HT_.out (by kernel_rfl)) (fun _ _ _ h => h) (Or.inl ⟨by rfl, ?_⟩) ?_ ?_; rotate_left
   ·intro w'
    go_simp
    with_reducible rfl
   rotate_left
   ·simp only [Act.put, la_, lz_, ls_, i64_w, i32_w]
    rfl
   refine pure_ (i := 3) (N := some 13) (v := ?_) (a' := ?_) #[T_, T_, T_, T_, F_, F_, F_, F_, F_, F_, F_, F_, F_, F_] rfl rfl (any_of HT_.out (by kernel_rfl)) (fun _ _ _ h => h) (Or.inl ⟨by rfl, ?_⟩) ?_ ?_; rotate_left
   ·intro w'
    go_simp
    with_reducible rfl
   rotate_left
   ·simp only [Act.put, la_, lz_, ls_, i64_w, i32_w]
    rfl
   refine pure_ (i := 4) (N := some 14) (v := undef) (a' := ?_) #[T_, T_, T_, T_, T_, F_, F_, F_, F_, F_, F_, F_, F_, F_] rfl rfl (any_of HT_.out (by kernel_rfl)) (fun _ _ _ h => h) (Or.inr ⟨by rfl, rfl⟩) ?_ ?_; rotate_left
   ·simp only [Act.put, la_, lz_, ls_, i64_w, i32_w]
    rfl
   refine pure_ (i := 5) (N := some 15) (v := undef) (a' := ?_) #[T_, T_, T_, T_, T_, T_, F_, F_, F_, F_, F_, F_, F_, F_] rfl rfl (any_of HT_.out (by kernel_rfl)) (fun _ _ _ h => h) (Or.inr ⟨by rfl, rfl⟩) ?_ ?_; rotate_left
   ·simp only [Act.put, la_, lz_, ls_, i64_w, i32_w]
    rfl
   refine pure_ (i := 6) (N := some 16) (v := ?_) (a' := ?_) #[T_, T_, T_, T_, T_, T_, T_, F_, F_, F_, F_, F_, F_, F_] rfl rfl (any_of HT_.out (by kernel_rfl)) (fun _ _ _ h => h) (Or.inl ⟨by rfl, ?_⟩) ?_ ?_; rotate_left
   ·intro w'
    go_simp
    with_reducible rfl
   rotate_left
   ·simp only [Act.put, la_, lz_, ls_, i64_w, i32_w]
    rfl
   refine pure_ (i := 7) (N := some 17) (v := ?_) (a' := ?_) #[T_, T_, T_, T_, T_, T_, T_, T_, F_, F_, F_, F_, F_, F_] rfl rfl (any_of HT_.out (by kernel_rfl)) (fun _ _ _ h => h) (Or.inl ⟨by rfl, ?_⟩) ?_ ?_; rotate_left
   ·intro w'
    go_simp
    with_reducible rfl
   rotate_left
   ·simp only [Act.put, la_, lz_, ls_, i64_w, i32_w]
    rfl
   refine pure_ (i := 8) (N := some 18) (v := undef) (a' := ?_) #[T_, T_, T_, T_, T_, T_, T_, T_, T_, F_, F_, F_, F_, F_] rfl rfl (any_of HT_.out (by kernel_rfl)) (fun _ _ _ h => h) (Or.inr ⟨by rfl, rfl⟩) ?_ ?_; rotate_left
   ·simp only [Act.put, la_, lz_, ls_, i64_w, i32_w]
    rfl
   refine pure_ (i := 9) (N := some 19) (v := undef) (a' := ?_) #[T_, T_, T_, T_, T_, T_, T_, T_, T_, T_, F_, F_, F_, F_] rfl rfl (any_of HT_.out (by kernel_rfl)) (fun _ _ _ h => h) (Or.inr ⟨by rfl, rfl⟩) ?_ ?_; rotate_left
   ·simp only [Act.put, la_, lz_, ls_, i64_w, i32_w]
    rfl
   refine pure_ (i := 10) (N := some 20) (v := undef) (a' := ?_) #[T_, T_, T_, T_, T_, T_, T_, T_, T_, T_, T_, F_, F_, F_] rfl rfl (any_of HT_.out (by kernel_rfl)) (fun _ _ _ h => h) (Or.inr ⟨by rfl, rfl⟩) ?_ ?_; rotate_left
   ·simp only [Act.put, la_, lz_, ls_, i64_w, i32_w]
    rfl
   refine pure_ (i := 11) (N := some 21) (v := undef) (a' := ?_) #[T_, T_, T_, T_, T_, T_, T_, T_, T_, T_, T_, T_, F_, F_] rfl rfl (any_of HT_.out (by kernel_rfl)) (fun _ _ _ h => h) (Or.inr ⟨by rfl, rfl⟩) ?_ ?_; rotate_left
   ·simp only [Act.put, la_, lz_, ls_, i64_w, i32_w]
    rfl
   refine pure_ (i := 12) (N := some 22) (v := undef) (a' := ?_) #[T_, T_, T_, T_, T_, T_, T_, T_, T_, T_, T_, T_, T_, F_] rfl rfl (any_of HT_.out (by kernel_rfl)) (fun _ _ _ h => h) (Or.inr ⟨by rfl, rfl⟩) ?_ ?_; rotate_left
   ·simp only [Act.put, la_, lz_, ls_, i64_w, i32_w]
    rfl
   refine pure_ (i := 13) (N := some 23) (v := ?_) (a' := ?_) #[T_, T_, T_, T_, T_, T_, T_, T_, T_, T_, T_, T_, T_, T_] rfl rfl (any_of HT_.out (by kernel_rfl)) (fun _ _ _ h => h) (Or.inl ⟨by rfl, ?_⟩) ?_ ?_; rotate_left
   ·intro w'
    go_simp
    with_reducible rfl
   rotate_left
   ·simp only [Act.put, la_, lz_, ls_, i64_w, i32_w]
    rfl
   refine done_ (done_of HT_.out (by kernel_rfl)) ?_
   try go_wp2
   go_meet
   case rel => exact ⟨_, (true), q227_, H', ⟨by first | omega | exact Nat.le_refl _⟩, ⟨q189_⟩, ⟨q190_⟩, ⟨q191_⟩, ⟨q78_⟩⟩
 case rest =>
  clear HC3; (try clear c1); (try clear c2); (try clear p2); (try clear c4); (try clear c8); (try clear c10); (try clear c16); obtain ⟨kq, x23_2, rfl, HA, HJ2, BK342, BK343, BK344, HB⟩ := hcut; cases kq with
  | zero => exact absurd HA.out (by simp [tilefarmref4_Crop.j0])
  | succ kj2 =>
   have H := HA.out; clear HA; simp only [tilefarmref4_Crop.j0] at H
   by_cases c23 : x23_2 = true
   ·subst c23
    have H1 : (some (0, 0, 0, ([] : List Int), false)) = some (r1, r2, r3, r4, r5) := by rw [if_pos rfl] at H; exact H
    clear H; have H := H1; clear H1; simp only [Option.some.injEq, Prod.mk.injEq] at H; obtain ⟨rfl, rfl, rfl, rfl, rfl⟩ := H; have hnb24 := NB344_342.out; have hnc24 := NB342_344.out; have hnb25 := NB344_343.out; have hnc25 := NB343_344.out; have hcz26_0 := bc0_ BK344.out; have hcz26_1 := bc1_ BK344.out; have hcz26_2 := bc2_ BK344.out; have hcz26_3 := bc3_ BK344.out; have hfz26_0 := blk_frozen BK344.out 0; have hfz26_1 := blk_frozen BK344.out 1; have hfz26_2 := blk_frozen BK344.out 2; have hfz26_3 := blk_frozen BK344.out 3
    go_wp2
    refine bodyPost_ret (results_ct rfl _ _ gb344 26 #[.int .i64 0, .int .i64 0, .int .i64 0, .slice none 0 0] (0, 0) _ rfl (by (with_reducible repeat (first | refine blk_drewN ?_ _ | refine blk_drew ?_ | refine blk_alloc ?_ _)); refine blk_put (cs := #[.int .i64 0, .int .i64 0, .int .i64 0, .slice none 0 0]) ?_ 3 _ rfl; (with_reducible repeat (first | refine blk_drewN ?_ _ | refine blk_drew ?_ | refine blk_alloc ?_ _)); refine blk_put (cs := #[.int .i64 0, .int .i64 0, .int .i64 0, .slice none 0 0]) ?_ 2 _ rfl; (with_reducible repeat (first | refine blk_drewN ?_ _ | refine blk_drew ?_ | refine blk_alloc ?_ _)); refine blk_put (cs := #[.int .i64 0, .int .i64 0, .int .i64 0, .slice none 0 0]) ?_ 1 _ rfl; (with_reducible repeat (first | refine blk_drewN ?_ _ | refine blk_drew ?_ | refine blk_alloc ?_ _)); refine blk_put (cs := #[.int .i64 0, .int .i64 0, .int .i64 0, .slice none 0 0]) ?_ 0 _ rfl; (with_reducible repeat (first | refine blk_drewN ?_ _ | refine blk_drew ?_ | refine blk_alloc ?_ _)); exact BK344.out) Try.underlying26 rfl (by kernel_rfl)) rfl ?_; exact ⟨_, q224_, q149_, q78_⟩
   ·replace c23 := Bool.eq_false_iff.mpr c23
    subst c23; have H1 : ((tilefarmref4_New.f (wrap64 (a1_2 - a1_0)) (wrap64 (a1_3 - a1_1)) a0_2).bind fun bt352 => (tilefarmref4_Crop.l0 kj2 0 a0_0 a0_1 a0_2 l0_3 a1_0 a1_1 a1_2 a1_3 bt352.1 bt352.2.1 bt352.2.2.1 bt352.2.2.2.1)) = some (r1, r2, r3, r4, r5) := by rw [if_neg (show ¬ (false = true) by decide)] at H; exact H
    clear H; have H := H1; clear H1; replace H := Option.bind_eq_some_iff.mp H; obtain ⟨⟨t352, t353, t354, t355, t358⟩, A270, H⟩ := H; replace H : (tilefarmref4_Crop.l0 kj2 0 a0_0 a0_1 a0_2 l0_3 a1_0 a1_1 a1_2 a1_3 t352 t353 t354 t355) = some (r1, r2, r3, r4, r5) := H; have A27 := am_ A270; clear A270; have H' := am_ H; clear H; have hnb28 := NB343_342.out; have hnc28 := NB342_343.out; have hnb29 := NB343_344.out; have hnc29 := NB344_343.out; have hcz30_0 := bc0_ BK343.out; have hcz30_1 := bc1_ BK343.out; have hcz30_2 := bc2_ BK343.out; have hcz30_3 := bc3_ BK343.out; have hfz30_0 := blk_frozen BK343.out 0; have hfz30_1 := blk_frozen BK343.out 1; have hfz30_2 := blk_frozen BK343.out 2; have hfz30_3 := blk_frozen BK343.out 3; have hnb31 := NB342_344.out; have hnc31 := NB344_342.out; have hcz32_0 := bc0_ BK342.out; have hcz32_1 := bc1_ BK342.out; have hcz32_2 := bc2_ BK342.out; have hcz32_3 := bc3_ BK342.out; have hfz32_0 := blk_frozen BK342.out 0; have hfz32_1 := blk_frozen BK342.out 1; have hfz32_2 := blk_frozen BK342.out 2; have hfz32_3 := blk_frozen BK342.out 3
    go_wp2_with (first | ((with_reducible refine gate_callee (f := 24) rfl ?_); refine goesL_ (some 38) rfl rfl Try.func24 (by kernel_rfl) rfl #[.int .i64 (wrap64 (a1_2 - a1_0)), .int .i64 (wrap64 (a1_3 - a1_1)), .int .i64 a0_2] rfl q150_ ?_; (with_reducible refine (tilefarmref4_New.calls (wrap64 (a1_2 - a1_0)) (wrap64 (a1_3 - a1_1)) a0_2 t352 t353 t354 t355 t358 _ A27.out).mono ?_); rintro e w33 ⟨v356, rfl, ho0, hb⟩; refine ⟨_, rfl, ?_⟩; have n0_ := am_ (Kd.R_lower ho0 (below_size q78_)); have n1_ := am_ (blk_below (g := gb342) (o := .cells #[.int .i64 a0_0, .int .i64 a0_1, .int .i64 a0_2, .slice A0_3 l0_3.length c0_3] 26 (0, 0)) q189_ hb); have n2_ := am_ (blk_below (g := gb343) (o := .cells #[.int .i64 a1_0, .int .i64 a1_1, .int .i64 a1_2, .int .i64 a1_3] 31 (0, 0)) q190_ hb); have n3_ := am_ (blk_below (g := gb344) (o := .cells #[.int .i64 0, .int .i64 0, .int .i64 0, .slice none 0 0] 26 (0, 0)) q191_ hb); have n4_ := am_ (below_step q78_ hb); clear BK342 BK343 BK344 HB; have HO357 := n0_; have BK342 := n1_; have BK343 := n2_; have BK344 := n3_; have HB := n4_; clear n0_ n1_ n2_ n3_ n4_; (try clear hb); (try clear hb2); (try clear hk); (try clear hi); (try clear ho0)) | ((with_reducible refine gate_dst (N := 6) rfl ?_); refine box_event ?hg (N := 6) ?hd (cs := #[.int .i64 0, .int .i64 0, .int .i64 0, .slice none 0 0]) (t := 26) ?hr ?_; (case hd => rfl); (case hg => rfl); (case hr => first | (go_simp; done) | (go_simp; rfl)); intro gb359 hg w34 hbox hb; have n0_ := am_ (Kd.R_below (by (with_reducible repeat (first | apply Kd.R_alloc | apply Kd.R_drewN | apply Kd.R_drew)); exact HO357.out) hb); have n1_ := am_ (blk_below (g := gb342) (o := .cells #[.int .i64 a0_0, .int .i64 a0_1, .int .i64 a0_2, .slice A0_3 l0_3.length c0_3] 26 (0, 0)) q189_ hb); have n2_ := am_ (blk_below (g := gb343) (o := .cells #[.int .i64 a1_0, .int .i64 a1_1, .int .i64 a1_2, .int .i64 a1_3] 31 (0, 0)) q190_ hb); have n3_ := am_ (blk_below (g := gb344) (o := .cells #[.int .i64 0, .int .i64 0, .int .i64 0, .slice none 0 0] 26 (0, 0)) q191_ hb); have n4_ := am_ (below_step q78_ hb); have n5_ := am_ (hbox); have n6_ := am_ ((by rw [hg]; exact (below_size q78_) : w.heap.size ≤ gb359)); have n7_ := am_ ((by rw [hg]; exact (below_size q78_) : w.heap.size ≤ gb359)); have n8_ := am_ ((q31_ : gb342 ≠ gb359)); have n9_ := am_ ((q32_ : gb359 ≠ gb342)); have n10_ := am_ ((by rw [hg]; exact Nat.ne_of_lt (blk_lt (g := gb343) (o := .cells #[.int .i64 a1_0, .int .i64 a1_1, .int .i64 a1_2, .int .i64 a1_3] 31 (0, 0)) q190_) : gb343 ≠ gb359)); have n11_ := am_ ((by rw [hg]; exact Nat.ne_of_gt (blk_lt (g := gb343) (o := .cells #[.int .i64 a1_0, .int .i64 a1_1, .int .i64 a1_2, .int .i64 a1_3] 31 (0, 0)) q190_) : gb359 ≠ gb343)); have n12_ := am_ ((by rw [hg]; exact Nat.ne_of_lt (blk_lt (g := gb344) (o := .cells #[.int .i64 0, .int .i64 0, .int .i64 0, .slice none 0 0] 26 (0, 0)) q191_) : gb344 ≠ gb359)); have n13_ := am_ ((by rw [hg]; exact Nat.ne_of_gt (blk_lt (g := gb344) (o := .cells #[.int .i64 0, .int .i64 0, .int .i64 0, .slice none 0 0] 26 (0, 0)) q191_) : gb359 ≠ gb344)); clear HO357 BK342 BK343 BK344 HB; have HO357 := n0_; have BK342 := n1_; have BK343 := n2_; have BK344 := n3_; have HB := n4_; have BK359 := n5_; have GW359 := n6_; have GE359 := n7_; have NB342_359 := n8_; have NB359_342 := n9_; have NB343_359 := n10_; have NB359_343 := n11_; have NB344_359 := n12_; have NB359_344 := n13_; clear n0_ n1_ n2_ n3_ n4_ n5_ n6_ n7_ n8_ n9_ n10_ n11_ n12_ n13_; clear hb hbox hg; have hnb35 := NB359_342.out; have hnc35 := NB342_359.out; have hnb36 := NB359_343.out; have hnc36 := NB343_359.out; have hnb37 := NB359_344.out; have hnc37 := NB344_359.out; have hcz38_0 := bc0_ BK359.out; have hcz38_1 := bc1_ BK359.out; have hcz38_2 := bc2_ BK359.out; have hcz38_3 := bc3_ BK359.out; have hfz38_0 := blk_frozen BK359.out 0; have hfz38_1 := blk_frozen BK359.out 1; have hfz38_2 := blk_frozen BK359.out 2; have hfz38_3 := blk_frozen BK359.out 3; obtain ⟨Ao39, co39, eo39⟩ := Kd.R_slice HO357.out; subst eo39))
    go_loopg [8] kj2 (fun kq v8 w' => ∃ (x8_2 : Int) (x360003_2 : List Int) (u360003 : Value), v8 = .int .i64 x8_2 ∧ Aside0 (tilefarmref4_Crop.l0 kq x8_2 a0_0 a0_1 a0_2 l0_3 a1_0 a1_1 a1_2 a1_3 t352 t353 t354 x360003_2 = some (r1, r2, r3, r4, r5)) ∧ Aside0 (kq ≤ kj2) ∧ Aside0 (Kd.R (Kd.int .i64) 3 w' w.heap.size (fun _ => True) u360003 x360003_2) ∧ Aside0 (w'.heap[gb342]? = some (.cells #[.int .i64 a0_0, .int .i64 a0_1, .int .i64 a0_2, (.slice A0_3 l0_3.length c0_3)] 26 (0, 0))) ∧ Aside0 (w'.heap[gb343]? = some (.cells #[.int .i64 a1_0, .int .i64 a1_1, .int .i64 a1_2, .int .i64 a1_3] 31 (0, 0))) ∧ Aside0 (w'.heap[gb344]? = some (.cells #[.int .i64 0, .int .i64 0, .int .i64 0, (.slice none 0 0)] 26 (0, 0))) ∧ Aside0 (w'.heap[gb359]? = some (.cells #[.int .i64 t352, .int .i64 t353, .int .i64 t354, u360003] 26 (0, 0))) ∧ Aside0 (Below w.heap.size w w'))
    case atStart => exact ⟨(0), (t355), (.slice Ao39 t355.length co39), q227_, H', ⟨Nat.le_refl _⟩, ⟨by (with_reducible repeat (first | apply Kd.R_alloc | apply Kd.R_drewN | apply Kd.R_drew)); exact Kd.R_mono (Kd.R_far (p := ⟨gb359, 3, none⟩) (Kd.R_far (p := ⟨gb359, 2, none⟩) (Kd.R_far (p := ⟨gb359, 1, none⟩) (Kd.R_far (p := ⟨gb359, 0, none⟩) (Kd.R_types HO357.out BK359.out (by decide)) (fun _ hk => hk.2) (.int .i64 t352)) (fun _ hk => hk.2) (.int .i64 t353)) (fun _ hk => hk.2) (.int .i64 t354)) (fun _ hk => hk.2) (.slice Ao39 t355.length co39)) (fun _ hk => trivial)⟩, ⟨by (with_reducible repeat (first | refine blk_drewN ?_ _ | refine blk_drew ?_ | refine blk_alloc ?_ _)); refine blk_far ?_ NB342_359.out _; (with_reducible repeat (first | refine blk_drewN ?_ _ | refine blk_drew ?_ | refine blk_alloc ?_ _)); refine blk_far ?_ NB342_359.out _; (with_reducible repeat (first | refine blk_drewN ?_ _ | refine blk_drew ?_ | refine blk_alloc ?_ _)); refine blk_far ?_ NB342_359.out _; (with_reducible repeat (first | refine blk_drewN ?_ _ | refine blk_drew ?_ | refine blk_alloc ?_ _)); refine blk_far ?_ NB342_359.out _; (with_reducible repeat (first | refine blk_drewN ?_ _ | refine blk_drew ?_ | refine blk_alloc ?_ _)); exact BK342.out⟩, ⟨by (with_reducible repeat (first | refine blk_drewN ?_ _ | refine blk_drew ?_ | refine blk_alloc ?_ _)); refine blk_far ?_ NB343_359.out _; (with_reducible repeat (first | refine blk_drewN ?_ _ | refine blk_drew ?_ | refine blk_alloc ?_ _)); refine blk_far ?_ NB343_359.out _; (with_reducible repeat (first | refine blk_drewN ?_ _ | refine blk_drew ?_ | refine blk_alloc ?_ _)); refine blk_far ?_ NB343_359.out _; (with_reducible repeat (first | refine blk_drewN ?_ _ | refine blk_drew ?_ | refine blk_alloc ?_ _)); refine blk_far ?_ NB343_359.out _; (with_reducible repeat (first | refine blk_drewN ?_ _ | refine blk_drew ?_ | refine blk_alloc ?_ _)); exact BK343.out⟩, ⟨by (with_reducible repeat (first | refine blk_drewN ?_ _ | refine blk_drew ?_ | refine blk_alloc ?_ _)); refine blk_far ?_ NB344_359.out _; (with_reducible repeat (first | refine blk_drewN ?_ _ | refine blk_drew ?_ | refine blk_alloc ?_ _)); refine blk_far ?_ NB344_359.out _; (with_reducible repeat (first | refine blk_drewN ?_ _ | refine blk_drew ?_ | refine blk_alloc ?_ _)); refine blk_far ?_ NB344_359.out _; (with_reducible repeat (first | refine blk_drewN ?_ _ | refine blk_drew ?_ | refine blk_alloc ?_ _)); refine blk_far ?_ NB344_359.out _; (with_reducible repeat (first | refine blk_drewN ?_ _ | refine blk_drew ?_ | refine blk_alloc ?_ _)); exact BK344.out⟩, ⟨by (with_reducible repeat (first | refine blk_drewN ?_ _ | refine blk_drew ?_ | refine blk_alloc ?_ _)); refine blk_put (cs := #[.int .i64 t352, .int .i64 t353, .int .i64 t354, .slice none 0 0]) ?_ 3 _ rfl; (with_reducible repeat (first | refine blk_drewN ?_ _ | refine blk_drew ?_ | refine blk_alloc ?_ _)); refine blk_put (cs := #[.int .i64 t352, .int .i64 t353, .int .i64 0, .slice none 0 0]) ?_ 2 _ rfl; (with_reducible repeat (first | refine blk_drewN ?_ _ | refine blk_drew ?_ | refine blk_alloc ?_ _)); refine blk_put (cs := #[.int .i64 t352, .int .i64 0, .int .i64 0, .slice none 0 0]) ?_ 1 _ rfl; (with_reducible repeat (first | refine blk_drewN ?_ _ | refine blk_drew ?_ | refine blk_alloc ?_ _)); refine blk_put (cs := #[.int .i64 0, .int .i64 0, .int .i64 0, .slice none 0 0]) ?_ 0 _ rfl; (with_reducible repeat (first | refine blk_drewN ?_ _ | refine blk_drew ?_ | refine blk_alloc ?_ _)); exact BK359.out⟩, ⟨q60_⟩⟩
    case round =>
     clear H'; (try clear c1); (try clear c2); (try clear p2); (try clear c3); (try clear c4); (try clear p6); (try clear c8); (try clear c10); (try clear c16); (try clear c23); (try clear c24); (try clear c25); (try clear c28); (try clear c29); (try clear c31); (try clear c35); (try clear c36); (try clear c37); (try clear hcz26_0 hcz26_1 hcz26_2 hcz26_3); (try clear hcz30_0 hcz30_1 hcz30_2 hcz30_3); (try clear hcz32_0 hcz32_1 hcz32_2 hcz32_3); (try clear hcz38_0 hcz38_1 hcz38_2 hcz38_3); (try clear hfz26_0 hfz26_1 hfz26_2 hfz26_3); (try clear hfz30_0 hfz30_1 hfz30_2 hfz30_3); (try clear hfz32_0 hfz32_1 hfz32_2 hfz32_3); (try clear hfz38_0 hfz38_1 hfz38_2 hfz38_3); (try clear p2); obtain ⟨x8_2, x360003_2, u360003, rfl, HA, HK2, HO_360003, BK342, BK343, BK344, BK359, HB⟩ := hrel; cases gk with
     | zero => exact absurd HA.out (by simp [tilefarmref4_Crop.l0])
     | succ k2 =>
      have H := HA.out; clear HA; simp only [tilefarmref4_Crop.l0] at H
      by_cases c40 : x8_2 < t353
      ·rw [if_pos c40] at H
       have c40b0 : decide (x8_2 < t353) = true := decide_eq_true c40; clear c40; have H' := am_ H; clear H; have hnb41 := NB359_342.out; have hnc41 := NB342_359.out; have hnb42 := NB359_343.out; have hnc42 := NB343_359.out; have hnb43 := NB359_344.out; have hnc43 := NB344_359.out; have hcz44_0 := bc0_ BK359.out; have hcz44_1 := bc1_ BK359.out; have hcz44_2 := bc2_ BK359.out; have hcz44_3 := bc3_ BK359.out; have hfz44_0 := blk_frozen BK359.out 0; have hfz44_1 := blk_frozen BK359.out 1; have hfz44_2 := blk_frozen BK359.out 2; have hfz44_3 := blk_frozen BK359.out 3
       go_wp2
       go_loopg [9] k2 (fun kq v9 w' => ∃ (x9_3 : Int) (x360003_3 : List Int) (u360003 : Value), v9 = .int .i64 x9_3 ∧ Aside0 (tilefarmref4_Crop.l1 kq x8_2 x9_3 a0_0 a0_1 a0_2 l0_3 a1_0 a1_1 a1_2 a1_3 t352 t353 t354 x360003_3 = some (r1, r2, r3, r4, r5)) ∧ Aside0 (kq ≤ k2) ∧ Aside0 (Kd.R (Kd.int .i64) 3 w' w.heap.size (fun _ => True) u360003 x360003_3) ∧ Aside0 (w'.heap[gb342]? = some (.cells #[.int .i64 a0_0, .int .i64 a0_1, .int .i64 a0_2, (.slice A0_3 l0_3.length c0_3)] 26 (0, 0))) ∧ Aside0 (w'.heap[gb343]? = some (.cells #[.int .i64 a1_0, .int .i64 a1_1, .int .i64 a1_2, .int .i64 a1_3] 31 (0, 0))) ∧ Aside0 (w'.heap[gb344]? = some (.cells #[.int .i64 0, .int .i64 0, .int .i64 0, (.slice none 0 0)] 26 (0, 0))) ∧ Aside0 (w'.heap[gb359]? = some (.cells #[.int .i64 t352, .int .i64 t353, .int .i64 t354, u360003] 26 (0, 0))) ∧ Aside0 (Below w.heap.size w w'))
       case atStart => exact ⟨(0), (x360003_2), (u360003), q227_, H', ⟨Nat.le_refl _⟩, ⟨by (with_reducible repeat (first | apply Kd.R_alloc | apply Kd.R_drewN | apply Kd.R_drew)); exact HO_360003.out⟩, ⟨q189_⟩, ⟨q190_⟩, ⟨q191_⟩, ⟨by (with_reducible repeat (first | refine blk_drewN ?_ _ | refine blk_drew ?_ | refine blk_alloc ?_ _)); exact BK359.out⟩, ⟨q60_⟩⟩
       case round =>
        clear H'; (try clear c1); (try clear c2); (try clear p2); (try clear c3); (try clear c4); (try clear p6); (try clear c8); (try clear c10); (try clear c16); (try clear c23); (try clear c24); (try clear c25); (try clear c28); (try clear c29); (try clear c31); (try clear c35); (try clear c36); (try clear c37); (try clear c40); (try clear c40b0); (try clear c41); (try clear c42); (try clear c43); (try clear hcz26_0 hcz26_1 hcz26_2 hcz26_3); (try clear hcz30_0 hcz30_1 hcz30_2 hcz30_3); (try clear hcz32_0 hcz32_1 hcz32_2 hcz32_3); (try clear hcz38_0 hcz38_1 hcz38_2 hcz38_3); (try clear hcz44_0 hcz44_1 hcz44_2 hcz44_3); (try clear hfz26_0 hfz26_1 hfz26_2 hfz26_3); (try clear hfz30_0 hfz30_1 hfz30_2 hfz30_3); (try clear hfz32_0 hfz32_1 hfz32_2 hfz32_3); (try clear hfz38_0 hfz38_1 hfz38_2 hfz38_3); (try clear hfz44_0 hfz44_1 hfz44_2 hfz44_3); (try clear p2); (try clear p6); obtain ⟨x9_3, x360003_3, u360003, rfl, HA, HK3, HO_360003, BK342, BK343, BK344, BK359, HB⟩ := hrel; cases gk with
        | zero => exact absurd HA.out (by simp [tilefarmref4_Crop.l1])
        | succ k3 =>
         have H := HA.out; clear HA; simp only [tilefarmref4_Crop.l1] at H
         by_cases c45 : x9_3 < t352
         ·rw [if_pos c45] at H
          have c45b0 : decide (x9_3 < t352) = true := decide_eq_true c45; clear c45; obtain ⟨ji46, hji46⟩ : ∃ j_ : Int, (wrap64 ((wrap64 ((wrap64 ((wrap64 (x8_2 + a1_1)) * a0_0)) + x9_3)) + a1_0)) = j_ := ⟨_, rfl⟩; replace H : (if 0 ≤ (ji46) then (if (ji46) < (l0_3.length : Int) then (if 0 ≤ (wrap64 ((wrap64 (x8_2 * t352)) + x9_3)) then (if (wrap64 ((wrap64 (x8_2 * t352)) + x9_3)) < (x360003_3.length : Int) then (tilefarmref4_Crop.l1 k3 x8_2 (wrap64 (x9_3 + 1)) a0_0 a0_1 a0_2 l0_3 a1_0 a1_1 a1_2 a1_3 t352 t353 t354 (x360003_3.set ((wrap64 ((wrap64 (x8_2 * t352)) + x9_3)) : Int).toNat (rd l0_3 (ji46)))) else (none)) else (none)) else (none)) else (none)) = some (r1, r2, r3, r4, r5) := by first | (rw [hji46] at H; exact H) | (simp only [hji46] at H ⊢; exact H)
          have hji46w : (IntKind.i64.wrap ((wrap64 ((wrap64 ((wrap64 (x8_2 + a1_1)) * a0_0)) + x9_3)) + a1_0)) = ji46 := (i64_w _).trans hji46
          by_cases c47 : 0 ≤ (ji46)
          ·rw [if_pos c47] at H
           have c47b0 : decide (0 ≤ (ji46)) = true := decide_eq_true c47; clear c47
           by_cases c48 : (ji46) < (l0_3.length : Int)
           ·rw [if_pos c48] at H
            have c48b0 : decide ((ji46) < (l0_3.length : Int)) = true := decide_eq_true c48; clear c48; obtain ⟨ji49, hji49⟩ : ∃ j_ : Int, (wrap64 ((wrap64 (x8_2 * t352)) + x9_3)) = j_ := ⟨_, rfl⟩; replace H : (if 0 ≤ (ji49) then (if (ji49) < (x360003_3.length : Int) then (tilefarmref4_Crop.l1 k3 x8_2 (wrap64 (x9_3 + 1)) a0_0 a0_1 a0_2 l0_3 a1_0 a1_1 a1_2 a1_3 t352 t353 t354 (x360003_3.set ((ji49) : Int).toNat (rd l0_3 (ji46)))) else (none)) else (none)) = some (r1, r2, r3, r4, r5) := by first | (rw [hji49] at H; exact H) | (simp only [hji49] at H ⊢; exact H)
            have hji49w : (IntKind.i64.wrap ((wrap64 (x8_2 * t352)) + x9_3)) = ji49 := (i64_w _).trans hji49
            by_cases c50 : 0 ≤ (ji49)
            ·rw [if_pos c50] at H
             have c50b0 : decide (0 ≤ (ji49)) = true := decide_eq_true c50; clear c50
             by_cases c51 : (ji49) < (x360003_3.length : Int)
             ·rw [if_pos c51] at H
              have c51b0 : decide ((ji49) < (x360003_3.length : Int)) = true := decide_eq_true c51; clear c51; obtain ⟨y361, hy361⟩ : ∃ y_ : List Int, y_ = (x360003_3.set ((ji49) : Int).toNat (rd l0_3 (ji46))) := ⟨_, rfl⟩; replace H : (tilefarmref4_Crop.l1 k3 x8_2 (wrap64 (x9_3 + 1)) a0_0 a0_1 a0_2 l0_3 a1_0 a1_1 a1_2 a1_3 t352 t353 t354 y361) = some (r1, r2, r3, r4, r5) := by first | (rw [hy361]; with_reducible exact H) | (have H2_ := (Option.bind_some _ _).symm.trans H; rw [hy361]; with_reducible exact H2_) | (have H2_ := (Option.bind_some _ _).symm.trans H; with_reducible exact H2_) | with_reducible exact H | (rw [hy361]; exact H) | exact H
              have Ny361 := am_ hy361; clear hy361; have H' := am_ H; clear H; have hnb53 := NB359_342.out; have hnc53 := NB342_359.out; have hnb54 := NB359_343.out; have hnc54 := NB343_359.out; have hnb55 := NB359_344.out; have hnc55 := NB344_359.out; have hcz56_0 := bc0_ BK359.out; have hcz56_1 := bc1_ BK359.out; have hcz56_2 := bc2_ BK359.out; have hcz56_3 := bc3_ BK359.out; have hfz56_0 := blk_frozen BK359.out 0; have hfz56_1 := blk_frozen BK359.out 1; have hfz56_2 := blk_frozen BK359.out 2; have hfz56_3 := blk_frozen BK359.out 3
              try go_wp2
              have n0_ := am_ (Kd.R_drew HO_360003.out); have n1_ := am_ (blk_drew BK342.out); have n2_ := am_ (blk_drew BK343.out); have n3_ := am_ (blk_drew BK344.out); have n4_ := am_ (blk_drew BK359.out); have n5_ := am_ (below_drew1 HB.out); clear HO_360003 BK342 BK343 BK344 BK359 HB; have HO_360003 := n0_; have BK342 := n1_; have BK343 := n2_; have BK344 := n3_; have BK359 := n4_; have HB := n5_; clear n0_ n1_ n2_ n3_ n4_ n5_; have p360 : 0 ≤ ((ji46) : Int) := of_decide_eq_true q226_; have q360 : (ji46) < (l0_3.length : Int) := of_decide_eq_true q226_; obtain ⟨ad360, e360, hx360_0⟩ := Kd.at_int HR0_3.out (ji46) p360 q360; have hw360_0 := hx360_0; cases e360; replace hx360_0 := (HB.out.cell (World.block_lt_of_cell? w _ hx360_0)).trans hx360_0; replace p360 := eq_true p360; replace q360 := eq_true q360; have p52 : 0 ≤ ((ji49) : Int) := of_decide_eq_true q226_; have q52 : ((ji49) : Int) < ((x360003_3.length : Int) : Int) := of_decide_eq_true q226_; obtain ⟨go52, co52, eo52, gb52, gl52, cl52, HG52⟩ := Kd.R_form HO_360003.out (by omega); (first | cases eo52 | (injection eo52 with ea_ en_ ec_; (first | subst ea_ | (injection ea_ with ea_; subst ea_)); subst ec_; clear en_)); have GB52 := am_ gb52; have GG52 := am_ HG52; clear gb52 gl52 HG52; obtain ⟨hx52_0, hf52_0⟩ := Kd.R_celln 0 HO_360003.out ((ji49) : Int) p52 q52; replace p52 := eq_true p52; replace q52 := eq_true q52; have HP58 := Kd.R_putn HO_360003.out ((ji49) : Int) (rd l0_3 (ji46)); rw [← Ny361.out] at HP58; have HQ58 := am_ HP58; clear HP58; refine start_ (n := 26) (S := fun w' => w'.cell? ⟨gb359, 0, none⟩ = some (.int .i64 t352) ∧ w'.cell? ⟨gb359, 1, none⟩ = some (.int .i64 t353) ∧ w'.cell? ⟨gb359, 2, none⟩ = some (.int .i64 t354) ∧ w'.cell? ⟨gb359, 3, none⟩ = some (.slice (some ⟨go52, 0, none⟩) x360003_3.length co52) ∧ w'.cell? ⟨gb342, 0, none⟩ = some (.int .i64 a0_0) ∧ w'.cell? ⟨gb342, 1, none⟩ = some (.int .i64 a0_1) ∧ w'.cell? ⟨gb342, 2, none⟩ = some (.int .i64 a0_2) ∧ w'.cell? ⟨gb342, 3, none⟩ = some (.slice (some ad360) l0_3.length c0_3) ∧ w'.cell? ⟨gb343, 0, none⟩ = some (.int .i64 a1_0) ∧ w'.cell? ⟨gb343, 1, none⟩ = some (.int .i64 a1_1) ∧ w'.cell? ⟨gb343, 2, none⟩ = some (.int .i64 a1_2) ∧ w'.cell? ⟨gb343, 3, none⟩ = some (.int .i64 a1_3) ∧ w'.cell? (ad360.add ((ji46)).toNat) = some (.int .i64 (rd l0_3 (ji46)))) (ds := [25]) #[F_, F_, F_, F_, F_, F_, F_, F_, F_, F_, F_, F_, F_, F_, F_, F_, F_, F_, F_, F_, F_, F_, F_, F_, F_, F_] (by kernel_rfl) rfl rfl ⟨bc0_ BK359.out, bc1_ BK359.out, bc2_ BK359.out, bc3_ BK359.out, bc0_ BK342.out, bc1_ BK342.out, bc2_ BK342.out, bc3_ BK342.out, bc0_ BK343.out, bc1_ BK343.out, bc2_ BK343.out, bc3_ BK343.out, ((HB.out.cell (World.block_lt_of_cell? w _ hw360_0)).trans hw360_0)⟩ (fun hHeld => ?_); refine with_tabW tilefarmref4_Crop.tab10 tilefarmref4_Crop.bits10 (fun HT_ HW_ => ?_); generalize wr.drew = w57 at HO_360003 BK342 BK343 BK344 BK359 HB GG52 HQ58 hf52_0 hx360_0 hx52_0 hHeld ⊢; refine pure_ (i := 0) (N := some 53) (v := ?_) (a' := ?_) #[T_, F_, F_, F_, F_, F_, F_, F_, F_, F_, F_, F_, F_, F_, F_, F_, F_, F_, F_, F_, F_, F_, F_, F_, F_, F_] rfl rfl (any_of HT_.out (by kernel_rfl)) (fun _ _ _ h => h) (Or.inl ⟨by rfl, ?_⟩) ?_ ?_; rotate_left
              ·intro w'
               go_simp
               with_reducible rfl
              rotate_left
              ·simp only [Act.put, la_, lz_, ls_, i64_w, i32_w]
               rfl
              refine pure_ (i := 2) (N := some 55) (v := ?_) (a' := ?_) #[T_, F_, T_, F_, F_, F_, F_, F_, F_, F_, F_, F_, F_, F_, F_, F_, F_, F_, F_, F_, F_, F_, F_, F_, F_, F_] rfl rfl (any_of HT_.out (by kernel_rfl)) (fun _ _ _ h => h) (Or.inl ⟨by rfl, ?_⟩) ?_ ?_; rotate_left
              ·intro w'
               go_simp
               with_reducible rfl
              rotate_left
              ·simp only [Act.put, la_, lz_, ls_, i64_w, i32_w]
               rfl
              refine pure_ (i := 3) (N := some 56) (v := ?_) (a' := ?_) #[T_, F_, T_, T_, F_, F_, F_, F_, F_, F_, F_, F_, F_, F_, F_, F_, F_, F_, F_, F_, F_, F_, F_, F_, F_, F_] rfl rfl (any_of HT_.out (by kernel_rfl)) (fun _ _ _ h => h) (Or.inl ⟨by rfl, ?_⟩) ?_ ?_; rotate_left
              ·intro w'
               go_simp
               with_reducible rfl
              rotate_left
              ·simp only [Act.put, la_, lz_, ls_, i64_w, i32_w]
               rfl
              refine pure_ (i := 6) (N := some 59) (v := ?_) (a' := ?_) #[T_, F_, T_, T_, F_, F_, T_, F_, F_, F_, F_, F_, F_, F_, F_, F_, F_, F_, F_, F_, F_, F_, F_, F_, F_, F_] rfl rfl (any_of HT_.out (by kernel_rfl)) (fun _ _ _ h => h) (Or.inl ⟨by rfl, ?_⟩) ?_ ?_; rotate_left
              ·intro w'
               go_simp
               with_reducible rfl
              rotate_left
              ·simp only [Act.put, la_, lz_, ls_, i64_w, i32_w]
               rfl
              refine pure_ (i := 8) (N := some 61) (v := ?_) (a' := ?_) #[T_, F_, T_, T_, F_, F_, T_, F_, T_, F_, F_, F_, F_, F_, F_, F_, F_, F_, F_, F_, F_, F_, F_, F_, F_, F_] rfl rfl (any_of HT_.out (by kernel_rfl)) (fun _ _ _ h => h) (Or.inl ⟨by rfl, ?_⟩) ?_ ?_; rotate_left
              ·intro w'
               go_simp
               with_reducible rfl
              rotate_left
              ·simp only [Act.put, la_, lz_, ls_, i64_w, i32_w]
               rfl
              refine pure_ (i := 10) (N := some 63) (v := ?_) (a' := ?_) #[T_, F_, T_, T_, F_, F_, T_, F_, T_, F_, T_, F_, F_, F_, F_, F_, F_, F_, F_, F_, F_, F_, F_, F_, F_, F_] rfl rfl (any_of HT_.out (by kernel_rfl)) (fun _ _ _ h => h) (Or.inl ⟨by rfl, ?_⟩) ?_ ?_; rotate_left
              ·intro w'
               go_simp
               with_reducible rfl
              rotate_left
              ·simp only [Act.put, la_, lz_, ls_, i64_w, i32_w]
               rfl
              refine pure_ (i := 11) (N := some 64) (v := ?_) (a' := ?_) #[T_, F_, T_, T_, F_, F_, T_, F_, T_, F_, T_, T_, F_, F_, F_, F_, F_, F_, F_, F_, F_, F_, F_, F_, F_, F_] rfl rfl (any_of HT_.out (by kernel_rfl)) (fun _ _ _ h => h) (Or.inl ⟨by rfl, ?_⟩) ?_ ?_; rotate_left
              ·intro w'
               go_simp
               with_reducible rfl
              rotate_left
              ·simp only [Act.put, la_, lz_, ls_, i64_w, i32_w]
               rfl
              refine pure_ (i := 14) (N := some 67) (v := ?_) (a' := ?_) #[T_, F_, T_, T_, F_, F_, T_, F_, T_, F_, T_, T_, F_, F_, T_, F_, F_, F_, F_, F_, F_, F_, F_, F_, F_, F_] rfl rfl (any_of HT_.out (by kernel_rfl)) (fun _ _ _ h => h) (Or.inl ⟨by rfl, ?_⟩) ?_ ?_; rotate_left
              ·intro w'
               go_simp
               with_reducible rfl
              rotate_left
              ·simp only [Act.put, la_, lz_, ls_, i64_w, i32_w]
               rfl
              refine pure_ (i := 17) (N := some 70) (v := ?_) (a' := ?_) #[T_, F_, T_, T_, F_, F_, T_, F_, T_, F_, T_, T_, F_, F_, T_, F_, F_, T_, F_, F_, F_, F_, F_, F_, F_, F_] rfl rfl (any_of HT_.out (by kernel_rfl)) (fun _ _ _ h => h) (Or.inl ⟨by rfl, ?_⟩) ?_ ?_; rotate_left
              ·intro w'
               go_simp
               with_reducible rfl
              rotate_left
              ·simp only [Act.put, la_, lz_, ls_, i64_w, i32_w]
               rfl
              refine pure_ (i := 19) (N := some 72) (v := ?_) (a' := ?_) #[T_, F_, T_, T_, F_, F_, T_, F_, T_, F_, T_, T_, F_, F_, T_, F_, F_, T_, F_, T_, F_, F_, F_, F_, F_, F_] rfl rfl (any_of HT_.out (by kernel_rfl)) (fun _ _ _ h => h) (Or.inl ⟨by rfl, ?_⟩) ?_ ?_; rotate_left
              ·intro w'
               go_simp
               with_reducible rfl
              rotate_left
              ·simp only [Act.put, la_, lz_, ls_, i64_w, i32_w]
               rfl
              refine take_ (i := 1) (N := some 54) (v := ?_) (a' := ?_) #[T_, T_, T_, T_, F_, F_, T_, F_, T_, F_, T_, T_, F_, F_, T_, F_, F_, T_, F_, T_, F_, F_, F_, F_, F_, F_] rfl rfl (take_ofW HT_.out HW_.out (by kernel_rfl)) (fun _ _ _ h => h) (Or.inl ⟨by rfl, ?_⟩) hHeld ?_ ?_; rotate_left
              ·rintro w' ⟨s0, s1, s2, s3, s4, s5, s6, s7, s8, s9, s10, s11, s12⟩
               go_simp
               with_reducible rfl
              rotate_left
              ·simp only [Act.put, la_, lz_, ls_, i64_w, i32_w]
               rfl
              refine take_ (i := 4) (N := some 57) (v := ?_) (a' := ?_) #[T_, T_, T_, T_, T_, F_, T_, F_, T_, F_, T_, T_, F_, F_, T_, F_, F_, T_, F_, T_, F_, F_, F_, F_, F_, F_] rfl rfl (take_ofW HT_.out HW_.out (by kernel_rfl)) (fun _ _ _ h => h) (Or.inl ⟨by rfl, ?_⟩) hHeld ?_ ?_; rotate_left
              ·rintro w' ⟨s0, s1, s2, s3, s4, s5, s6, s7, s8, s9, s10, s11, s12⟩
               go_simp
               with_reducible rfl
              rotate_left
              ·simp only [Act.put, la_, lz_, ls_, i64_w, i32_w]
               rfl
              refine pure_ (i := 5) (N := some 58) (v := ?_) (a' := ?_) #[T_, T_, T_, T_, T_, T_, T_, F_, T_, F_, T_, T_, F_, F_, T_, F_, F_, T_, F_, T_, F_, F_, F_, F_, F_, F_] rfl rfl (any_of HT_.out (by kernel_rfl)) (fun _ _ _ h => h) (Or.inl ⟨by rfl, ?_⟩) ?_ ?_; rotate_left
              ·intro w'
               go_simp
               with_reducible rfl
              rotate_left
              ·simp only [Act.put, la_, lz_, ls_, i64_w, i32_w]
               rfl
              refine pure_ (i := 7) (N := some 60) (v := ?_) (a' := ?_) #[T_, T_, T_, T_, T_, T_, T_, T_, T_, F_, T_, T_, F_, F_, T_, F_, F_, T_, F_, T_, F_, F_, F_, F_, F_, F_] rfl rfl (any_of HT_.out (by kernel_rfl)) (fun _ _ _ h => h) (Or.inl ⟨by rfl, ?_⟩) ?_ ?_; rotate_left
              ·intro w'
               go_simp
               with_reducible rfl
              rotate_left
              ·simp only [Act.put, la_, lz_, ls_, i64_w, i32_w]
               rfl
              refine take_ (i := 9) (N := some 62) (v := ?_) (a' := ?_) #[T_, T_, T_, T_, T_, T_, T_, T_, T_, T_, T_, T_, F_, F_, T_, F_, F_, T_, F_, T_, F_, F_, F_, F_, F_, F_] rfl rfl (take_ofW HT_.out HW_.out (by kernel_rfl)) (fun _ _ _ h => h) (Or.inl ⟨by rfl, ?_⟩) hHeld ?_ ?_; rotate_left
              ·rintro w' ⟨s0, s1, s2, s3, s4, s5, s6, s7, s8, s9, s10, s11, s12⟩
               go_simp
               with_reducible rfl
              rotate_left
              ·simp only [Act.put, la_, lz_, ls_, i64_w, i32_w]
               rfl
              refine take_ (i := 12) (N := some 65) (v := ?_) (a' := ?_) #[T_, T_, T_, T_, T_, T_, T_, T_, T_, T_, T_, T_, T_, F_, T_, F_, F_, T_, F_, T_, F_, F_, F_, F_, F_, F_] rfl rfl (take_ofW HT_.out HW_.out (by kernel_rfl)) (fun _ _ _ h => h) (Or.inl ⟨by rfl, ?_⟩) hHeld ?_ ?_; rotate_left
              ·rintro w' ⟨s0, s1, s2, s3, s4, s5, s6, s7, s8, s9, s10, s11, s12⟩
               go_simp
               with_reducible rfl
              rotate_left
              ·simp only [Act.put, la_, lz_, ls_, i64_w, i32_w]
               rfl
              refine pure_ (i := 13) (N := some 66) (v := ?_) (a' := ?_) #[T_, T_, T_, T_, T_, T_, T_, T_, T_, T_, T_, T_, T_, T_, T_, F_, F_, T_, F_, T_, F_, F_, F_, F_, F_, F_] rfl rfl (any_of HT_.out (by kernel_rfl)) (fun _ _ _ h => h) (Or.inl ⟨by rfl, ?_⟩) ?_ ?_; rotate_left
              ·intro w'
               go_simp
               with_reducible rfl
              rotate_left
              ·simp only [Act.put, la_, lz_, ls_, i64_w, i32_w]
               rfl
              refine take_ (i := 15) (N := some 68) (v := ?_) (a' := ?_) #[T_, T_, T_, T_, T_, T_, T_, T_, T_, T_, T_, T_, T_, T_, T_, T_, F_, T_, F_, T_, F_, F_, F_, F_, F_, F_] rfl rfl (take_ofW HT_.out HW_.out (by kernel_rfl)) (fun _ _ _ h => h) (Or.inl ⟨by rfl, ?_⟩) hHeld ?_ ?_; rotate_left
              ·rintro w' ⟨s0, s1, s2, s3, s4, s5, s6, s7, s8, s9, s10, s11, s12⟩
               go_simp
               with_reducible rfl
              rotate_left
              ·simp only [Act.put, la_, lz_, ls_, i64_w, i32_w]
               rfl
              refine pure_ (i := 16) (N := some 69) (v := ?_) (a' := ?_) #[T_, T_, T_, T_, T_, T_, T_, T_, T_, T_, T_, T_, T_, T_, T_, T_, T_, T_, F_, T_, F_, F_, F_, F_, F_, F_] rfl rfl (any_of HT_.out (by kernel_rfl)) (fun _ _ _ h => h) (Or.inl ⟨by rfl, ?_⟩) ?_ ?_; rotate_left
              ·intro w'
               go_simp
               with_reducible rfl
              rotate_left
              ·simp only [Act.put, la_, lz_, ls_, i64_w, i32_w]
               rfl
              refine pure_ (i := 18) (N := some 71) (v := ?_) (a' := ?_) #[T_, T_, T_, T_, T_, T_, T_, T_, T_, T_, T_, T_, T_, T_, T_, T_, T_, T_, T_, T_, F_, F_, F_, F_, F_, F_] rfl rfl (any_of HT_.out (by kernel_rfl)) (fun _ _ _ h => h) (Or.inl ⟨by rfl, ?_⟩) ?_ ?_; rotate_left
              ·intro w'
               go_simp
               with_reducible rfl
              rotate_left
              ·simp only [Act.put, la_, lz_, ls_, i64_w, i32_w]
               rfl
              refine take_ (i := 20) (N := some 73) (v := ?_) (a' := ?_) #[T_, T_, T_, T_, T_, T_, T_, T_, T_, T_, T_, T_, T_, T_, T_, T_, T_, T_, T_, T_, T_, F_, F_, F_, F_, F_] rfl rfl (take_ofW HT_.out HW_.out (by kernel_rfl)) (fun _ _ _ h => h) (Or.inl ⟨by rfl, ?_⟩) hHeld ?_ ?_; rotate_left
              ·rintro w' ⟨s0, s1, s2, s3, s4, s5, s6, s7, s8, s9, s10, s11, s12⟩
               go_simp
               with_reducible rfl
              rotate_left
              ·simp only [Act.put, la_, lz_, ls_, i64_w, i32_w]
               rfl
              refine pure_ (i := 21) (N := some 74) (v := ?_) (a' := ?_) #[T_, T_, T_, T_, T_, T_, T_, T_, T_, T_, T_, T_, T_, T_, T_, T_, T_, T_, T_, T_, T_, T_, F_, F_, F_, F_] rfl rfl (any_of HT_.out (by kernel_rfl)) (fun _ _ _ h => h) (Or.inl ⟨by rfl, ?_⟩) ?_ ?_; rotate_left
              ·intro w'
               go_simp
               with_reducible rfl
              rotate_left
              ·simp only [Act.put, la_, lz_, ls_, i64_w, i32_w]
               rfl
              refine pure_ (i := 22) (N := some 75) (v := ?_) (a' := ?_) #[T_, T_, T_, T_, T_, T_, T_, T_, T_, T_, T_, T_, T_, T_, T_, T_, T_, T_, T_, T_, T_, T_, T_, F_, F_, F_] rfl rfl (any_of HT_.out (by kernel_rfl)) (fun _ _ _ h => h) (Or.inl ⟨by rfl, ?_⟩) ?_ ?_; rotate_left
              ·intro w'
               go_simp
               with_reducible rfl
              rotate_left
              ·simp only [Act.put, la_, lz_, ls_, i64_w, i32_w]
               rfl
              refine take_ (i := 23) (N := some 76) (v := ?_) (a' := ?_) #[T_, T_, T_, T_, T_, T_, T_, T_, T_, T_, T_, T_, T_, T_, T_, T_, T_, T_, T_, T_, T_, T_, T_, T_, F_, F_] rfl rfl (take_ofW HT_.out HW_.out (by kernel_rfl)) (fun _ _ _ h => h) (Or.inl ⟨by rfl, ?_⟩) hHeld ?_ ?_; rotate_left
              ·rintro w' ⟨s0, s1, s2, s3, s4, s5, s6, s7, s8, s9, s10, s11, s12⟩
               go_simp
               with_reducible rfl
              rotate_left
              ·simp only [Act.put, la_, lz_, ls_, i64_w, i32_w]
               rfl
              refine pure_ (i := 24) (N := some 77) (v := ?_) (a' := ?_) #[T_, T_, T_, T_, T_, T_, T_, T_, T_, T_, T_, T_, T_, T_, T_, T_, T_, T_, T_, T_, T_, T_, T_, T_, T_, F_] rfl rfl (any_of HT_.out (by kernel_rfl)) (fun _ _ _ h => h) (Or.inl ⟨by rfl, ?_⟩) ?_ ?_; rotate_left
              ·intro w'
               go_simp
               with_reducible rfl
              rotate_left
              ·simp only [Act.put, la_, lz_, ls_, i64_w, i32_w]
               rfl
              refine last_ (i := 25) (N := none) #[T_, T_, T_, T_, T_, T_, T_, T_, T_, T_, T_, T_, T_, T_, T_, T_, T_, T_, T_, T_, T_, T_, T_, T_, T_, T_] rfl rfl (one_of HT_.out (by kernel_rfl)) (by decide) (fun K hK => ?_); refine skip_ (w1 := ?_) (by rfl) rfl ?_ ?_; rotate_left
              ·go_simp
               rfl
              refine hK.out _ _ ?_; clear hK K; refine done_ (done_of HT_.out (by kernel_rfl)) ?_
              try go_wp2
              go_roundg k3
              case measure => have := HJ2.out; have := HK2.out; have := HK3.out; omega
              case rel => exact ⟨(wrap64 (x9_3 + 1)), (y361), (.slice (some ⟨go52, 0, none⟩) x360003_3.length co52), q227_, (by first | exact H' | ((try (rw [hji46])); (try (rw [hji49])); exact H')), ⟨by have := HJ2.out; have := HK2.out; have := HK3.out; omega⟩, ⟨by (with_reducible repeat (first | apply Kd.R_alloc | apply Kd.R_drewN | apply Kd.R_drew)); exact HQ58.out⟩, ⟨by (with_reducible repeat (first | refine blk_drewN ?_ _ | refine blk_drew ?_ | refine blk_alloc ?_ _)); refine blk_far ?_ (by have h_ := Kd.R_ne HO_360003.out BK342.out (by decide); intro e_; exact h_ (by rw [e_]; rfl)) _; (with_reducible repeat (first | refine blk_drewN ?_ _ | refine blk_drew ?_ | refine blk_alloc ?_ _)); exact BK342.out⟩, ⟨by (with_reducible repeat (first | refine blk_drewN ?_ _ | refine blk_drew ?_ | refine blk_alloc ?_ _)); refine blk_far ?_ (by have h_ := Kd.R_ne HO_360003.out BK343.out (by decide); intro e_; exact h_ (by rw [e_]; rfl)) _; (with_reducible repeat (first | refine blk_drewN ?_ _ | refine blk_drew ?_ | refine blk_alloc ?_ _)); exact BK343.out⟩, ⟨by (with_reducible repeat (first | refine blk_drewN ?_ _ | refine blk_drew ?_ | refine blk_alloc ?_ _)); refine blk_far ?_ (by have h_ := Kd.R_ne HO_360003.out BK344.out (by decide); intro e_; exact h_ (by rw [e_]; rfl)) _; (with_reducible repeat (first | refine blk_drewN ?_ _ | refine blk_drew ?_ | refine blk_alloc ?_ _)); exact BK344.out⟩, ⟨by (with_reducible repeat (first | refine blk_drewN ?_ _ | refine blk_drew ?_ | refine blk_alloc ?_ _)); refine blk_far ?_ (by have h_ := Kd.R_ne HO_360003.out BK359.out (by decide); intro e_; exact h_ (by rw [e_]; rfl)) _; (with_reducible repeat (first | refine blk_drewN ?_ _ | refine blk_drew ?_ | refine blk_alloc ?_ _)); exact BK359.out⟩, ⟨by repeat (first | (with_reducible first | exact HB.out | apply below_alloc | apply pw_below_drewN | apply below_drew1 | refine below_set ?_ GB52.out | refine below_set ?_ GE342.out | refine below_set ?_ GE343.out | refine below_set ?_ GE344.out | refine below_set ?_ GE359.out) | exact HB.out)⟩⟩
             ·rw [if_neg c51] at H
              exact absurd H (by simp)
            ·rw [if_neg c50] at H
             exact absurd H (by simp)
           ·rw [if_neg c48] at H
            exact absurd H (by simp)
          ·rw [if_neg c47] at H
           exact absurd H (by simp)
         ·rw [if_neg c45] at H
          have c45b0 : decide (x9_3 < t352) = false := decide_eq_false c45; clear c45; have H' := am_ H; clear H; have hnb59 := NB359_342.out; have hnc59 := NB342_359.out; have hnb60 := NB359_343.out; have hnc60 := NB343_359.out; have hnb61 := NB359_344.out; have hnc61 := NB344_359.out; have hcz62_0 := bc0_ BK359.out; have hcz62_1 := bc1_ BK359.out; have hcz62_2 := bc2_ BK359.out; have hcz62_3 := bc3_ BK359.out; have hfz62_0 := blk_frozen BK359.out 0; have hfz62_1 := blk_frozen BK359.out 1; have hfz62_2 := blk_frozen BK359.out 2; have hfz62_3 := blk_frozen BK359.out 3
          go_wp2
          go_roundg k3
          case measure => have := HJ2.out; have := HK2.out; have := HK3.out; omega
          case rel => exact ⟨(wrap64 (x8_2 + 1)), (x360003_3), (u360003), q227_, (by first | exact H' | ((try (rw [hji46])); (try (rw [hji49])); exact H')), ⟨by have := HJ2.out; have := HK2.out; have := HK3.out; omega⟩, ⟨by (with_reducible repeat (first | apply Kd.R_alloc | apply Kd.R_drewN | apply Kd.R_drew)); exact HO_360003.out⟩, ⟨q189_⟩, ⟨q190_⟩, ⟨q191_⟩, ⟨by (with_reducible repeat (first | refine blk_drewN ?_ _ | refine blk_drew ?_ | refine blk_alloc ?_ _)); exact BK359.out⟩, ⟨q60_⟩⟩
      ·rw [if_neg c40] at H
       have c40b0 : decide (x8_2 < t353) = false := decide_eq_false c40; clear c40; simp only [Option.some.injEq, Prod.mk.injEq] at H; obtain ⟨rfl, rfl, rfl, rfl, rfl⟩ := H; have hnb63 := NB359_342.out; have hnc63 := NB342_359.out; have hnb64 := NB359_343.out; have hnc64 := NB343_359.out; have hnb65 := NB359_344.out; have hnc65 := NB344_359.out; have hcz66_0 := bc0_ BK359.out; have hcz66_1 := bc1_ BK359.out; have hcz66_2 := bc2_ BK359.out; have hcz66_3 := bc3_ BK359.out; have hfz66_0 := blk_frozen BK359.out 0; have hfz66_1 := blk_frozen BK359.out 1; have hfz66_2 := blk_frozen BK359.out 2; have hfz66_3 := blk_frozen BK359.out 3; have hnb67 := NB344_342.out; have hnc67 := NB342_344.out; have hnb68 := NB344_343.out; have hnc68 := NB343_344.out; have hcz69_0 := bc0_ BK344.out; have hcz69_1 := bc1_ BK344.out; have hcz69_2 := bc2_ BK344.out; have hcz69_3 := bc3_ BK344.out; have hfz69_0 := blk_frozen BK344.out 0; have hfz69_1 := blk_frozen BK344.out 1; have hfz69_2 := blk_frozen BK344.out 2; have hfz69_3 := blk_frozen BK344.out 3; obtain ⟨Ao70, co70, eo70⟩ := Kd.R_slice HO_360003.out; subst eo70
       go_wp2
       refine bodyPost_ret (results_ct rfl _ _ gb344 26 #[.int .i64 t352, .int .i64 t353, .int .i64 t354, .slice Ao70 x360003_2.length co70] (0, 0) _ rfl (by (with_reducible repeat (first | refine blk_drewN ?_ _ | refine blk_drew ?_ | refine blk_alloc ?_ _)); refine blk_put (cs := #[.int .i64 t352, .int .i64 t353, .int .i64 t354, .slice none 0 0]) ?_ 3 _ rfl; (with_reducible repeat (first | refine blk_drewN ?_ _ | refine blk_drew ?_ | refine blk_alloc ?_ _)); refine blk_put (cs := #[.int .i64 t352, .int .i64 t353, .int .i64 0, .slice none 0 0]) ?_ 2 _ rfl; (with_reducible repeat (first | refine blk_drewN ?_ _ | refine blk_drew ?_ | refine blk_alloc ?_ _)); refine blk_put (cs := #[.int .i64 t352, .int .i64 0, .int .i64 0, .slice none 0 0]) ?_ 1 _ rfl; (with_reducible repeat (first | refine blk_drewN ?_ _ | refine blk_drew ?_ | refine blk_alloc ?_ _)); refine blk_put (cs := #[.int .i64 0, .int .i64 0, .int .i64 0, .slice none 0 0]) ?_ 0 _ rfl; (with_reducible repeat (first | refine blk_drewN ?_ _ | refine blk_drew ?_ | refine blk_alloc ?_ _)); exact BK344.out) Try.underlying26 rfl (by kernel_rfl)) rfl ?_; exact ⟨_, q224_, by (with_reducible repeat (first | apply Kd.R_alloc | apply Kd.R_drewN | apply Kd.R_drew)); exact Kd.R_mono (Kd.R_far (p := ⟨gb344, 3, none⟩) (Kd.R_far (p := ⟨gb344, 2, none⟩) (Kd.R_far (p := ⟨gb344, 1, none⟩) (Kd.R_far (p := ⟨gb344, 0, none⟩) (Kd.R_types HO_360003.out BK344.out (by decide)) (fun _ hk => hk.2) (.int .i64 t352)) (fun _ hk => hk.2) (.int .i64 t353)) (fun _ hk => hk.2) (.int .i64 t354)) (fun _ hk => hk.2) (.slice Ao70 x360003_2.length co70)) (fun _ hk => trivial), q60_⟩

end Go.Proofs.Ytgkccacenlcebaa.PPlaneCrops
