-- Written by a program of the session (wip/tools/pack.py): the printed texts, pruned; checked by Lean.
import Derived.Test.YtgkccacenlcebaaKPlaneCropsa
import Derived.Test.YtgkccacenlcebaaKPlaneCropsx0
import Derived.Test.YtgkccacenlcebaaKPlaneCropsx4
import Derived.Test.YtgkccacenlcebaaKPlaneCropsx5
namespace Go.Proofs.Ytgkccacenlcebaa.PPlaneCrops
open Go.RowKit Go.Proofs.YtgkccacenlcebaaW.PrintWords Go.Proofs.YtgkccacenlcebaaW.PrintLast Go.Proofs.YtgkccacenlcebaaW.PrintMore
attribute [local go_sem] max2_int min2_int max_two min_two max_three min_three max_four min_four   -- for this text's walks alone
set_option linter.unusedVariables false
set_option linter.unusedSimpArgs false
mutual
def plane_Crop.j0 : Nat → Bool → Int → Int → Int → List Int → Int → Int → Int → Int → Option (Int × Int × Int × List Int × Bool)
 | 0, _, _, _, _, _, _, _, _, _ => none
 | k + 1, x21, x156000, x156001, x156002, x156003, x157000, x157001, x157002, x157003 => if x21 = true then (some (0, 0, 0, ([] : List Int), false)) else (plane_Crop.l0 k x157001 x156000 x156001 x156002 x156003 x157000 x157001 x157002 x157003 (wrap64 (x157002 - x157000)) (wrap64 (x157003 - x157001)) x156002 ([] : List Int))
def plane_Crop.l0 : Nat → Int → Int → Int → Int → List Int → Int → Int → Int → Int → Int → Int → Int → List Int → Option (Int × Int × Int × List Int × Bool)
 | 0, _, _, _, _, _, _, _, _, _, _, _, _, _ => none
 | k + 1, x7, x156000, x156001, x156002, x156003, x157000, x157001, x157002, x157003, x166000, x166001, x166002, x166003 => if x7 < x157003 then (if 0 ≤ (wrap64 ((wrap64 (x7 * x156000)) + x157000)) then (if (wrap64 ((wrap64 (x7 * x156000)) + x157000)) ≤ (wrap64 ((wrap64 (x7 * x156000)) + x157002)) then (if (wrap64 ((wrap64 (x7 * x156000)) + x157002)) ≤ (x156003.length : Int) then (if x166003.length + ((x156003.take ((wrap64 ((wrap64 (x7 * x156000)) + x157002)) : Int).toNat).drop ((wrap64 ((wrap64 (x7 * x156000)) + x157000)) : Int).toNat).length < 17592186044416 then (plane_Crop.l0 k (wrap64 (x7 + 1)) x156000 x156001 x156002 x156003 x157000 x157001 x157002 x157003 x166000 x166001 x166002 (x166003 ++ ((x156003.take ((wrap64 ((wrap64 (x7 * x156000)) + x157002)) : Int).toNat).drop ((wrap64 ((wrap64 (x7 * x156000)) + x157000)) : Int).toNat))) else (none)) else (none)) else (none)) else (none)) else (some (x166000, x166001, x166002, x166003, true))
end
def plane_Crop.f (k : Nat) (a0_0 : Int) (a0_1 : Int) (a0_2 : Int) (l0_3 : List Int) (a1_0 : Int) (a1_1 : Int) (a1_2 : Int) (a1_3 : Int) : Option (Int × Int × Int × List Int × Bool) := (plane_Valid.f k a0_0 a0_1 a0_2 l0_3).bind fun t158 => (if t158 = true then ((rect_Empty.f a1_0 a1_1 a1_2 a1_3).bind fun t159 => (if t159 = true then (plane_Crop.j0 k true a0_0 a0_1 a0_2 l0_3 a1_0 a1_1 a1_2 a1_3) else ((plane_covered.f a0_0 a0_1 a0_2 l0_3).bind fun bt160 => ((rect_Inside.f k a1_0 a1_1 a1_2 a1_3 bt160.1 bt160.2.1 bt160.2.2.1 bt160.2.2.2).bind fun t164 => (plane_Crop.j0 k (!t164) a0_0 a0_1 a0_2 l0_3 a1_0 a1_1 a1_2 a1_3))))) else (plane_Crop.j0 k true a0_0 a0_1 a0_2 l0_3 a1_0 a1_1 a1_2 a1_3))
theorem plane_Crop.mono_l : ∀ k, (∀ y0 y1 y2 y3 y4 y5 y6 y7 y8, LeO (plane_Crop.j0 k y0 y1 y2 y3 y4 y5 y6 y7 y8) (plane_Crop.j0 (k + 1) y0 y1 y2 y3 y4 y5 y6 y7 y8)) ∧ (∀ y0 y1 y2 y3 y4 y5 y6 y7 y8 y9 y10 y11 y12, LeO (plane_Crop.l0 k y0 y1 y2 y3 y4 y5 y6 y7 y8 y9 y10 y11 y12) (plane_Crop.l0 (k + 1) y0 y1 y2 y3 y4 y5 y6 y7 y8 y9 y10 y11 y12))
 | 0 => ⟨fun _ _ _ _ _ _ _ _ _ r h => by simp [plane_Crop.j0] at h, fun _ _ _ _ _ _ _ _ _ _ _ _ _ r h => by simp [plane_Crop.l0] at h⟩
 | k + 1 => by
  obtain ⟨ih0, ih1⟩ := plane_Crop.mono_l k; refine ⟨?_, ?_⟩
  ·intro y0 y1 y2 y3 y4 y5 y6 y7 y8
   unfold plane_Crop.j0
   repeat' first
   | (with_reducible exact ih0 _ _ _ _ _ _ _ _ _)
   | (with_reducible exact ih1 _ _ _ _ _ _ _ _ _ _ _ _ _)
   | (with_reducible exact plane_Valid.mono _ _ _ _ _)
   | (with_reducible exact rect_Inside.mono _ _ _ _ _ _ _ _ _)
   | (with_reducible exact LeO.refl _)
   | (with_reducible exact LeO.none _)
   | (with_reducible refine LeO.ite ?_ ?_)
   | (with_reducible refine LeO.bind ?_ (fun _ => ?_))
   | exact ih0 _ _ _ _ _ _ _ _ _
   | exact ih1 _ _ _ _ _ _ _ _ _ _ _ _ _
   | exact plane_Valid.mono _ _ _ _ _
   | exact rect_Inside.mono _ _ _ _ _ _ _ _ _
   | exact LeO.none _
   | refine LeO.ite ?_ ?_
   | refine LeO.bind ?_ (fun _ => ?_)
  ·intro y0 y1 y2 y3 y4 y5 y6 y7 y8 y9 y10 y11 y12
   unfold plane_Crop.l0
   repeat' first
   | (with_reducible exact ih0 _ _ _ _ _ _ _ _ _)
   | (with_reducible exact ih1 _ _ _ _ _ _ _ _ _ _ _ _ _)
   | (with_reducible exact plane_Valid.mono _ _ _ _ _)
   | (with_reducible exact rect_Inside.mono _ _ _ _ _ _ _ _ _)
   | (with_reducible exact LeO.refl _)
   | (with_reducible exact LeO.none _)
   | (with_reducible refine LeO.ite ?_ ?_)
   | (with_reducible refine LeO.bind ?_ (fun _ => ?_))
   | exact ih0 _ _ _ _ _ _ _ _ _
   | exact ih1 _ _ _ _ _ _ _ _ _ _ _ _ _
   | exact plane_Valid.mono _ _ _ _ _
   | exact rect_Inside.mono _ _ _ _ _ _ _ _ _
   | exact LeO.none _
   | refine LeO.ite ?_ ?_
   | refine LeO.bind ?_ (fun _ => ?_)
theorem plane_Crop.mono : ∀ a0 a1 a2 a3 a4 a5 a6 a7 k, LeO (plane_Crop.f k a0 a1 a2 a3 a4 a5 a6 a7) (plane_Crop.f (k + 1) a0 a1 a2 a3 a4 a5 a6 a7) := by
 intro a0 a1 a2 a3 a4 a5 a6 a7 k; obtain ⟨ih0, ih1⟩ := plane_Crop.mono_l k; unfold plane_Crop.f
 repeat' first
   | (with_reducible exact ih0 _ _ _ _ _ _ _ _ _)
   | (with_reducible exact ih1 _ _ _ _ _ _ _ _ _ _ _ _ _)
   | (with_reducible exact plane_Valid.mono _ _ _ _ _)
   | (with_reducible exact rect_Inside.mono _ _ _ _ _ _ _ _ _)
   | (with_reducible exact LeO.refl _)
   | (with_reducible exact LeO.none _)
   | (with_reducible refine LeO.ite ?_ ?_)
   | (with_reducible refine LeO.bind ?_ (fun _ => ?_))
   | exact ih0 _ _ _ _ _ _ _ _ _
   | exact ih1 _ _ _ _ _ _ _ _ _ _ _ _ _
   | exact plane_Valid.mono _ _ _ _ _
   | exact rect_Inside.mono _ _ _ _ _ _ _ _ _
   | exact LeO.none _
   | refine LeO.ite ?_ ?_
   | refine LeO.bind ?_ (fun _ => ?_)
def plane_Crop.T1 : Bool × List (List Nat × List Nat) := (true, [([], []), ([0], [0]), ([1], [1]), ([2, 1], [2]), ([3], [3]), ([4, 3, 3], [3, 4]), ([3, 5], [3, 5]), ([6, 5], [6]), ([7], [7]), ([7], [7]), ([9, 7, 7], [7, 9]), ([8, 10, 10, 7], [7, 8, 10]), ([11, 7], [7, 11]), ([7, 12], [7, 12])])
def plane_Crop.B1 : List Nat := [0, 1, 3, 7, 15, 31, 63, 127, 255, 255, 767, 2047, 4095, 8191]
theorem plane_Crop.tab1 : rtab .any (opsOf Try.f13 1) = plane_Crop.T1 := by kernel_rfl
theorem plane_Crop.bits1 : waitsOk plane_Crop.T1.2 plane_Crop.B1 = true := by kernel_rfl
def plane_Crop.T7 : Bool × List (List Nat × List Nat) := (true, [([], []), ([0], [0]), ([], []), ([2], [2]), ([], []), ([], []), ([5], [5]), ([4, 6], [4, 6]), ([], []), ([8], [8]), ([7, 9], [7, 9]), ([], []), ([], []), ([12], [12]), ([11, 13], [11, 13]), ([], []), ([15], [15]), ([14, 16], [14, 16]), ([3, 10, 17], [3, 10, 17]), ([1, 18], [1, 18]), ([0, 1, 2, 3, 4, 5, 6, 7, 8, 9, 10, 11, 12, 13, 14, 15, 16, 17, 18, 19], []), ([20, 19, 19, 0, 1, 2, 3, 4, 5, 6, 7, 8, 9, 10, 11, 12, 13, 14, 15, 16, 17, 18, 19], [19, 20])])
def plane_Crop.B7 : List Nat := [0, 1, 0, 4, 0, 0, 32, 112, 0, 256, 1008, 0, 0, 4096, 14336, 0, 32768, 129024, 262140, 524287, 1048575, 2097151]
theorem plane_Crop.tab7 : rtab .any (opsOf Try.f13 7) = plane_Crop.T7 := by kernel_rfl
theorem plane_Crop.bits7 : waitsOk plane_Crop.T7.2 plane_Crop.B7 = true := by kernel_rfl
set_option maxHeartbeats 8000000 in
set_option maxRecDepth 100000 in
theorem plane_Crop.calls (k : Nat) (a0_0 : Int) (a0_1 : Int) (a0_2 : Int) (A0_3 : Option Addr) (c0_3 : Nat) (l0_3 : List Int) (a1_0 : Int) (a1_1 : Int) (a1_2 : Int) (a1_3 : Int) (r1 : Int) (r2 : Int) (r3 : Int) (r4 : List Int) (r5 : Bool) (w : World) (hr0_3 : Kd.C (Kd.int .i64) w A0_3 l0_3.length l0_3) (hc0_3 : l0_3.length ≤ c0_3) (h : plane_Crop.f k a0_0 a0_1 a0_2 l0_3 a1_0 a1_1 a1_2 a1_3 = some (r1, r2, r3, r4, r5)) :
  Calls Try.prog 13 #[.agg #[.int .i64 a0_0, .int .i64 a0_1, .int .i64 a0_2, .slice A0_3 l0_3.length c0_3], .agg #[.int .i64 a1_0, .int .i64 a1_1, .int .i64 a1_2, .int .i64 a1_3]] w fun e w' => ∃ v3_ : Value, e = .returned (.tuple #[.agg #[.int .i64 r1, .int .i64 r2, .int .i64 r3, v3_], .bool r5]) ∧ Kd.R (Kd.int .i64) 3 w' w.heap.size (fun _ => True) v3_ r4 ∧ Below w.heap.size w w' := by
 have hu26 := Try.underlying26; have hu31 := Try.underlying31; have HR0_3 := am_ hr0_3; have HC0_3 := am_ hc0_3; clear hr0_3 hc0_3; have HB := am_ (Below.refl w.heap.size w); have H : ((plane_Valid.f k a0_0 a0_1 a0_2 l0_3).bind fun t158 => (if t158 = true then ((rect_Empty.f a1_0 a1_1 a1_2 a1_3).bind fun t159 => (if t159 = true then (plane_Crop.j0 k true a0_0 a0_1 a0_2 l0_3 a1_0 a1_1 a1_2 a1_3) else ((plane_covered.f a0_0 a0_1 a0_2 l0_3).bind fun bt160 => ((rect_Inside.f k a1_0 a1_1 a1_2 a1_3 bt160.1 bt160.2.1 bt160.2.2.1 bt160.2.2.2).bind fun t164 => (plane_Crop.j0 k (!t164) a0_0 a0_1 a0_2 l0_3 a1_0 a1_1 a1_2 a1_3))))) else (plane_Crop.j0 k true a0_0 a0_1 a0_2 l0_3 a1_0 a1_1 a1_2 a1_3))) = some (r1, r2, r3, r4, r5) := h; clear h; have HC3 := am_ H; clear H
 go_enter Try.func13, Try.ntmps13
 go_upto_region 1 with (first | ((with_reducible refine gate_dst (N := 2) rfl ?_); refine box_event ?hg (N := 2) ?hd (cs := #[.int .i64 a0_0, .int .i64 a0_1, .int .i64 a0_2, .slice A0_3 l0_3.length c0_3]) (t := 26) ?hr ?_; (case hd => rfl); (case hg => rfl); (case hr => first | (go_simp; done) | (go_simp; rfl)); intro gb155 hg w4 hbox hb; have n0_ := am_ (below_step q153_ hb); have n1_ := am_ (hbox); have n2_ := am_ ((q123_ : w.heap.size ≤ gb155)); have n3_ := am_ ((q123_ : w.heap.size ≤ gb155)); clear HB; have HB := n0_; have BK155 := n1_; have GW155 := n2_; have GE155 := n3_; clear n0_ n1_ n2_ n3_; clear hb hbox hg) | ((with_reducible refine gate_dst (N := 3) rfl ?_); refine box_event ?hg (N := 3) ?hd (cs := #[.int .i64 a1_0, .int .i64 a1_1, .int .i64 a1_2, .int .i64 a1_3]) (t := 31) ?hr ?_; (case hd => rfl); (case hg => rfl); (case hr => first | (go_simp; done) | (go_simp; rfl)); intro gb156 hg w5 hbox hb; have n0_ := am_ (blk_below (g := gb155) (o := .cells #[.int .i64 a0_0, .int .i64 a0_1, .int .i64 a0_2, .slice A0_3 l0_3.length c0_3] 26 (0, 0)) q164_ hb); have n1_ := am_ (below_step q129_ hb); have n2_ := am_ (hbox); have n3_ := am_ ((by rw [hg]; exact (below_size q129_) : w.heap.size ≤ gb156)); have n4_ := am_ ((by rw [hg]; exact (below_size q129_) : w.heap.size ≤ gb156)); have n5_ := am_ ((q17_ : gb155 ≠ gb156)); have n6_ := am_ ((q18_ : gb156 ≠ gb155)); clear BK155 HB; have BK155 := n0_; have HB := n1_; have BK156 := n2_; have GW156 := n3_; have GE156 := n4_; have NB155_156 := n5_; have NB156_155 := n6_; clear n0_ n1_ n2_ n3_ n4_ n5_ n6_; clear hb hbox hg) | ((with_reducible refine gate_dst (N := 4) rfl ?_); refine box_event ?hg (N := 4) ?hd (cs := #[.int .i64 0, .int .i64 0, .int .i64 0, .slice none 0 0]) (t := 26) ?hr ?_; (case hd => rfl); (case hg => rfl); (case hr => first | (go_simp; done) | (go_simp; rfl)); intro gb157 hg w6 hbox hb; have n0_ := am_ (blk_below (g := gb155) (o := .cells #[.int .i64 a0_0, .int .i64 a0_1, .int .i64 a0_2, .slice A0_3 l0_3.length c0_3] 26 (0, 0)) q164_ hb); have n1_ := am_ (blk_below (g := gb156) (o := .cells #[.int .i64 a1_0, .int .i64 a1_1, .int .i64 a1_2, .int .i64 a1_3] 31 (0, 0)) q165_ hb); have n2_ := am_ (below_step q100_ hb); have n3_ := am_ (hbox); have n4_ := am_ ((by rw [hg]; exact (below_size q100_) : w.heap.size ≤ gb157)); have n5_ := am_ ((by rw [hg]; exact (below_size q100_) : w.heap.size ≤ gb157)); have n6_ := am_ ((q17_ : gb155 ≠ gb157)); have n7_ := am_ ((q18_ : gb157 ≠ gb155)); have n8_ := am_ ((by rw [hg]; exact Nat.ne_of_lt (blk_lt (g := gb156) (o := .cells #[.int .i64 a1_0, .int .i64 a1_1, .int .i64 a1_2, .int .i64 a1_3] 31 (0, 0)) q165_) : gb156 ≠ gb157)); have n9_ := am_ ((by rw [hg]; exact Nat.ne_of_gt (blk_lt (g := gb156) (o := .cells #[.int .i64 a1_0, .int .i64 a1_1, .int .i64 a1_2, .int .i64 a1_3] 31 (0, 0)) q165_) : gb157 ≠ gb156)); clear BK155 BK156 HB; have BK155 := n0_; have BK156 := n1_; have HB := n2_; have BK157 := n3_; have GW157 := n4_; have GE157 := n5_; have NB155_157 := n6_; have NB157_155 := n7_; have NB156_157 := n8_; have NB157_156 := n9_; clear n0_ n1_ n2_ n3_ n4_ n5_ n6_ n7_ n8_ n9_; clear hb hbox hg))
 (try simp only [Act.put, la_, lz_, ls_])
 go_cut [21] (fun v21 wc => ∃ (kq : Nat) (x21_2 : Bool), v21 = .bool x21_2 ∧ Aside0 (plane_Crop.j0 kq x21_2 a0_0 a0_1 a0_2 l0_3 a1_0 a1_1 a1_2 a1_3 = some (r1, r2, r3, r4, r5)) ∧ Aside0 (kq ≤ k) ∧ Aside0 (wc.heap[gb155]? = some (.cells #[.int .i64 a0_0, .int .i64 a0_1, .int .i64 a0_2, (.slice A0_3 l0_3.length c0_3)] 26 (0, 0))) ∧ Aside0 (wc.heap[gb156]? = some (.cells #[.int .i64 a1_0, .int .i64 a1_1, .int .i64 a1_2, .int .i64 a1_3] 31 (0, 0))) ∧ Aside0 (wc.heap[gb157]? = some (.cells #[.int .i64 0, .int .i64 0, .int .i64 0, (.slice none 0 0)] 26 (0, 0))) ∧ Aside0 (Below w.heap.size w wc))
 case first =>
  have H := HC3.out; clear HC3; replace H := Option.bind_eq_some_iff.mp H; obtain ⟨t158, A70, H⟩ := H; replace H : (if t158 = true then ((rect_Empty.f a1_0 a1_1 a1_2 a1_3).bind fun t159 => (if t159 = true then (plane_Crop.j0 k true a0_0 a0_1 a0_2 l0_3 a1_0 a1_1 a1_2 a1_3) else ((plane_covered.f a0_0 a0_1 a0_2 l0_3).bind fun bt160 => ((rect_Inside.f k a1_0 a1_1 a1_2 a1_3 bt160.1 bt160.2.1 bt160.2.2.1 bt160.2.2.2).bind fun t164 => (plane_Crop.j0 k (!t164) a0_0 a0_1 a0_2 l0_3 a1_0 a1_1 a1_2 a1_3))))) else (plane_Crop.j0 k true a0_0 a0_1 a0_2 l0_3 a1_0 a1_1 a1_2 a1_3)) = some (r1, r2, r3, r4, r5) := H; have A7 := am_ A70; clear A70
  by_cases c8 : t158 = true
  ·subst c8
   have H1 : ((rect_Empty.f a1_0 a1_1 a1_2 a1_3).bind fun t159 => (if t159 = true then (plane_Crop.j0 k true a0_0 a0_1 a0_2 l0_3 a1_0 a1_1 a1_2 a1_3) else ((plane_covered.f a0_0 a0_1 a0_2 l0_3).bind fun bt160 => ((rect_Inside.f k a1_0 a1_1 a1_2 a1_3 bt160.1 bt160.2.1 bt160.2.2.1 bt160.2.2.2).bind fun t164 => (plane_Crop.j0 k (!t164) a0_0 a0_1 a0_2 l0_3 a1_0 a1_1 a1_2 a1_3))))) = some (r1, r2, r3, r4, r5) := by rw [if_pos rfl] at H; exact H
   clear H; have H := H1; clear H1; replace H := Option.bind_eq_some_iff.mp H; obtain ⟨t159, A90, H⟩ := H; replace H : (if t159 = true then (plane_Crop.j0 k true a0_0 a0_1 a0_2 l0_3 a1_0 a1_1 a1_2 a1_3) else ((plane_covered.f a0_0 a0_1 a0_2 l0_3).bind fun bt160 => ((rect_Inside.f k a1_0 a1_1 a1_2 a1_3 bt160.1 bt160.2.1 bt160.2.2.1 bt160.2.2.2).bind fun t164 => (plane_Crop.j0 k (!t164) a0_0 a0_1 a0_2 l0_3 a1_0 a1_1 a1_2 a1_3)))) = some (r1, r2, r3, r4, r5) := H; have A9 := am_ A90; clear A90
   by_cases c10 : t159 = true
   ·subst c10
    have H1 : (plane_Crop.j0 k true a0_0 a0_1 a0_2 l0_3 a1_0 a1_1 a1_2 a1_3) = some (r1, r2, r3, r4, r5) := by rw [if_pos rfl] at H; exact H
    clear H; have H := H1; clear H1; have H' := am_ H; clear H
    try go_wp2
    have n0_ := am_ (blk_drew BK155.out); have n1_ := am_ (blk_drew BK156.out); have n2_ := am_ (blk_drew BK157.out); have n3_ := am_ (below_drew1 HB.out); clear BK155 BK156 BK157 HB; have BK155 := n0_; have BK156 := n1_; have BK157 := n2_; have HB := n3_; clear n0_ n1_ n2_ n3_; refine start_ (n := 14) (S := fun w' => w'.cell? ⟨gb155, 0, none⟩ = some (.int .i64 a0_0) ∧ w'.cell? ⟨gb155, 1, none⟩ = some (.int .i64 a0_1) ∧ w'.cell? ⟨gb155, 2, none⟩ = some (.int .i64 a0_2) ∧ w'.cell? ⟨gb155, 3, none⟩ = some (.slice A0_3 l0_3.length c0_3) ∧ w'.cell? ⟨gb156, 0, none⟩ = some (.int .i64 a1_0) ∧ w'.cell? ⟨gb156, 1, none⟩ = some (.int .i64 a1_1) ∧ w'.cell? ⟨gb156, 2, none⟩ = some (.int .i64 a1_2) ∧ w'.cell? ⟨gb156, 3, none⟩ = some (.int .i64 a1_3)) (ds := []) #[F_, F_, F_, F_, F_, F_, F_, F_, F_, F_, F_, F_, F_, F_] (by kernel_rfl) rfl rfl ⟨bc0_ BK155.out, bc1_ BK155.out, bc2_ BK155.out, bc3_ BK155.out, bc0_ BK156.out, bc1_ BK156.out, bc2_ BK156.out, bc3_ BK156.out⟩ (fun hHeld => ?_); refine with_tabW plane_Crop.tab1 plane_Crop.bits1 (fun HT_ HW_ => ?_); generalize w6.drew = w11 at BK155 BK156 BK157 HB hHeld ⊢; refine take_ (i := 0) (N := some 8) (v := ?_) (a' := ?_) #[T_, F_, F_, F_, F_, F_, F_, F_, F_, F_, F_, F_, F_, F_] rfl rfl (take_ofW HT_.out HW_.out (by kernel_rfl)) (fun _ _ _ h => h) (Or.inl ⟨by rfl, ?_⟩) hHeld ?_ ?_; rotate_left
    ·rintro w' ⟨s0, s1, s2, s3, s4, s5, s6, s7⟩
     go_simp
     with_reducible rfl
    rotate_left
    ·simp only [Act.put, la_, lz_, ls_, i64_w, i32_w]
     rfl
    refine one_ (i := 1) (N := some 9) #[T_, T_, F_, F_, F_, F_, F_, F_, F_, F_, F_, F_, F_, F_] rfl rfl (one_of HT_.out (by kernel_rfl)) (by decide) (fun K hK => ?_); refine goes_ Try.func17 (by kernel_rfl) rfl #[.agg #[.int .i64 a0_0, .int .i64 a0_1, .int .i64 a0_2, .slice A0_3 l0_3.length c0_3]] (by rfl) rfl rfl q150_ ?_
    with_reducible refine (plane_Valid.calls k a0_0 a0_1 a0_2 _ _ l0_3 true _ ?side1 ?side2 A7.out).mono ?_
    (case side1 => repeat (first | exact (Kd.C_below HR0_3.out HB.out) | (with_reducible refine Kd.C_alloc ?_ _) | (with_reducible refine Kd.C_drewN ?_ _) | (with_reducible refine Kd.C_drew ?_))); (case side2 => exact HC0_3.out); rintro e w12 ⟨rfl, hb⟩; refine ⟨_, rfl, ?_⟩; have n0_ := am_ (blk_below (g := gb155) (o := .cells #[.int .i64 a0_0, .int .i64 a0_1, .int .i64 a0_2, .slice A0_3 l0_3.length c0_3] 26 (0, 0)) q164_ hb); have n1_ := am_ (blk_below (g := gb156) (o := .cells #[.int .i64 a1_0, .int .i64 a1_1, .int .i64 a1_2, .int .i64 a1_3] 31 (0, 0)) q165_ hb); have n2_ := am_ (blk_below (g := gb157) (o := .cells #[.int .i64 0, .int .i64 0, .int .i64 0, .slice none 0 0] 26 (0, 0)) q166_ hb); have n3_ := am_ (below_step q75_ hb); clear BK155 BK156 BK157 HB; have BK155 := n0_; have BK156 := n1_; have BK157 := n2_; have HB := n3_; clear n0_ n1_ n2_ n3_; (try clear hb); (try clear hb2); (try clear hk); (try clear hi); refine hK.out _ _ ⟨bc0_ BK155.out, bc1_ BK155.out, bc2_ BK155.out, bc3_ BK155.out, bc0_ BK156.out, bc1_ BK156.out, bc2_ BK156.out, bc3_ BK156.out⟩ (fun hHeld => ?_); clear hK K; refine norm_ (a' := ?_) ?_ ?_; rotate_left
    ·show Act.put _ (some 9) _ = _
     simp only [Act.put, la_, lz_, ls_, i64_w, i32_w]; rfl
    refine pure_ (i := 2) (N := some 10) (v := ?_) (a' := ?_) #[T_, T_, T_, F_, F_, F_, F_, F_, F_, F_, F_, F_, F_, F_] rfl rfl (any_of HT_.out (by kernel_rfl)) (fun _ _ _ h => h) (Or.inl ⟨by rfl, ?_⟩) ?_ ?_; rotate_left
    ·intro w'
     go_simp
     with_reducible rfl
    rotate_left
    ·simp only [Act.put, la_, lz_, ls_, i64_w, i32_w]
     rfl
    refine pure_ (i := 3) (N := some 11) (v := ?_) (a' := ?_) #[T_, T_, T_, T_, F_, F_, F_, F_, F_, F_, F_, F_, F_, F_] rfl rfl (any_of HT_.out (by kernel_rfl)) (fun _ _ _ h => h) (Or.inl ⟨by rfl, ?_⟩) ?_ ?_; rotate_left
    ·intro w'
     go_simp
     with_reducible rfl
    rotate_left
    ·simp only [Act.put, la_, lz_, ls_, i64_w, i32_w]
     rfl
    refine take_ (i := 4) (N := some 12) (v := ?_) (a' := ?_) #[T_, T_, T_, T_, T_, F_, F_, F_, F_, F_, F_, F_, F_, F_] rfl rfl (take_ofW HT_.out HW_.out (by kernel_rfl)) (fun _ _ _ h => h) (Or.inl ⟨by rfl, ?_⟩) hHeld ?_ ?_; rotate_left
    ·rintro w' ⟨s0, s1, s2, s3, s4, s5, s6, s7⟩
     go_simp
     with_reducible rfl
    rotate_left
    ·simp only [Act.put, la_, lz_, ls_, i64_w, i32_w]
     rfl
    refine one_ (i := 5) (N := some 13) #[T_, T_, T_, T_, T_, T_, F_, F_, F_, F_, F_, F_, F_, F_] rfl rfl (one_of HT_.out (by kernel_rfl)) (by decide) (fun K hK => ?_); refine goes_ Try.func33 (by kernel_rfl) rfl #[.agg #[.int .i64 a1_0, .int .i64 a1_1, .int .i64 a1_2, .int .i64 a1_3]] (by rfl) rfl rfl q150_ ?_
    with_reducible refine (rect_Empty.calls a1_0 a1_1 a1_2 a1_3 true _ A9.out).mono ?_
    rintro e w13 ⟨rfl, hb⟩; refine ⟨_, rfl, ?_⟩; have n0_ := am_ (blk_below (g := gb155) (o := .cells #[.int .i64 a0_0, .int .i64 a0_1, .int .i64 a0_2, .slice A0_3 l0_3.length c0_3] 26 (0, 0)) q164_ hb); have n1_ := am_ (blk_below (g := gb156) (o := .cells #[.int .i64 a1_0, .int .i64 a1_1, .int .i64 a1_2, .int .i64 a1_3] 31 (0, 0)) q165_ hb); have n2_ := am_ (blk_below (g := gb157) (o := .cells #[.int .i64 0, .int .i64 0, .int .i64 0, .slice none 0 0] 26 (0, 0)) q166_ hb); have n3_ := am_ (below_step q75_ hb); clear BK155 BK156 BK157 HB; have BK155 := n0_; have BK156 := n1_; have BK157 := n2_; have HB := n3_; clear n0_ n1_ n2_ n3_; (try clear hb); (try clear hb2); (try clear hk); (try clear hi); refine hK.out _ _ ⟨bc0_ BK155.out, bc1_ BK155.out, bc2_ BK155.out, bc3_ BK155.out, bc0_ BK156.out, bc1_ BK156.out, bc2_ BK156.out, bc3_ BK156.out⟩ (fun hHeld => ?_); clear hK K; refine norm_ (a' := ?_) ?_ ?_; rotate_left
    ·show Act.put _ (some 13) _ = _
     simp only [Act.put, la_, lz_, ls_, i64_w, i32_w]; rfl
    refine pure_ (i := 6) (N := some 14) (v := ?_) (a' := ?_) #[T_, T_, T_, T_, T_, T_, T_, F_, F_, F_, F_, F_, F_, F_] rfl rfl (any_of HT_.out (by kernel_rfl)) (fun _ _ _ h => h) (Or.inl ⟨by rfl, ?_⟩) ?_ ?_; rotate_left
    ·intro w'
     go_simp
     with_reducible rfl
    rotate_left
    ·simp only [Act.put, la_, lz_, ls_, i64_w, i32_w]
     rfl
    refine pure_ (i := 7) (N := some 15) (v := ?_) (a' := ?_) #[T_, T_, T_, T_, T_, T_, T_, T_, F_, F_, F_, F_, F_, F_] rfl rfl (any_of HT_.out (by kernel_rfl)) (fun _ _ _ h => h) (Or.inl ⟨by rfl, ?_⟩) ?_ ?_; rotate_left
    ·intro w'
     go_simp
     with_reducible rfl
    rotate_left
    ·simp only [Act.put, la_, lz_, ls_, i64_w, i32_w]
     rfl
    refine pure_ (i := 8) (N := some 16) (v := undef) (a' := ?_) #[T_, T_, T_, T_, T_, T_, T_, T_, T_, F_, F_, F_, F_, F_] rfl rfl (any_of HT_.out (by kernel_rfl)) (fun _ _ _ h => h) (Or.inr ⟨by rfl, rfl⟩) ?_ ?_; rotate_left
    ·simp only [Act.put, la_, lz_, ls_, i64_w, i32_w]
     rfl
    refine pure_ (i := 9) (N := some 17) (v := undef) (a' := ?_) #[T_, T_, T_, T_, T_, T_, T_, T_, T_, T_, F_, F_, F_, F_] rfl rfl (any_of HT_.out (by kernel_rfl)) (fun _ _ _ h => h) (Or.inr ⟨by rfl, rfl⟩) ?_ ?_; rotate_left
    ·simp only [Act.put, la_, lz_, ls_, i64_w, i32_w]
     rfl
    refine pure_ (i := 10) (N := some 18) (v := undef) (a' := ?_) #[T_, T_, T_, T_, T_, T_, T_, T_, T_, T_, T_, F_, F_, F_] rfl rfl (any_of HT_.out (by kernel_rfl)) (fun _ _ _ h => h) (Or.inr ⟨by rfl, rfl⟩) ?_ ?_; rotate_left
    ·simp only [Act.put, la_, lz_, ls_, i64_w, i32_w]
     rfl
    refine pure_ (i := 11) (N := some 19) (v := undef) (a' := ?_) #[T_, T_, T_, T_, T_, T_, T_, T_, T_, T_, T_, T_, F_, F_] rfl rfl (any_of HT_.out (by kernel_rfl)) (fun _ _ _ h => h) (Or.inr ⟨by rfl, rfl⟩) ?_ ?_; rotate_left
    ·simp only [Act.put, la_, lz_, ls_, i64_w, i32_w]
     rfl
    refine pure_ (i := 12) (N := some 20) (v := undef) (a' := ?_) #[T_, T_, T_, T_, T_, T_, T_, T_, T_, T_, T_, T_, T_, F_] rfl rfl (any_of HT_.out (by kernel_rfl)) (fun _ _ _ h => h) (Or.inr ⟨by rfl, rfl⟩) ?_ ?_; rotate_left
    ·simp only [Act.put, la_, lz_, ls_, i64_w, i32_w]
     rfl
    refine pure_ (i := 13) (N := some 21) (v := ?_) (a' := ?_) #[T_, T_, T_, T_, T_, T_, T_, T_, T_, T_, T_, T_, T_, T_] rfl rfl (any_of HT_.out (by kernel_rfl)) (fun _ _ _ h => h) (Or.inl ⟨by rfl, ?_⟩) ?_ ?_; rotate_left
    ·intro w'
     go_simp
     with_reducible rfl
    rotate_left
    ·simp only [Act.put, la_, lz_, ls_, i64_w, i32_w]
     rfl
    refine done_ (done_of HT_.out (by kernel_rfl)) ?_
    try go_wp2
    go_meet
    case rel => exact ⟨_, (true), q227_, H', ⟨by first | omega | exact Nat.le_refl _⟩, ⟨q164_⟩, ⟨q165_⟩, ⟨q166_⟩, ⟨q75_⟩⟩
   ·replace c10 := Bool.eq_false_iff.mpr c10
    subst c10; have H1 : ((plane_covered.f a0_0 a0_1 a0_2 l0_3).bind fun bt160 => ((rect_Inside.f k a1_0 a1_1 a1_2 a1_3 bt160.1 bt160.2.1 bt160.2.2.1 bt160.2.2.2).bind fun t164 => (plane_Crop.j0 k (!t164) a0_0 a0_1 a0_2 l0_3 a1_0 a1_1 a1_2 a1_3))) = some (r1, r2, r3, r4, r5) := by rw [if_neg (show ¬ (false = true) by decide)] at H; exact H
    clear H; have H := H1; clear H1; replace H := Option.bind_eq_some_iff.mp H; obtain ⟨⟨t160, t161, t162, t163⟩, A140, H⟩ := H; replace H : ((rect_Inside.f k a1_0 a1_1 a1_2 a1_3 t160 t161 t162 t163).bind fun t164 => (plane_Crop.j0 k (!t164) a0_0 a0_1 a0_2 l0_3 a1_0 a1_1 a1_2 a1_3)) = some (r1, r2, r3, r4, r5) := H; have A14 := am_ A140; clear A140; replace H := Option.bind_eq_some_iff.mp H; obtain ⟨t164, A150, H⟩ := H; replace H : (plane_Crop.j0 k (!t164) a0_0 a0_1 a0_2 l0_3 a1_0 a1_1 a1_2 a1_3) = some (r1, r2, r3, r4, r5) := H; have A15 := am_ A150; clear A150; have H' := am_ H; clear H
    try go_wp2
    have n0_ := am_ (blk_drew BK155.out); have n1_ := am_ (blk_drew BK156.out); have n2_ := am_ (blk_drew BK157.out); have n3_ := am_ (below_drew1 HB.out); clear BK155 BK156 BK157 HB; have BK155 := n0_; have BK156 := n1_; have BK157 := n2_; have HB := n3_; clear n0_ n1_ n2_ n3_; refine start_ (n := 14) (S := fun w' => w'.cell? ⟨gb155, 0, none⟩ = some (.int .i64 a0_0) ∧ w'.cell? ⟨gb155, 1, none⟩ = some (.int .i64 a0_1) ∧ w'.cell? ⟨gb155, 2, none⟩ = some (.int .i64 a0_2) ∧ w'.cell? ⟨gb155, 3, none⟩ = some (.slice A0_3 l0_3.length c0_3) ∧ w'.cell? ⟨gb156, 0, none⟩ = some (.int .i64 a1_0) ∧ w'.cell? ⟨gb156, 1, none⟩ = some (.int .i64 a1_1) ∧ w'.cell? ⟨gb156, 2, none⟩ = some (.int .i64 a1_2) ∧ w'.cell? ⟨gb156, 3, none⟩ = some (.int .i64 a1_3)) (ds := []) #[F_, F_, F_, F_, F_, F_, F_, F_, F_, F_, F_, F_, F_, F_] (by kernel_rfl) rfl rfl ⟨bc0_ BK155.out, bc1_ BK155.out, bc2_ BK155.out, bc3_ BK155.out, bc0_ BK156.out, bc1_ BK156.out, bc2_ BK156.out, bc3_ BK156.out⟩ (fun hHeld => ?_); refine with_tabW plane_Crop.tab1 plane_Crop.bits1 (fun HT_ HW_ => ?_); generalize w6.drew = w16 at BK155 BK156 BK157 HB hHeld ⊢; refine take_ (i := 0) (N := some 8) (v := ?_) (a' := ?_) #[T_, F_, F_, F_, F_, F_, F_, F_, F_, F_, F_, F_, F_, F_] rfl rfl (take_ofW HT_.out HW_.out (by kernel_rfl)) (fun _ _ _ h => h) (Or.inl ⟨by rfl, ?_⟩) hHeld ?_ ?_; rotate_left
    ·rintro w' ⟨s0, s1, s2, s3, s4, s5, s6, s7⟩
     go_simp
     with_reducible rfl
    rotate_left
    ·simp only [Act.put, la_, lz_, ls_, i64_w, i32_w]
     rfl
    refine one_ (i := 1) (N := some 9) #[T_, T_, F_, F_, F_, F_, F_, F_, F_, F_, F_, F_, F_, F_] rfl rfl (one_of HT_.out (by kernel_rfl)) (by decide) (fun K hK => ?_); refine goes_ Try.func17 (by kernel_rfl) rfl #[.agg #[.int .i64 a0_0, .int .i64 a0_1, .int .i64 a0_2, .slice A0_3 l0_3.length c0_3]] (by rfl) rfl rfl q150_ ?_
    with_reducible refine (plane_Valid.calls k a0_0 a0_1 a0_2 _ _ l0_3 true _ ?side1 ?side2 A7.out).mono ?_
    (case side1 => repeat (first | exact (Kd.C_below HR0_3.out HB.out) | (with_reducible refine Kd.C_alloc ?_ _) | (with_reducible refine Kd.C_drewN ?_ _) | (with_reducible refine Kd.C_drew ?_))); (case side2 => exact HC0_3.out); rintro e w17 ⟨rfl, hb⟩; refine ⟨_, rfl, ?_⟩; have n0_ := am_ (blk_below (g := gb155) (o := .cells #[.int .i64 a0_0, .int .i64 a0_1, .int .i64 a0_2, .slice A0_3 l0_3.length c0_3] 26 (0, 0)) q164_ hb); have n1_ := am_ (blk_below (g := gb156) (o := .cells #[.int .i64 a1_0, .int .i64 a1_1, .int .i64 a1_2, .int .i64 a1_3] 31 (0, 0)) q165_ hb); have n2_ := am_ (blk_below (g := gb157) (o := .cells #[.int .i64 0, .int .i64 0, .int .i64 0, .slice none 0 0] 26 (0, 0)) q166_ hb); have n3_ := am_ (below_step q75_ hb); clear BK155 BK156 BK157 HB; have BK155 := n0_; have BK156 := n1_; have BK157 := n2_; have HB := n3_; clear n0_ n1_ n2_ n3_; (try clear hb); (try clear hb2); (try clear hk); (try clear hi); refine hK.out _ _ ⟨bc0_ BK155.out, bc1_ BK155.out, bc2_ BK155.out, bc3_ BK155.out, bc0_ BK156.out, bc1_ BK156.out, bc2_ BK156.out, bc3_ BK156.out⟩ (fun hHeld => ?_); clear hK K; refine norm_ (a' := ?_) ?_ ?_; rotate_left
    ·show Act.put _ (some 9) _ = _
     simp only [Act.put, la_, lz_, ls_, i64_w, i32_w]; rfl
    refine pure_ (i := 2) (N := some 10) (v := ?_) (a' := ?_) #[T_, T_, T_, F_, F_, F_, F_, F_, F_, F_, F_, F_, F_, F_] rfl rfl (any_of HT_.out (by kernel_rfl)) (fun _ _ _ h => h) (Or.inl ⟨by rfl, ?_⟩) ?_ ?_; rotate_left
    ·intro w'
     go_simp
     with_reducible rfl
    rotate_left
    ·simp only [Act.put, la_, lz_, ls_, i64_w, i32_w]
     rfl
    refine pure_ (i := 3) (N := some 11) (v := ?_) (a' := ?_) #[T_, T_, T_, T_, F_, F_, F_, F_, F_, F_, F_, F_, F_, F_] rfl rfl (any_of HT_.out (by kernel_rfl)) (fun _ _ _ h => h) (Or.inl ⟨by rfl, ?_⟩) ?_ ?_; rotate_left
    ·intro w'
     go_simp
     with_reducible rfl
    rotate_left
    ·simp only [Act.put, la_, lz_, ls_, i64_w, i32_w]
     rfl
    refine take_ (i := 4) (N := some 12) (v := ?_) (a' := ?_) #[T_, T_, T_, T_, T_, F_, F_, F_, F_, F_, F_, F_, F_, F_] rfl rfl (take_ofW HT_.out HW_.out (by kernel_rfl)) (fun _ _ _ h => h) (Or.inl ⟨by rfl, ?_⟩) hHeld ?_ ?_; rotate_left
    ·rintro w' ⟨s0, s1, s2, s3, s4, s5, s6, s7⟩
     go_simp
     with_reducible rfl
    rotate_left
    ·simp only [Act.put, la_, lz_, ls_, i64_w, i32_w]
     rfl
    refine one_ (i := 5) (N := some 13) #[T_, T_, T_, T_, T_, T_, F_, F_, F_, F_, F_, F_, F_, F_] rfl rfl (one_of HT_.out (by kernel_rfl)) (by decide) (fun K hK => ?_); refine goes_ Try.func33 (by kernel_rfl) rfl #[.agg #[.int .i64 a1_0, .int .i64 a1_1, .int .i64 a1_2, .int .i64 a1_3]] (by rfl) rfl rfl q150_ ?_
    with_reducible refine (rect_Empty.calls a1_0 a1_1 a1_2 a1_3 false _ A9.out).mono ?_
    rintro e w18 ⟨rfl, hb⟩; refine ⟨_, rfl, ?_⟩; have n0_ := am_ (blk_below (g := gb155) (o := .cells #[.int .i64 a0_0, .int .i64 a0_1, .int .i64 a0_2, .slice A0_3 l0_3.length c0_3] 26 (0, 0)) q164_ hb); have n1_ := am_ (blk_below (g := gb156) (o := .cells #[.int .i64 a1_0, .int .i64 a1_1, .int .i64 a1_2, .int .i64 a1_3] 31 (0, 0)) q165_ hb); have n2_ := am_ (blk_below (g := gb157) (o := .cells #[.int .i64 0, .int .i64 0, .int .i64 0, .slice none 0 0] 26 (0, 0)) q166_ hb); have n3_ := am_ (below_step q75_ hb); clear BK155 BK156 BK157 HB; have BK155 := n0_; have BK156 := n1_; have BK157 := n2_; have HB := n3_; clear n0_ n1_ n2_ n3_; (try clear hb); (try clear hb2); (try clear hk); (try clear hi); refine hK.out _ _ ⟨bc0_ BK155.out, bc1_ BK155.out, bc2_ BK155.out, bc3_ BK155.out, bc0_ BK156.out, bc1_ BK156.out, bc2_ BK156.out, bc3_ BK156.out⟩ (fun hHeld => ?_); clear hK K; refine norm_ (a' := ?_) ?_ ?_; rotate_left
    ·show Act.put _ (some 13) _ = _
     simp only [Act.put, la_, lz_, ls_, i64_w, i32_w]; rfl
    refine pure_ (i := 6) (N := some 14) (v := ?_) (a' := ?_) #[T_, T_, T_, T_, T_, T_, T_, F_, F_, F_, F_, F_, F_, F_] rfl rfl (any_of HT_.out (by kernel_rfl)) (fun _ _ _ h => h) (Or.inl ⟨by rfl, ?_⟩) ?_ ?_; rotate_left
    ·intro w'
     go_simp
     with_reducible rfl
    rotate_left
    ·simp only [Act.put, la_, lz_, ls_, i64_w, i32_w]
     rfl
    refine pure_ (i := 7) (N := some 15) (v := ?_) (a' := ?_) #[T_, T_, T_, T_, T_, T_, T_, T_, F_, F_, F_, F_, F_, F_] rfl rfl (any_of HT_.out (by kernel_rfl)) (fun _ _ _ h => h) (Or.inl ⟨by rfl, ?_⟩) ?_ ?_; rotate_left
    ·intro w'
     go_simp
     with_reducible rfl
    rotate_left
    ·simp only [Act.put, la_, lz_, ls_, i64_w, i32_w]
     rfl
    refine take_ (i := 8) (N := some 16) (v := ?_) (a' := ?_) #[T_, T_, T_, T_, T_, T_, T_, T_, T_, F_, F_, F_, F_, F_] rfl rfl (take_ofW HT_.out HW_.out (by kernel_rfl)) (fun _ _ _ h => h) (Or.inl ⟨by rfl, ?_⟩) hHeld ?_ ?_; rotate_left
    ·rintro w' ⟨s0, s1, s2, s3, s4, s5, s6, s7⟩
     go_simp
     with_reducible rfl
    rotate_left
    ·simp only [Act.put, la_, lz_, ls_, i64_w, i32_w]
     rfl
    refine take_ (i := 9) (N := some 17) (v := ?_) (a' := ?_) #[T_, T_, T_, T_, T_, T_, T_, T_, T_, T_, F_, F_, F_, F_] rfl rfl (take_ofW HT_.out HW_.out (by kernel_rfl)) (fun _ _ _ h => h) (Or.inl ⟨by rfl, ?_⟩) hHeld ?_ ?_; rotate_left
    ·rintro w' ⟨s0, s1, s2, s3, s4, s5, s6, s7⟩
     go_simp
     with_reducible rfl
    rotate_left
    ·simp only [Act.put, la_, lz_, ls_, i64_w, i32_w]
     rfl
    refine one_ (i := 10) (N := some 18) #[T_, T_, T_, T_, T_, T_, T_, T_, T_, T_, T_, F_, F_, F_] rfl rfl (one_of HT_.out (by kernel_rfl)) (by decide) (fun K hK => ?_); refine goes_ Try.func35 (by kernel_rfl) rfl #[.agg #[.int .i64 a0_0, .int .i64 a0_1, .int .i64 a0_2, .slice A0_3 l0_3.length c0_3]] (by rfl) rfl rfl q150_ ?_
    with_reducible refine (plane_covered.calls a0_0 a0_1 a0_2 _ _ l0_3 t160 t161 t162 t163 _ ?side1 ?side2 A14.out).mono ?_
    (case side1 => repeat (first | exact (Kd.C_below HR0_3.out HB.out) | (with_reducible refine Kd.C_alloc ?_ _) | (with_reducible refine Kd.C_drewN ?_ _) | (with_reducible refine Kd.C_drew ?_))); (case side2 => exact HC0_3.out); rintro e w19 ⟨rfl, hb⟩; refine ⟨_, rfl, ?_⟩; have n0_ := am_ (blk_below (g := gb155) (o := .cells #[.int .i64 a0_0, .int .i64 a0_1, .int .i64 a0_2, .slice A0_3 l0_3.length c0_3] 26 (0, 0)) q164_ hb); have n1_ := am_ (blk_below (g := gb156) (o := .cells #[.int .i64 a1_0, .int .i64 a1_1, .int .i64 a1_2, .int .i64 a1_3] 31 (0, 0)) q165_ hb); have n2_ := am_ (blk_below (g := gb157) (o := .cells #[.int .i64 0, .int .i64 0, .int .i64 0, .slice none 0 0] 26 (0, 0)) q166_ hb); have n3_ := am_ (below_step q75_ hb); clear BK155 BK156 BK157 HB; have BK155 := n0_; have BK156 := n1_; have BK157 := n2_; have HB := n3_; clear n0_ n1_ n2_ n3_; (try clear hb); (try clear hb2); (try clear hk); (try clear hi); refine hK.out _ _ ⟨bc0_ BK155.out, bc1_ BK155.out, bc2_ BK155.out, bc3_ BK155.out, bc0_ BK156.out, bc1_ BK156.out, bc2_ BK156.out, bc3_ BK156.out⟩ (fun hHeld => ?_); clear hK K; refine norm_ (a' := ?_) ?_ ?_; rotate_left
    ·show Act.put _ (some 18) _ = _
     simp only [Act.put, la_, lz_, ls_, i64_w, i32_w]; rfl
    refine one_ (i := 11) (N := some 19) #[T_, T_, T_, T_, T_, T_, T_, T_, T_, T_, T_, T_, F_, F_] rfl rfl (one_of HT_.out (by kernel_rfl)) (by decide) (fun K hK => ?_); refine goes_ Try.func34 (by kernel_rfl) rfl #[.agg #[.int .i64 a1_0, .int .i64 a1_1, .int .i64 a1_2, .int .i64 a1_3], .agg #[.int .i64 t160, .int .i64 t161, .int .i64 t162, .int .i64 t163]] (by rfl) rfl rfl q150_ ?_
    with_reducible refine (rect_Inside.calls k a1_0 a1_1 a1_2 a1_3 t160 t161 t162 t163 t164 _ A15.out).mono ?_
    rintro e w20 ⟨rfl, hb⟩; refine ⟨_, rfl, ?_⟩; have n0_ := am_ (blk_below (g := gb155) (o := .cells #[.int .i64 a0_0, .int .i64 a0_1, .int .i64 a0_2, .slice A0_3 l0_3.length c0_3] 26 (0, 0)) q164_ hb); have n1_ := am_ (blk_below (g := gb156) (o := .cells #[.int .i64 a1_0, .int .i64 a1_1, .int .i64 a1_2, .int .i64 a1_3] 31 (0, 0)) q165_ hb); have n2_ := am_ (blk_below (g := gb157) (o := .cells #[.int .i64 0, .int .i64 0, .int .i64 0, .slice none 0 0] 26 (0, 0)) q166_ hb); have n3_ := am_ (below_step q75_ hb); clear BK155 BK156 BK157 HB; have BK155 := n0_; have BK156 := n1_; have BK157 := n2_; have HB := n3_; clear n0_ n1_ n2_ n3_; (try clear hb); (try clear hb2); (try clear hk); (try clear hi); refine hK.out _ _ ⟨bc0_ BK155.out, bc1_ BK155.out, bc2_ BK155.out, bc3_ BK155.out, bc0_ BK156.out, bc1_ BK156.out, bc2_ BK156.out, bc3_ BK156.out⟩ (fun hHeld => ?_); clear hK K; refine norm_ (a' := ?_) ?_ ?_; rotate_left
    ·show Act.put _ (some 19) _ = _
     simp only [Act.put, la_, lz_, ls_, i64_w, i32_w]; rfl
    refine pure_ (i := 12) (N := some 20) (v := ?_) (a' := ?_) #[T_, T_, T_, T_, T_, T_, T_, T_, T_, T_, T_, T_, T_, F_] rfl rfl (any_of HT_.out (by kernel_rfl)) (fun _ _ _ h => h) (Or.inl ⟨by rfl, ?_⟩) ?_ ?_; rotate_left
    ·intro w'
     go_simp
     with_reducible rfl
    rotate_left
    ·simp only [Act.put, la_, lz_, ls_, i64_w, i32_w]
     rfl
    refine pure_ (i := 13) (N := some 21) (v := ?_) (a' := ?_) #[T_, T_, T_, T_, T_, T_, T_, T_, T_, T_, T_, T_, T_, T_] rfl rfl (any_of HT_.out (by kernel_rfl)) (fun _ _ _ h => h) (Or.inl ⟨by rfl, ?_⟩) ?_ ?_; rotate_left
    ·intro w'
     go_simp
     with_reducible rfl
    rotate_left
    ·simp only [Act.put, la_, lz_, ls_, i64_w, i32_w]
     rfl
    refine done_ (done_of HT_.out (by kernel_rfl)) ?_
    try go_wp2
    go_meet
    case rel => exact ⟨_, (!t164), q227_, H', ⟨by first | omega | exact Nat.le_refl _⟩, ⟨q164_⟩, ⟨q165_⟩, ⟨q166_⟩, ⟨q75_⟩⟩
  ·replace c8 := Bool.eq_false_iff.mpr c8
   subst c8; have H1 : (plane_Crop.j0 k true a0_0 a0_1 a0_2 l0_3 a1_0 a1_1 a1_2 a1_3) = some (r1, r2, r3, r4, r5) := by rw [if_neg (show ¬ (false = true) by decide)] at H; exact H
   clear H; have H := H1; clear H1; have H' := am_ H; clear H
   try go_wp2
   have n0_ := am_ (blk_drew BK155.out); have n1_ := am_ (blk_drew BK156.out); have n2_ := am_ (blk_drew BK157.out); have n3_ := am_ (below_drew1 HB.out); clear BK155 BK156 BK157 HB; have BK155 := n0_; have BK156 := n1_; have BK157 := n2_; have HB := n3_; clear n0_ n1_ n2_ n3_; refine start_ (n := 14) (S := fun w' => w'.cell? ⟨gb155, 0, none⟩ = some (.int .i64 a0_0) ∧ w'.cell? ⟨gb155, 1, none⟩ = some (.int .i64 a0_1) ∧ w'.cell? ⟨gb155, 2, none⟩ = some (.int .i64 a0_2) ∧ w'.cell? ⟨gb155, 3, none⟩ = some (.slice A0_3 l0_3.length c0_3)) (ds := []) #[F_, F_, F_, F_, F_, F_, F_, F_, F_, F_, F_, F_, F_, F_] (by kernel_rfl) rfl rfl ⟨bc0_ BK155.out, bc1_ BK155.out, bc2_ BK155.out, bc3_ BK155.out⟩ (fun hHeld => ?_); refine with_tabW plane_Crop.tab1 plane_Crop.bits1 (fun HT_ HW_ => ?_); generalize w6.drew = w21 at BK155 BK156 BK157 HB hHeld ⊢; refine take_ (i := 0) (N := some 8) (v := ?_) (a' := ?_) #[T_, F_, F_, F_, F_, F_, F_, F_, F_, F_, F_, F_, F_, F_] rfl rfl (take_ofW HT_.out HW_.out (by kernel_rfl)) (fun _ _ _ h => h) (Or.inl ⟨by rfl, ?_⟩) hHeld ?_ ?_; rotate_left
   ·rintro w' ⟨s0, s1, s2, s3⟩
    go_simp
    with_reducible rfl
   rotate_left
   ·simp only [Act.put, la_, lz_, ls_, i64_w, i32_w]
    rfl
   refine one_ (i := 1) (N := some 9) #[T_, T_, F_, F_, F_, F_, F_, F_, F_, F_, F_, F_, F_, F_] rfl rfl (one_of HT_.out (by kernel_rfl)) (by decide) (fun K hK => ?_); refine goes_ Try.func17 (by kernel_rfl) rfl #[.agg #[.int .i64 a0_0, .int .i64 a0_1, .int .i64 a0_2, .slice A0_3 l0_3.length c0_3]] (by rfl) rfl rfl q150_ ?_
   with_reducible refine (plane_Valid.calls k a0_0 a0_1 a0_2 _ _ l0_3 false _ ?side1 ?side2 A7.out).mono ?_
   (case side1 => repeat (first | exact (Kd.C_below HR0_3.out HB.out) | (with_reducible refine Kd.C_alloc ?_ _) | (with_reducible refine Kd.C_drewN ?_ _) | (with_reducible refine Kd.C_drew ?_))); (case side2 => exact HC0_3.out); rintro e w22 ⟨rfl, hb⟩; refine ⟨_, rfl, ?_⟩; have n0_ := am_ (blk_below (g := gb155) (o := .cells #[.int .i64 a0_0, .int .i64 a0_1, .int .i64 a0_2, .slice A0_3 l0_3.length c0_3] 26 (0, 0)) q164_ hb); have n1_ := am_ (blk_below (g := gb156) (o := .cells #[.int .i64 a1_0, .int .i64 a1_1, .int .i64 a1_2, .int .i64 a1_3] 31 (0, 0)) q165_ hb); have n2_ := am_ (blk_below (g := gb157) (o := .cells #[.int .i64 0, .int .i64 0, .int .i64 0, .slice none 0 0] 26 (0, 0)) q166_ hb); have n3_ := am_ (below_step q75_ hb); clear BK155 BK156 BK157 HB; have BK155 := n0_; have BK156 := n1_; have BK157 := n2_; have HB := n3_; clear n0_ n1_ n2_ n3_; (try clear hb); (try clear hb2); (try clear hk); (try clear hi); refine hK.out _ _ ⟨bc0_ BK155.out, bc1_ BK155.out, bc2_ BK155.out, bc3_ BK155.out⟩ (fun hHeld => ?_); clear hK K; refine norm_ (a' := ?_) ?_ ?_; rotate_left
   ·show Act.put _ (some 9) _ = _
    simp only [Act.put, la_, lz_, ls_, i64_w, i32_w]; rfl
   refine pure_ (i := 2) (N := some 10) (v := ?_) (a' := ?_) #[T_, T_, T_, F_, F_, F_, F_, F_, F_, F_, F_, F_, F_, F_] rfl rfl (any_of HT_.out (by kernel_rfl)) (fun _ _ _ h => h) (Or.inl ⟨by rfl, ?_⟩) ?_ ?_; rotate_left
   ·intro w'
    go_simp
    with_reducible rfl
   rotate_left
   ·simp only [Act.put, la_, lz_, ls_, i64_w, i32_w]
    rfl
   refine pure_ (i := 3) (N := some 11) (v := ?_) (a' := ?_) #[T_, T_, T_, T_, F_, F_, F_, F_, F_, F_, F_, F_, F_, F_] rfl rfl (any_of HT_.out (by kernel_rfl)) (fun _ _ _ h => h) (Or.inl ⟨by rfl, ?_⟩) ?_ ?_; rotate_left
   ·intro w'
    go_simp
    with_reducible rfl
   rotate_left
   ·simp only [Act.put, la_, lz_, ls_, i64_w, i32_w]
    rfl
   refine pure_ (i := 4) (N := some 12) (v := undef) (a' := ?_) #[T_, T_, T_, T_, T_, F_, F_, F_, F_, F_, F_, F_, F_, F_] rfl rfl (any_of HT_.out (by kernel_rfl)) (fun _ _ _ h => h) (Or.inr ⟨by rfl, rfl⟩) ?_ ?_; rotate_left
   ·simp only [Act.put, la_, lz_, ls_, i64_w, i32_w]
    rfl
   refine pure_ (i := 5) (N := some 13) (v := undef) (a' := ?_) #[T_, T_, T_, T_, T_, T_, F_, F_, F_, F_, F_, F_, F_, F_] rfl rfl (any_of HT_.out (by kernel_rfl)) (fun _ _ _ h => h) (Or.inr ⟨by rfl, rfl⟩) ?_ ?_; rotate_left
   ·simp only [Act.put, la_, lz_, ls_, i64_w, i32_w]
    rfl
   refine pure_ (i := 6) (N := some 14) (v := ?_) (a' := ?_) #[T_, T_, T_, T_, T_, T_, T_, F_, F_, F_, F_, F_, F_, F_] rfl rfl (any_of HT_.out (by kernel_rfl)) (fun _ _ _ h => h) (Or.inl ⟨by rfl, ?_⟩) ?_ ?_; rotate_left
   ·intro w'
    go_simp
    with_reducible rfl
   rotate_left
   ·simp only [Act.put, la_, lz_, ls_, i64_w, i32_w]
    rfl
   refine pure_ (i := 7) (N := some 15) (v := ?_) (a' := ?_) #[T_, T_, T_, T_, T_, T_, T_, T_, F_, F_, F_, F_, F_, F_] rfl rfl (any_of HT_.out (by kernel_rfl)) (fun _ _ _ h => h) (Or.inl ⟨by rfl, ?_⟩) ?_ ?_; rotate_left
   ·intro w'
    go_simp
    with_reducible rfl
   rotate_left
   ·simp only [Act.put, la_, lz_, ls_, i64_w, i32_w]
    rfl
   refine pure_ (i := 8) (N := some 16) (v := undef) (a' := ?_) #[T_, T_, T_, T_, T_, T_, T_, T_, T_, F_, F_, F_, F_, F_] rfl rfl (any_of HT_.out (by kernel_rfl)) (fun _ _ _ h => h) (Or.inr ⟨by rfl, rfl⟩) ?_ ?_; rotate_left
   ·simp only [Act.put, la_, lz_, ls_, i64_w, i32_w]
    rfl
   refine pure_ (i := 9) (N := some 17) (v := undef) (a' := ?_) #[T_, T_, T_, T_, T_, T_, T_, T_, T_, T_, F_, F_, F_, F_] rfl rfl (any_of HT_.out (by kernel_rfl)) (fun _ _ _ h => h) (Or.inr ⟨by rfl, rfl⟩) ?_ ?_; rotate_left
   ·simp only [Act.put, la_, lz_, ls_, i64_w, i32_w]
    rfl
   refine pure_ (i := 10) (N := some 18) (v := undef) (a' := ?_) #[T_, T_, T_, T_, T_, T_, T_, T_, T_, T_, T_, F_, F_, F_] rfl rfl (any_of HT_.out (by kernel_rfl)) (fun _ _ _ h => h) (Or.inr ⟨by rfl, rfl⟩) ?_ ?_; rotate_left
   ·simp only [Act.put, la_, lz_, ls_, i64_w, i32_w]
    rfl
   refine pure_ (i := 11) (N := some 19) (v := undef) (a' := ?_) #[T_, T_, T_, T_, T_, T_, T_, T_, T_, T_, T_, T_, F_, F_] rfl rfl (any_of HT_.out (by kernel_rfl)) (fun _ _ _ h => h) (Or.inr ⟨by rfl, rfl⟩) ?_ ?_; rotate_left
   ·simp only [Act.put, la_, lz_, ls_, i64_w, i32_w]
    rfl
   refine pure_ (i := 12) (N := some 20) (v := undef) (a' := ?_) #[T_, T_, T_, T_, T_, T_, T_, T_, T_, T_, T_, T_, T_, F_] rfl rfl (any_of HT_.out (by kernel_rfl)) (fun _ _ _ h => h) (Or.inr ⟨by rfl, rfl⟩) ?_ ?_; rotate_left
   ·simp only [Act.put, la_, lz_, ls_, i64_w, i32_w]
    rfl
   refine pure_ (i := 13) (N := some 21) (v := ?_) (a' := ?_) #[T_, T_, T_, T_, T_, T_, T_, T_, T_, T_, T_, T_, T_, T_] rfl rfl (any_of HT_.out (by kernel_rfl)) (fun _ _ _ h => h) (Or.inl ⟨by rfl, ?_⟩) ?_ ?_; rotate_left
   ·intro w'
    go_simp
    with_reducible rfl
   rotate_left
   ·simp only [Act.put, la_, lz_, ls_, i64_w, i32_w]
    rfl
   refine done_ (done_of HT_.out (by kernel_rfl)) ?_
   try go_wp2
   go_meet
   case rel => exact ⟨_, (true), q227_, H', ⟨by first | omega | exact Nat.le_refl _⟩, ⟨q164_⟩, ⟨q165_⟩, ⟨q166_⟩, ⟨q75_⟩⟩
 case rest =>
  clear HC3; (try clear c1); (try clear p2); (try clear c3); (try clear c8); (try clear c10); (try clear c13); (try clear c17); obtain ⟨kq, x21_2, rfl, HA, HJ2, BK155, BK156, BK157, HB⟩ := hcut; cases kq with
  | zero => exact absurd HA.out (by simp [plane_Crop.j0])
  | succ kj2 =>
   have H := HA.out; clear HA; simp only [plane_Crop.j0] at H
   by_cases c23 : x21_2 = true
   ·subst c23
    have H1 : (some (0, 0, 0, ([] : List Int), false)) = some (r1, r2, r3, r4, r5) := by rw [if_pos rfl] at H; exact H
    clear H; have H := H1; clear H1; simp only [Option.some.injEq, Prod.mk.injEq] at H; obtain ⟨rfl, rfl, rfl, rfl, rfl⟩ := H; have hnb24 := NB157_155.out; have hnc24 := NB155_157.out; have hnb25 := NB157_156.out; have hnc25 := NB156_157.out; have hcz26_0 := bc0_ BK157.out; have hcz26_1 := bc1_ BK157.out; have hcz26_2 := bc2_ BK157.out; have hcz26_3 := bc3_ BK157.out; have hfz26_0 := blk_frozen BK157.out 0; have hfz26_1 := blk_frozen BK157.out 1; have hfz26_2 := blk_frozen BK157.out 2; have hfz26_3 := blk_frozen BK157.out 3
    go_wp2
    refine bodyPost_ret (results_ct rfl _ _ gb157 26 #[.int .i64 0, .int .i64 0, .int .i64 0, .slice none 0 0] (0, 0) _ rfl (by (with_reducible repeat (first | refine blk_drewN ?_ _ | refine blk_drew ?_ | refine blk_alloc ?_ _)); refine blk_put (cs := #[.int .i64 0, .int .i64 0, .int .i64 0, .slice none 0 0]) ?_ 3 _ rfl; (with_reducible repeat (first | refine blk_drewN ?_ _ | refine blk_drew ?_ | refine blk_alloc ?_ _)); refine blk_put (cs := #[.int .i64 0, .int .i64 0, .int .i64 0, .slice none 0 0]) ?_ 2 _ rfl; (with_reducible repeat (first | refine blk_drewN ?_ _ | refine blk_drew ?_ | refine blk_alloc ?_ _)); refine blk_put (cs := #[.int .i64 0, .int .i64 0, .int .i64 0, .slice none 0 0]) ?_ 1 _ rfl; (with_reducible repeat (first | refine blk_drewN ?_ _ | refine blk_drew ?_ | refine blk_alloc ?_ _)); refine blk_put (cs := #[.int .i64 0, .int .i64 0, .int .i64 0, .slice none 0 0]) ?_ 0 _ rfl; (with_reducible repeat (first | refine blk_drewN ?_ _ | refine blk_drew ?_ | refine blk_alloc ?_ _)); exact BK157.out) Try.underlying26 rfl (by kernel_rfl)) rfl ?_; exact ⟨_, q224_, q149_, q75_⟩
   ·replace c23 := Bool.eq_false_iff.mpr c23
    subst c23; have H1 : (plane_Crop.l0 kj2 a1_1 a0_0 a0_1 a0_2 l0_3 a1_0 a1_1 a1_2 a1_3 (wrap64 (a1_2 - a1_0)) (wrap64 (a1_3 - a1_1)) a0_2 ([] : List Int)) = some (r1, r2, r3, r4, r5) := by rw [if_neg (show ¬ (false = true) by decide)] at H; exact H
    clear H; have H := H1; clear H1; have H' := am_ H; clear H; have hnb27 := NB156_155.out; have hnc27 := NB155_156.out; have hnb28 := NB156_157.out; have hnc28 := NB157_156.out; have hcz29_0 := bc0_ BK156.out; have hcz29_1 := bc1_ BK156.out; have hcz29_2 := bc2_ BK156.out; have hcz29_3 := bc3_ BK156.out; have hfz29_0 := blk_frozen BK156.out 0; have hfz29_1 := blk_frozen BK156.out 1; have hfz29_2 := blk_frozen BK156.out 2; have hfz29_3 := blk_frozen BK156.out 3; have hnb30 := NB155_157.out; have hnc30 := NB157_155.out; have hcz31_0 := bc0_ BK155.out; have hcz31_1 := bc1_ BK155.out; have hcz31_2 := bc2_ BK155.out; have hcz31_3 := bc3_ BK155.out; have hfz31_0 := blk_frozen BK155.out 0; have hfz31_1 := blk_frozen BK155.out 1; have hfz31_2 := blk_frozen BK155.out 2; have hfz31_3 := blk_frozen BK155.out 3
    go_wp2_with (first | ((with_reducible refine gate_dst (N := 6) rfl ?_); refine box_event ?hg (N := 6) ?hd (cs := #[.int .i64 0, .int .i64 0, .int .i64 0, .slice none 0 0]) (t := 26) ?hr ?_; (case hd => rfl); (case hg => rfl); (case hr => first | (go_simp; done) | (go_simp; rfl)); intro gb165 hg w32 hbox hb; have n0_ := am_ (blk_below (g := gb155) (o := .cells #[.int .i64 a0_0, .int .i64 a0_1, .int .i64 a0_2, .slice A0_3 l0_3.length c0_3] 26 (0, 0)) q164_ hb); have n1_ := am_ (blk_below (g := gb156) (o := .cells #[.int .i64 a1_0, .int .i64 a1_1, .int .i64 a1_2, .int .i64 a1_3] 31 (0, 0)) q165_ hb); have n2_ := am_ (blk_below (g := gb157) (o := .cells #[.int .i64 0, .int .i64 0, .int .i64 0, .slice none 0 0] 26 (0, 0)) q166_ hb); have n3_ := am_ (below_step q75_ hb); have n4_ := am_ (hbox); have n5_ := am_ ((by rw [hg]; exact (below_size q75_) : w.heap.size ≤ gb165)); have n6_ := am_ ((by rw [hg]; exact (below_size q75_) : w.heap.size ≤ gb165)); have n7_ := am_ ((q17_ : gb155 ≠ gb165)); have n8_ := am_ ((q18_ : gb165 ≠ gb155)); have n9_ := am_ ((by rw [hg]; exact Nat.ne_of_lt (blk_lt (g := gb156) (o := .cells #[.int .i64 a1_0, .int .i64 a1_1, .int .i64 a1_2, .int .i64 a1_3] 31 (0, 0)) q165_) : gb156 ≠ gb165)); have n10_ := am_ ((by rw [hg]; exact Nat.ne_of_gt (blk_lt (g := gb156) (o := .cells #[.int .i64 a1_0, .int .i64 a1_1, .int .i64 a1_2, .int .i64 a1_3] 31 (0, 0)) q165_) : gb165 ≠ gb156)); have n11_ := am_ ((by rw [hg]; exact Nat.ne_of_lt (blk_lt (g := gb157) (o := .cells #[.int .i64 0, .int .i64 0, .int .i64 0, .slice none 0 0] 26 (0, 0)) q166_) : gb157 ≠ gb165)); have n12_ := am_ ((by rw [hg]; exact Nat.ne_of_gt (blk_lt (g := gb157) (o := .cells #[.int .i64 0, .int .i64 0, .int .i64 0, .slice none 0 0] 26 (0, 0)) q166_) : gb165 ≠ gb157)); clear BK155 BK156 BK157 HB; have BK155 := n0_; have BK156 := n1_; have BK157 := n2_; have HB := n3_; have BK165 := n4_; have GW165 := n5_; have GE165 := n6_; have NB155_165 := n7_; have NB165_155 := n8_; have NB156_165 := n9_; have NB165_156 := n10_; have NB157_165 := n11_; have NB165_157 := n12_; clear n0_ n1_ n2_ n3_ n4_ n5_ n6_ n7_ n8_ n9_ n10_ n11_ n12_; clear hb hbox hg; have hnb33 := NB165_155.out; have hnc33 := NB155_165.out; have hnb34 := NB165_156.out; have hnc34 := NB156_165.out; have hnb35 := NB165_157.out; have hnc35 := NB157_165.out; have hcz36_0 := bc0_ BK165.out; have hcz36_1 := bc1_ BK165.out; have hcz36_2 := bc2_ BK165.out; have hcz36_3 := bc3_ BK165.out; have hfz36_0 := blk_frozen BK165.out 0; have hfz36_1 := blk_frozen BK165.out 1; have hfz36_2 := blk_frozen BK165.out 2; have hfz36_3 := blk_frozen BK165.out 3; have hcz37_0 := bc0_ BK156.out; have hcz37_1 := bc1_ BK156.out; have hcz37_2 := bc2_ BK156.out; have hcz37_3 := bc3_ BK156.out; have hfz37_0 := blk_frozen BK156.out 0; have hfz37_1 := blk_frozen BK156.out 1; have hfz37_2 := blk_frozen BK156.out 2; have hfz37_3 := blk_frozen BK156.out 3))
    go_loopg [7] kj2 (fun kq v7 w' => ∃ (x7_2 : Int) (x166003_2 : List Int) (u166003 : Value), v7 = .int .i64 x7_2 ∧ Aside0 (plane_Crop.l0 kq x7_2 a0_0 a0_1 a0_2 l0_3 a1_0 a1_1 a1_2 a1_3 (wrap64 (a1_2 - a1_0)) (wrap64 (a1_3 - a1_1)) a0_2 x166003_2 = some (r1, r2, r3, r4, r5)) ∧ Aside0 (kq ≤ kj2) ∧ Aside0 (Kd.R (Kd.int .i64) 3 w' w.heap.size (fun _ => True) u166003 x166003_2) ∧ Aside0 (w'.heap[gb155]? = some (.cells #[.int .i64 a0_0, .int .i64 a0_1, .int .i64 a0_2, (.slice A0_3 l0_3.length c0_3)] 26 (0, 0))) ∧ Aside0 (w'.heap[gb156]? = some (.cells #[.int .i64 a1_0, .int .i64 a1_1, .int .i64 a1_2, .int .i64 a1_3] 31 (0, 0))) ∧ Aside0 (w'.heap[gb157]? = some (.cells #[.int .i64 0, .int .i64 0, .int .i64 0, (.slice none 0 0)] 26 (0, 0))) ∧ Aside0 (w'.heap[gb165]? = some (.cells #[.int .i64 (wrap64 (a1_2 - a1_0)), .int .i64 (wrap64 (a1_3 - a1_1)), .int .i64 a0_2, u166003] 26 (0, 0))) ∧ Aside0 (Below w.heap.size w w'))
    case atStart => exact ⟨(a1_1), (([] : List Int)), (.slice none 0 0), q227_, H', ⟨Nat.le_refl _⟩, ⟨q149_⟩, ⟨by (with_reducible repeat (first | refine blk_drewN ?_ _ | refine blk_drew ?_ | refine blk_alloc ?_ _)); refine blk_far ?_ NB155_165.out _; (with_reducible repeat (first | refine blk_drewN ?_ _ | refine blk_drew ?_ | refine blk_alloc ?_ _)); refine blk_far ?_ NB155_165.out _; (with_reducible repeat (first | refine blk_drewN ?_ _ | refine blk_drew ?_ | refine blk_alloc ?_ _)); refine blk_far ?_ NB155_165.out _; (with_reducible repeat (first | refine blk_drewN ?_ _ | refine blk_drew ?_ | refine blk_alloc ?_ _)); refine blk_far ?_ NB155_165.out _; (with_reducible repeat (first | refine blk_drewN ?_ _ | refine blk_drew ?_ | refine blk_alloc ?_ _)); exact BK155.out⟩, ⟨by (with_reducible repeat (first | refine blk_drewN ?_ _ | refine blk_drew ?_ | refine blk_alloc ?_ _)); refine blk_far ?_ NB156_165.out _; (with_reducible repeat (first | refine blk_drewN ?_ _ | refine blk_drew ?_ | refine blk_alloc ?_ _)); refine blk_far ?_ NB156_165.out _; (with_reducible repeat (first | refine blk_drewN ?_ _ | refine blk_drew ?_ | refine blk_alloc ?_ _)); refine blk_far ?_ NB156_165.out _; (with_reducible repeat (first | refine blk_drewN ?_ _ | refine blk_drew ?_ | refine blk_alloc ?_ _)); refine blk_far ?_ NB156_165.out _; (with_reducible repeat (first | refine blk_drewN ?_ _ | refine blk_drew ?_ | refine blk_alloc ?_ _)); exact BK156.out⟩, ⟨by (with_reducible repeat (first | refine blk_drewN ?_ _ | refine blk_drew ?_ | refine blk_alloc ?_ _)); refine blk_far ?_ NB157_165.out _; (with_reducible repeat (first | refine blk_drewN ?_ _ | refine blk_drew ?_ | refine blk_alloc ?_ _)); refine blk_far ?_ NB157_165.out _; (with_reducible repeat (first | refine blk_drewN ?_ _ | refine blk_drew ?_ | refine blk_alloc ?_ _)); refine blk_far ?_ NB157_165.out _; (with_reducible repeat (first | refine blk_drewN ?_ _ | refine blk_drew ?_ | refine blk_alloc ?_ _)); refine blk_far ?_ NB157_165.out _; (with_reducible repeat (first | refine blk_drewN ?_ _ | refine blk_drew ?_ | refine blk_alloc ?_ _)); exact BK157.out⟩, ⟨by (with_reducible repeat (first | refine blk_drewN ?_ _ | refine blk_drew ?_ | refine blk_alloc ?_ _)); refine blk_put (cs := #[.int .i64 (wrap64 (a1_2 - a1_0)), .int .i64 (wrap64 (a1_3 - a1_1)), .int .i64 a0_2, .slice none 0 0]) ?_ 3 _ rfl; (with_reducible repeat (first | refine blk_drewN ?_ _ | refine blk_drew ?_ | refine blk_alloc ?_ _)); refine blk_put (cs := #[.int .i64 (wrap64 (a1_2 - a1_0)), .int .i64 (wrap64 (a1_3 - a1_1)), .int .i64 0, .slice none 0 0]) ?_ 2 _ rfl; (with_reducible repeat (first | refine blk_drewN ?_ _ | refine blk_drew ?_ | refine blk_alloc ?_ _)); refine blk_put (cs := #[.int .i64 (wrap64 (a1_2 - a1_0)), .int .i64 0, .int .i64 0, .slice none 0 0]) ?_ 1 _ rfl; (with_reducible repeat (first | refine blk_drewN ?_ _ | refine blk_drew ?_ | refine blk_alloc ?_ _)); refine blk_put (cs := #[.int .i64 0, .int .i64 0, .int .i64 0, .slice none 0 0]) ?_ 0 _ rfl; (with_reducible repeat (first | refine blk_drewN ?_ _ | refine blk_drew ?_ | refine blk_alloc ?_ _)); exact BK165.out⟩, ⟨q59_⟩⟩
    case round =>
     clear H'; (try clear c1); (try clear c2); (try clear p2); (try clear c3); (try clear p6); (try clear c8); (try clear c10); (try clear c13); (try clear c17); (try clear c23); (try clear c24); (try clear c25); (try clear c27); (try clear c28); (try clear c30); (try clear c33); (try clear c34); (try clear c35); (try clear hcz26_0 hcz26_1 hcz26_2 hcz26_3); (try clear hcz29_0 hcz29_1 hcz29_2 hcz29_3); (try clear hcz31_0 hcz31_1 hcz31_2 hcz31_3); (try clear hcz36_0 hcz36_1 hcz36_2 hcz36_3); (try clear hcz37_0 hcz37_1 hcz37_2 hcz37_3); (try clear hfz26_0 hfz26_1 hfz26_2 hfz26_3); (try clear hfz29_0 hfz29_1 hfz29_2 hfz29_3); (try clear hfz31_0 hfz31_1 hfz31_2 hfz31_3); (try clear hfz36_0 hfz36_1 hfz36_2 hfz36_3); (try clear hfz37_0 hfz37_1 hfz37_2 hfz37_3); (try clear p2); obtain ⟨x7_2, x166003_2, u166003, rfl, HA, HK2, HO_166003, BK155, BK156, BK157, BK165, HB⟩ := hrel; cases gk with
     | zero => exact absurd HA.out (by simp [plane_Crop.l0])
     | succ k2 =>
      have H := HA.out; clear HA; simp only [plane_Crop.l0] at H
      by_cases c38 : x7_2 < a1_3
      ·rw [if_pos c38] at H
       have c38b0 : decide (x7_2 < a1_3) = true := decide_eq_true c38; clear c38; obtain ⟨ji39, hji39⟩ : ∃ j_ : Int, (wrap64 ((wrap64 (x7_2 * a0_0)) + a1_0)) = j_ := ⟨_, rfl⟩; replace H : (if 0 ≤ (ji39) then (if (ji39) ≤ (wrap64 ((wrap64 (x7_2 * a0_0)) + a1_2)) then (if (wrap64 ((wrap64 (x7_2 * a0_0)) + a1_2)) ≤ (l0_3.length : Int) then (if x166003_2.length + ((l0_3.take ((wrap64 ((wrap64 (x7_2 * a0_0)) + a1_2)) : Int).toNat).drop ((ji39) : Int).toNat).length < 17592186044416 then (plane_Crop.l0 k2 (wrap64 (x7_2 + 1)) a0_0 a0_1 a0_2 l0_3 a1_0 a1_1 a1_2 a1_3 (wrap64 (a1_2 - a1_0)) (wrap64 (a1_3 - a1_1)) a0_2 (x166003_2 ++ ((l0_3.take ((wrap64 ((wrap64 (x7_2 * a0_0)) + a1_2)) : Int).toNat).drop ((ji39) : Int).toNat))) else (none)) else (none)) else (none)) else (none)) = some (r1, r2, r3, r4, r5) := by first | (rw [hji39] at H; exact H) | (simp only [hji39] at H ⊢; exact H)
       have hji39w : (IntKind.i64.wrap ((wrap64 (x7_2 * a0_0)) + a1_0)) = ji39 := (i64_w _).trans hji39
       by_cases c40 : 0 ≤ (ji39)
       ·rw [if_pos c40] at H
        have c40b0 := eq_true c40; have c40b1 : decide (0 ≤ (ji39)) = true := decide_eq_true c40; clear c40
        by_cases c41 : (ji39) ≤ (wrap64 ((wrap64 (x7_2 * a0_0)) + a1_2))
        ·rw [if_pos c41] at H
         have c41b0 := eq_true c41; have c41b1 : decide ((ji39) ≤ (wrap64 ((wrap64 (x7_2 * a0_0)) + a1_2))) = true := decide_eq_true c41
         by_cases c42 : (wrap64 ((wrap64 (x7_2 * a0_0)) + a1_2)) ≤ (l0_3.length : Int)
         ·rw [if_pos c42] at H
          have c42b0 := eq_true c42; have c42b1 : decide ((wrap64 ((wrap64 (x7_2 * a0_0)) + a1_2)) ≤ (l0_3.length : Int)) = true := decide_eq_true c42
          by_cases c43 : x166003_2.length + ((l0_3.take ((wrap64 ((wrap64 (x7_2 * a0_0)) + a1_2)) : Int).toNat).drop ((ji39) : Int).toNat).length < 17592186044416
          ·rw [if_pos c43] at H
           have LMc43 := am_ c43; clear c43; obtain ⟨y167, hy167⟩ : ∃ y_ : List Int, y_ = (x166003_2 ++ ((l0_3.take ((wrap64 ((wrap64 (x7_2 * a0_0)) + a1_2)) : Int).toNat).drop ((ji39) : Int).toNat)) := ⟨_, rfl⟩; replace H : (plane_Crop.l0 k2 (wrap64 (x7_2 + 1)) a0_0 a0_1 a0_2 l0_3 a1_0 a1_1 a1_2 a1_3 (wrap64 (a1_2 - a1_0)) (wrap64 (a1_3 - a1_1)) a0_2 y167) = some (r1, r2, r3, r4, r5) := by first | (rw [hy167]; with_reducible exact H) | (have H2_ := (Option.bind_some _ _).symm.trans H; rw [hy167]; with_reducible exact H2_) | (have H2_ := (Option.bind_some _ _).symm.trans H; with_reducible exact H2_) | with_reducible exact H | (rw [hy167]; exact H) | exact H
           have Ny167 := am_ hy167; clear hy167; have H' := am_ H; clear H; have hnb44 := NB156_155.out; have hnc44 := NB155_156.out; have hnb45 := NB156_157.out; have hnc45 := NB157_156.out; have hnb46 := NB156_165.out; have hnc46 := NB165_156.out; have hcz47_0 := bc0_ BK156.out; have hcz47_1 := bc1_ BK156.out; have hcz47_2 := bc2_ BK156.out; have hcz47_3 := bc3_ BK156.out; have hfz47_0 := blk_frozen BK156.out 0; have hfz47_1 := blk_frozen BK156.out 1; have hfz47_2 := blk_frozen BK156.out 2; have hfz47_3 := blk_frozen BK156.out 3
           try go_wp2
           have n0_ := am_ (Kd.R_drew HO_166003.out); have n1_ := am_ (blk_drew BK155.out); have n2_ := am_ (blk_drew BK156.out); have n3_ := am_ (blk_drew BK157.out); have n4_ := am_ (blk_drew BK165.out); have n5_ := am_ (below_drew1 HB.out); clear HO_166003 BK155 BK156 BK157 BK165 HB; have HO_166003 := n0_; have BK155 := n1_; have BK156 := n2_; have BK157 := n3_; have BK165 := n4_; have HB := n5_; clear n0_ n1_ n2_ n3_ n4_ n5_; obtain ⟨i049, hi049, _, hsz49, _⟩ := info_parts info3; obtain ⟨A49, hcut49, hA49, hC49⟩ := print_mid_of (P := Try.prog) (Value.int .i64) 0 22 3 .i64 .i64 Try.underlying22 hi049 hsz49 A0_3 c0_3 l0_3 (ji39) (wrap64 ((wrap64 (x7_2 * a0_0)) + a1_2)) (of_decide_eq_true q226_) (by first | omega | exact of_decide_eq_true q226_) (of_decide_eq_true q226_) HC0_3.out; have HR166 := am_ (Kd.C_of_reads (h1 := fun _ => rfl) (hA49 _ (Kd.reads_of_C HR0_3.out))); have HC166 := am_ hC49; clear hA49 hC49 hi049 hsz49; refine start_ (n := 22) (S := fun w' => w'.cell? ⟨gb165, 0, none⟩ = some (.int .i64 (wrap64 (a1_2 - a1_0))) ∧ w'.cell? ⟨gb165, 1, none⟩ = some (.int .i64 (wrap64 (a1_3 - a1_1))) ∧ w'.cell? ⟨gb165, 2, none⟩ = some (.int .i64 a0_2) ∧ w'.cell? ⟨gb165, 3, none⟩ = some (u166003) ∧ w'.cell? ⟨gb155, 0, none⟩ = some (.int .i64 a0_0) ∧ w'.cell? ⟨gb155, 1, none⟩ = some (.int .i64 a0_1) ∧ w'.cell? ⟨gb155, 2, none⟩ = some (.int .i64 a0_2) ∧ w'.cell? ⟨gb155, 3, none⟩ = some (.slice A0_3 l0_3.length c0_3) ∧ w'.cell? ⟨gb156, 0, none⟩ = some (.int .i64 a1_0) ∧ w'.cell? ⟨gb156, 1, none⟩ = some (.int .i64 a1_1) ∧ w'.cell? ⟨gb156, 2, none⟩ = some (.int .i64 a1_2) ∧ w'.cell? ⟨gb156, 3, none⟩ = some (.int .i64 a1_3)) (ds := [21]) #[F_, F_, F_, F_, F_, F_, F_, F_, F_, F_, F_, F_, F_, F_, F_, F_, F_, F_, F_, F_, F_, F_] (by kernel_rfl) rfl rfl ⟨bc0_ BK165.out, bc1_ BK165.out, bc2_ BK165.out, bc3_ BK165.out, bc0_ BK155.out, bc1_ BK155.out, bc2_ BK155.out, bc3_ BK155.out, bc0_ BK156.out, bc1_ BK156.out, bc2_ BK156.out, bc3_ BK156.out⟩ (fun hHeld => ?_); refine with_tabW plane_Crop.tab7 plane_Crop.bits7 (fun HT_ HW_ => ?_); generalize wr.drew = w48 at HO_166003 BK155 BK156 BK157 BK165 HB HR166 hHeld ⊢; refine pure_ (i := 0) (N := some 44) (v := ?_) (a' := ?_) #[T_, F_, F_, F_, F_, F_, F_, F_, F_, F_, F_, F_, F_, F_, F_, F_, F_, F_, F_, F_, F_, F_] rfl rfl (any_of HT_.out (by kernel_rfl)) (fun _ _ _ h => h) (Or.inl ⟨by rfl, ?_⟩) ?_ ?_; rotate_left
           ·intro w'
            go_simp
            with_reducible rfl
           rotate_left
           ·simp only [Act.put, la_, lz_, ls_, i64_w, i32_w]
            rfl
           refine pure_ (i := 2) (N := some 46) (v := ?_) (a' := ?_) #[T_, F_, T_, F_, F_, F_, F_, F_, F_, F_, F_, F_, F_, F_, F_, F_, F_, F_, F_, F_, F_, F_] rfl rfl (any_of HT_.out (by kernel_rfl)) (fun _ _ _ h => h) (Or.inl ⟨by rfl, ?_⟩) ?_ ?_; rotate_left
           ·intro w'
            go_simp
            with_reducible rfl
           rotate_left
           ·simp only [Act.put, la_, lz_, ls_, i64_w, i32_w]
            rfl
           refine pure_ (i := 4) (N := some 48) (v := ?_) (a' := ?_) #[T_, F_, T_, F_, T_, F_, F_, F_, F_, F_, F_, F_, F_, F_, F_, F_, F_, F_, F_, F_, F_, F_] rfl rfl (any_of HT_.out (by kernel_rfl)) (fun _ _ _ h => h) (Or.inl ⟨by rfl, ?_⟩) ?_ ?_; rotate_left
           ·intro w'
            go_simp
            with_reducible rfl
           rotate_left
           ·simp only [Act.put, la_, lz_, ls_, i64_w, i32_w]
            rfl
           refine pure_ (i := 5) (N := some 49) (v := ?_) (a' := ?_) #[T_, F_, T_, F_, T_, T_, F_, F_, F_, F_, F_, F_, F_, F_, F_, F_, F_, F_, F_, F_, F_, F_] rfl rfl (any_of HT_.out (by kernel_rfl)) (fun _ _ _ h => h) (Or.inl ⟨by rfl, ?_⟩) ?_ ?_; rotate_left
           ·intro w'
            go_simp
            with_reducible rfl
           rotate_left
           ·simp only [Act.put, la_, lz_, ls_, i64_w, i32_w]
            rfl
           refine pure_ (i := 8) (N := some 52) (v := ?_) (a' := ?_) #[T_, F_, T_, F_, T_, T_, F_, F_, T_, F_, F_, F_, F_, F_, F_, F_, F_, F_, F_, F_, F_, F_] rfl rfl (any_of HT_.out (by kernel_rfl)) (fun _ _ _ h => h) (Or.inl ⟨by rfl, ?_⟩) ?_ ?_; rotate_left
           ·intro w'
            go_simp
            with_reducible rfl
           rotate_left
           ·simp only [Act.put, la_, lz_, ls_, i64_w, i32_w]
            rfl
           refine pure_ (i := 11) (N := some 55) (v := ?_) (a' := ?_) #[T_, F_, T_, F_, T_, T_, F_, F_, T_, F_, F_, T_, F_, F_, F_, F_, F_, F_, F_, F_, F_, F_] rfl rfl (any_of HT_.out (by kernel_rfl)) (fun _ _ _ h => h) (Or.inl ⟨by rfl, ?_⟩) ?_ ?_; rotate_left
           ·intro w'
            go_simp
            with_reducible rfl
           rotate_left
           ·simp only [Act.put, la_, lz_, ls_, i64_w, i32_w]
            rfl
           refine pure_ (i := 12) (N := some 56) (v := ?_) (a' := ?_) #[T_, F_, T_, F_, T_, T_, F_, F_, T_, F_, F_, T_, T_, F_, F_, F_, F_, F_, F_, F_, F_, F_] rfl rfl (any_of HT_.out (by kernel_rfl)) (fun _ _ _ h => h) (Or.inl ⟨by rfl, ?_⟩) ?_ ?_; rotate_left
           ·intro w'
            go_simp
            with_reducible rfl
           rotate_left
           ·simp only [Act.put, la_, lz_, ls_, i64_w, i32_w]
            rfl
           refine pure_ (i := 15) (N := some 59) (v := ?_) (a' := ?_) #[T_, F_, T_, F_, T_, T_, F_, F_, T_, F_, F_, T_, T_, F_, F_, T_, F_, F_, F_, F_, F_, F_] rfl rfl (any_of HT_.out (by kernel_rfl)) (fun _ _ _ h => h) (Or.inl ⟨by rfl, ?_⟩) ?_ ?_; rotate_left
           ·intro w'
            go_simp
            with_reducible rfl
           rotate_left
           ·simp only [Act.put, la_, lz_, ls_, i64_w, i32_w]
            rfl
           refine take_ (i := 1) (N := some 45) (v := ?_) (a' := ?_) #[T_, T_, T_, F_, T_, T_, F_, F_, T_, F_, F_, T_, T_, F_, F_, T_, F_, F_, F_, F_, F_, F_] rfl rfl (take_ofW HT_.out HW_.out (by kernel_rfl)) (fun _ _ _ h => h) (Or.inl ⟨by rfl, ?_⟩) hHeld ?_ ?_; rotate_left
           ·rintro w' ⟨s0, s1, s2, s3, s4, s5, s6, s7, s8, s9, s10, s11⟩
            go_simp
            with_reducible rfl
           rotate_left
           ·simp only [Act.put, la_, lz_, ls_, i64_w, i32_w]
            rfl
           refine take_ (i := 3) (N := some 47) (v := ?_) (a' := ?_) #[T_, T_, T_, T_, T_, T_, F_, F_, T_, F_, F_, T_, T_, F_, F_, T_, F_, F_, F_, F_, F_, F_] rfl rfl (take_ofW HT_.out HW_.out (by kernel_rfl)) (fun _ _ _ h => h) (Or.inl ⟨by rfl, ?_⟩) hHeld ?_ ?_; rotate_left
           ·rintro w' ⟨s0, s1, s2, s3, s4, s5, s6, s7, s8, s9, s10, s11⟩
            go_simp
            with_reducible rfl
           rotate_left
           ·simp only [Act.put, la_, lz_, ls_, i64_w, i32_w]
            rfl
           refine take_ (i := 6) (N := some 50) (v := ?_) (a' := ?_) #[T_, T_, T_, T_, T_, T_, T_, F_, T_, F_, F_, T_, T_, F_, F_, T_, F_, F_, F_, F_, F_, F_] rfl rfl (take_ofW HT_.out HW_.out (by kernel_rfl)) (fun _ _ _ h => h) (Or.inl ⟨by rfl, ?_⟩) hHeld ?_ ?_; rotate_left
           ·rintro w' ⟨s0, s1, s2, s3, s4, s5, s6, s7, s8, s9, s10, s11⟩
            go_simp
            with_reducible rfl
           rotate_left
           ·simp only [Act.put, la_, lz_, ls_, i64_w, i32_w]
            rfl
           refine pure_ (i := 7) (N := some 51) (v := ?_) (a' := ?_) #[T_, T_, T_, T_, T_, T_, T_, T_, T_, F_, F_, T_, T_, F_, F_, T_, F_, F_, F_, F_, F_, F_] rfl rfl (any_of HT_.out (by kernel_rfl)) (fun _ _ _ h => h) (Or.inl ⟨by rfl, ?_⟩) ?_ ?_; rotate_left
           ·intro w'
            go_simp
            with_reducible rfl
           rotate_left
           ·simp only [Act.put, la_, lz_, ls_, i64_w, i32_w]
            rfl
           refine take_ (i := 9) (N := some 53) (v := ?_) (a' := ?_) #[T_, T_, T_, T_, T_, T_, T_, T_, T_, T_, F_, T_, T_, F_, F_, T_, F_, F_, F_, F_, F_, F_] rfl rfl (take_ofW HT_.out HW_.out (by kernel_rfl)) (fun _ _ _ h => h) (Or.inl ⟨by rfl, ?_⟩) hHeld ?_ ?_; rotate_left
           ·rintro w' ⟨s0, s1, s2, s3, s4, s5, s6, s7, s8, s9, s10, s11⟩
            go_simp
            with_reducible rfl
           rotate_left
           ·simp only [Act.put, la_, lz_, ls_, i64_w, i32_w]
            rfl
           refine pure_ (i := 10) (N := some 54) (v := ?_) (a' := ?_) #[T_, T_, T_, T_, T_, T_, T_, T_, T_, T_, T_, T_, T_, F_, F_, T_, F_, F_, F_, F_, F_, F_] rfl rfl (any_of HT_.out (by kernel_rfl)) (fun _ _ _ h => h) (Or.inl ⟨by rfl, ?_⟩) ?_ ?_; rotate_left
           ·intro w'
            go_simp
            with_reducible rfl
           rotate_left
           ·simp only [Act.put, la_, lz_, ls_, i64_w, i32_w]
            rfl
           refine take_ (i := 13) (N := some 57) (v := ?_) (a' := ?_) #[T_, T_, T_, T_, T_, T_, T_, T_, T_, T_, T_, T_, T_, T_, F_, T_, F_, F_, F_, F_, F_, F_] rfl rfl (take_ofW HT_.out HW_.out (by kernel_rfl)) (fun _ _ _ h => h) (Or.inl ⟨by rfl, ?_⟩) hHeld ?_ ?_; rotate_left
           ·rintro w' ⟨s0, s1, s2, s3, s4, s5, s6, s7, s8, s9, s10, s11⟩
            go_simp
            with_reducible rfl
           rotate_left
           ·simp only [Act.put, la_, lz_, ls_, i64_w, i32_w]
            rfl
           refine pure_ (i := 14) (N := some 58) (v := ?_) (a' := ?_) #[T_, T_, T_, T_, T_, T_, T_, T_, T_, T_, T_, T_, T_, T_, T_, T_, F_, F_, F_, F_, F_, F_] rfl rfl (any_of HT_.out (by kernel_rfl)) (fun _ _ _ h => h) (Or.inl ⟨by rfl, ?_⟩) ?_ ?_; rotate_left
           ·intro w'
            go_simp
            with_reducible rfl
           rotate_left
           ·simp only [Act.put, la_, lz_, ls_, i64_w, i32_w]
            rfl
           refine take_ (i := 16) (N := some 60) (v := ?_) (a' := ?_) #[T_, T_, T_, T_, T_, T_, T_, T_, T_, T_, T_, T_, T_, T_, T_, T_, T_, F_, F_, F_, F_, F_] rfl rfl (take_ofW HT_.out HW_.out (by kernel_rfl)) (fun _ _ _ h => h) (Or.inl ⟨by rfl, ?_⟩) hHeld ?_ ?_; rotate_left
           ·rintro w' ⟨s0, s1, s2, s3, s4, s5, s6, s7, s8, s9, s10, s11⟩
            go_simp
            with_reducible rfl
           rotate_left
           ·simp only [Act.put, la_, lz_, ls_, i64_w, i32_w]
            rfl
           refine pure_ (i := 17) (N := some 61) (v := ?_) (a' := ?_) #[T_, T_, T_, T_, T_, T_, T_, T_, T_, T_, T_, T_, T_, T_, T_, T_, T_, T_, F_, F_, F_, F_] rfl rfl (any_of HT_.out (by kernel_rfl)) (fun _ _ _ h => h) (Or.inl ⟨by rfl, ?_⟩) ?_ ?_; rotate_left
           ·intro w'
            go_simp
            with_reducible rfl
           rotate_left
           ·simp only [Act.put, la_, lz_, ls_, i64_w, i32_w]
            rfl
           refine pure_ (i := 18) (N := some 62) (v := ?_) (a' := ?_) #[T_, T_, T_, T_, T_, T_, T_, T_, T_, T_, T_, T_, T_, T_, T_, T_, T_, T_, T_, F_, F_, F_] rfl rfl (any_of HT_.out (by kernel_rfl)) (fun _ _ _ h => h) (Or.inl ⟨by rfl, ?_⟩) ?_ ?_; rotate_left
           ·intro w'
            go_simp
            with_reducible rfl
           rotate_left
           ·simp only [Act.put, la_, lz_, ls_, i64_w, i32_w]
            rfl
           refine one_ (i := 19) (N := some 63) #[T_, T_, T_, T_, T_, T_, T_, T_, T_, T_, T_, T_, T_, T_, T_, T_, T_, T_, T_, T_, F_, F_] rfl rfl (one_of HT_.out (by kernel_rfl)) (by decide) (fun K hK => ?_); refine Kd.R_append_rows_step (Kd.int .i64) (w0 := w) w.heap.size (by rfl) (.tmp 45) (.tmp 62) 22 3 (.int .i64 0) 8 rfl Try.underlying22 info3 rfl (by decide) (by omega) u166003 x166003_2 ((l0_3.take ((wrap64 ((wrap64 (x7_2 * a0_0)) + a1_2)) : Int).toNat).drop ((ji39) : Int).toNat) _ _ _ (fun _ => True) (fun _ => False) rfl rfl ?aO ?aR (fun _ _ h => h) (fun _ h => h.elim) ?aF ?aB ?aS ?aL ?_; (case aR => first | (rw [← show ((l0_3.take ((wrap64 ((wrap64 (x7_2 * a0_0)) + a1_2)) : Int).toNat).drop ((ji39) : Int).toNat).length = ((wrap64 ((wrap64 (x7_2 * a0_0)) + a1_2)).toNat - (ji39).toNat) from (by rw [List.length_drop, List.length_take]; have h_ : ((wrap64 ((wrap64 (x7_2 * a0_0)) + a1_2)) : Int) ≤ (l0_3.length : Int) := of_decide_eq_true q226_; omega)]; repeat (first | exact (Kd.C_below HR166.out HB.out) | (with_reducible refine Kd.C_alloc ?_ _) | (with_reducible refine Kd.C_drewN ?_ _) | (with_reducible refine Kd.C_drew ?_))) | (repeat (first | exact (Kd.C_below HR166.out HB.out) | (with_reducible refine Kd.C_alloc ?_ _) | (with_reducible refine Kd.C_drewN ?_ _) | (with_reducible refine Kd.C_drew ?_)))); (case aB => exact q59_); (case aF => exact (fun _ _ => trivial)); (case aO => exact (by (with_reducible repeat (first | apply Kd.R_alloc | apply Kd.R_drewN | apply Kd.R_drew)); exact HO_166003.out)); (case aS => exact (below_size q59_)); (case aL => have := LMc43.out; have hlx_ := (show ((l0_3.take ((wrap64 ((wrap64 (x7_2 * a0_0)) + a1_2)) : Int).toNat).drop ((ji39) : Int).toNat).length = ((wrap64 ((wrap64 (x7_2 * a0_0)) + a1_2)).toNat - (ji39).toNat) from (by rw [List.length_drop, List.length_take]; have h_ : ((wrap64 ((wrap64 (x7_2 * a0_0)) + a1_2)) : Int) ≤ (l0_3.length : Int) := of_decide_eq_true q226_; omega)); omega); intro v168 w50 ho hb hg hat; rw [← Ny167.out] at ho; have n0_ := am_ (blk_grown (g := gb155) (o := .cells #[.int .i64 a0_0, .int .i64 a0_1, .int .i64 a0_2, .slice A0_3 l0_3.length c0_3] 26 (0, 0)) q164_ hg (Kd.R_ne HO_166003.out BK155.out (by decide))); have n1_ := am_ (blk_grown (g := gb156) (o := .cells #[.int .i64 a1_0, .int .i64 a1_1, .int .i64 a1_2, .int .i64 a1_3] 31 (0, 0)) q165_ hg (Kd.R_ne HO_166003.out BK156.out (by decide))); have n2_ := am_ (blk_grown (g := gb157) (o := .cells #[.int .i64 0, .int .i64 0, .int .i64 0, .slice none 0 0] 26 (0, 0)) q166_ hg (Kd.R_ne HO_166003.out BK157.out (by decide))); have n3_ := am_ (blk_grown (g := gb165) (o := .cells #[.int .i64 (wrap64 (a1_2 - a1_0)), .int .i64 (wrap64 (a1_3 - a1_1)), .int .i64 a0_2, u166003] 26 (0, 0)) (by (with_reducible repeat (first | refine blk_drewN ?_ _ | refine blk_drew ?_ | refine blk_alloc ?_ _)); exact BK165.out) hg (Kd.R_ne HO_166003.out BK165.out (by decide))); have n4_ := am_ (hb); have n5_ := am_ (ho); clear BK155 BK156 BK157 BK165 HB HO_166003; have BK155 := n0_; have BK156 := n1_; have BK157 := n2_; have BK165 := n3_; have HB := n4_; have HO169 := n5_; clear n0_ n1_ n2_ n3_ n4_ n5_; clear ho hb hg hat; obtain ⟨Ao51, co51, eo51⟩ := Kd.R_slice HO169.out; (first | subst eo51 | (injection eo51 with f1_ f2_ f3_; have f4_ := f1_.symm; have f5_ := f3_.symm; clear f1_ f2_ f3_; subst f4_; subst f5_)); refine hK.out _ _ ⟨bc0_ BK165.out, bc1_ BK165.out, bc2_ BK165.out, bc3_ BK165.out, bc0_ BK155.out, bc1_ BK155.out, bc2_ BK155.out, bc3_ BK155.out, bc0_ BK156.out, bc1_ BK156.out, bc2_ BK156.out, bc3_ BK156.out⟩ (fun hHeld => ?_); clear hK K; refine norm_ (a' := ?_) ?_ ?_; rotate_left
           ·show Act.put _ (some 63) _ = _
            simp only [Act.put, la_, lz_, ls_, i64_w, i32_w]; rfl
           refine pure_ (i := 20) (N := some 64) (v := ?_) (a' := ?_) #[T_, T_, T_, T_, T_, T_, T_, T_, T_, T_, T_, T_, T_, T_, T_, T_, T_, T_, T_, T_, T_, F_] rfl rfl (any_of HT_.out (by kernel_rfl)) (fun _ _ _ h => h) (Or.inl ⟨by rfl, ?_⟩) ?_ ?_; rotate_left
           ·intro w'
            go_simp
            with_reducible rfl
           rotate_left
           ·simp only [Act.put, la_, lz_, ls_, i64_w, i32_w]
            rfl
           refine last_ (i := 21) (N := none) #[T_, T_, T_, T_, T_, T_, T_, T_, T_, T_, T_, T_, T_, T_, T_, T_, T_, T_, T_, T_, T_, T_] rfl rfl (one_of HT_.out (by kernel_rfl)) (by decide) (fun K hK => ?_); have hs52 : w50.cell? ⟨gb165, 3, none⟩ = some (u166003) := bc3_ BK165.out; have hfs52 := blk_frozen BK165.out 3; have hns52_0 := NB155_165.out; have hns52_1 := NB156_165.out; have hns52_2 := NB157_165.out; have hms52_0 := NB165_155.out; have hms52_1 := NB165_156.out; have hms52_2 := NB165_157.out; refine skip_ (w1 := ?_) (by rfl) rfl ?_ ?_; rotate_left
           ·go_simp
            rfl
           refine hK.out _ _ ?_; clear hK K; refine done_ (done_of HT_.out (by kernel_rfl)) ?_
           try go_wp2
           go_roundg k2
           case measure => have := HJ2.out; have := HK2.out; omega
           case rel => exact ⟨(wrap64 (x7_2 + 1)), (y167), (.slice Ao51 y167.length co51), q227_, (by first | exact H' | ((try (rw [hji39])); exact H')), ⟨by have := HJ2.out; have := HK2.out; omega⟩, ⟨by (with_reducible repeat (first | apply Kd.R_alloc | apply Kd.R_drewN | apply Kd.R_drew)); exact Kd.R_mono (Kd.R_far (p := ⟨gb165, 3, none⟩) (Kd.R_types HO169.out BK165.out (by decide)) (fun _ hk => hk.2) (.slice Ao51 y167.length co51)) (fun _ hk => trivial)⟩, ⟨by (with_reducible repeat (first | refine blk_drewN ?_ _ | refine blk_drew ?_ | refine blk_alloc ?_ _)); refine blk_far ?_ NB155_165.out _; (with_reducible repeat (first | refine blk_drewN ?_ _ | refine blk_drew ?_ | refine blk_alloc ?_ _)); exact BK155.out⟩, ⟨by (with_reducible repeat (first | refine blk_drewN ?_ _ | refine blk_drew ?_ | refine blk_alloc ?_ _)); refine blk_far ?_ NB156_165.out _; (with_reducible repeat (first | refine blk_drewN ?_ _ | refine blk_drew ?_ | refine blk_alloc ?_ _)); exact BK156.out⟩, ⟨by (with_reducible repeat (first | refine blk_drewN ?_ _ | refine blk_drew ?_ | refine blk_alloc ?_ _)); refine blk_far ?_ NB157_165.out _; (with_reducible repeat (first | refine blk_drewN ?_ _ | refine blk_drew ?_ | refine blk_alloc ?_ _)); exact BK157.out⟩, ⟨by (with_reducible repeat (first | refine blk_drewN ?_ _ | refine blk_drew ?_ | refine blk_alloc ?_ _)); refine blk_put (cs := #[.int .i64 (wrap64 (a1_2 - a1_0)), .int .i64 (wrap64 (a1_3 - a1_1)), .int .i64 a0_2, u166003]) ?_ 3 _ rfl; (with_reducible repeat (first | refine blk_drewN ?_ _ | refine blk_drew ?_ | refine blk_alloc ?_ _)); exact BK165.out⟩, ⟨q59_⟩⟩
          ·rw [if_neg c43] at H
           exact absurd H (by simp)
         ·rw [if_neg c42] at H
          exact absurd H (by simp)
        ·rw [if_neg c41] at H
         exact absurd H (by simp)
       ·rw [if_neg c40] at H
        exact absurd H (by simp)
      ·rw [if_neg c38] at H
       have c38b0 : decide (x7_2 < a1_3) = false := decide_eq_false c38; clear c38; simp only [Option.some.injEq, Prod.mk.injEq] at H; obtain ⟨rfl, rfl, rfl, rfl, rfl⟩ := H; have hnb53 := NB156_155.out; have hnc53 := NB155_156.out; have hnb54 := NB156_157.out; have hnc54 := NB157_156.out; have hnb55 := NB156_165.out; have hnc55 := NB165_156.out; have hcz56_0 := bc0_ BK156.out; have hcz56_1 := bc1_ BK156.out; have hcz56_2 := bc2_ BK156.out; have hcz56_3 := bc3_ BK156.out; have hfz56_0 := blk_frozen BK156.out 0; have hfz56_1 := blk_frozen BK156.out 1; have hfz56_2 := blk_frozen BK156.out 2; have hfz56_3 := blk_frozen BK156.out 3; have hnb57 := NB165_155.out; have hnc57 := NB155_165.out; have hnb58 := NB165_157.out; have hnc58 := NB157_165.out; have hcz59_0 := bc0_ BK165.out; have hcz59_1 := bc1_ BK165.out; have hcz59_2 := bc2_ BK165.out; have hcz59_3 := bc3_ BK165.out; have hfz59_0 := blk_frozen BK165.out 0; have hfz59_1 := blk_frozen BK165.out 1; have hfz59_2 := blk_frozen BK165.out 2; have hfz59_3 := blk_frozen BK165.out 3; have hnb60 := NB157_155.out; have hnc60 := NB155_157.out; have hcz61_0 := bc0_ BK157.out; have hcz61_1 := bc1_ BK157.out; have hcz61_2 := bc2_ BK157.out; have hcz61_3 := bc3_ BK157.out; have hfz61_0 := blk_frozen BK157.out 0; have hfz61_1 := blk_frozen BK157.out 1; have hfz61_2 := blk_frozen BK157.out 2; have hfz61_3 := blk_frozen BK157.out 3; obtain ⟨Ao62, co62, eo62⟩ := Kd.R_slice HO_166003.out; subst eo62
       go_wp2
       refine bodyPost_ret (results_ct rfl _ _ gb157 26 #[.int .i64 (wrap64 (a1_2 - a1_0)), .int .i64 (wrap64 (a1_3 - a1_1)), .int .i64 a0_2, .slice Ao62 x166003_2.length co62] (0, 0) _ rfl (by (with_reducible repeat (first | refine blk_drewN ?_ _ | refine blk_drew ?_ | refine blk_alloc ?_ _)); refine blk_put (cs := #[.int .i64 (wrap64 (a1_2 - a1_0)), .int .i64 (wrap64 (a1_3 - a1_1)), .int .i64 a0_2, .slice none 0 0]) ?_ 3 _ rfl; (with_reducible repeat (first | refine blk_drewN ?_ _ | refine blk_drew ?_ | refine blk_alloc ?_ _)); refine blk_put (cs := #[.int .i64 (wrap64 (a1_2 - a1_0)), .int .i64 (wrap64 (a1_3 - a1_1)), .int .i64 0, .slice none 0 0]) ?_ 2 _ rfl; (with_reducible repeat (first | refine blk_drewN ?_ _ | refine blk_drew ?_ | refine blk_alloc ?_ _)); refine blk_put (cs := #[.int .i64 (wrap64 (a1_2 - a1_0)), .int .i64 0, .int .i64 0, .slice none 0 0]) ?_ 1 _ rfl; (with_reducible repeat (first | refine blk_drewN ?_ _ | refine blk_drew ?_ | refine blk_alloc ?_ _)); refine blk_put (cs := #[.int .i64 0, .int .i64 0, .int .i64 0, .slice none 0 0]) ?_ 0 _ rfl; (with_reducible repeat (first | refine blk_drewN ?_ _ | refine blk_drew ?_ | refine blk_alloc ?_ _)); exact BK157.out) Try.underlying26 rfl (by kernel_rfl)) rfl ?_; exact ⟨_, q224_, by (with_reducible repeat (first | apply Kd.R_alloc | apply Kd.R_drewN | apply Kd.R_drew)); exact Kd.R_mono (Kd.R_far (p := ⟨gb157, 3, none⟩) (Kd.R_far (p := ⟨gb157, 2, none⟩) (Kd.R_far (p := ⟨gb157, 1, none⟩) (Kd.R_far (p := ⟨gb157, 0, none⟩) (Kd.R_types HO_166003.out BK157.out (by decide)) (fun _ hk => hk.2) (.int .i64 (wrap64 (a1_2 - a1_0)))) (fun _ hk => hk.2) (.int .i64 (wrap64 (a1_3 - a1_1)))) (fun _ hk => hk.2) (.int .i64 a0_2)) (fun _ hk => hk.2) (.slice Ao62 x166003_2.length co62)) (fun _ hk => trivial), q59_⟩

end Go.Proofs.Ytgkccacenlcebaa.PPlaneCrops
