-- Written by a program of the session (wip/tools/myprint.py) over the kit's printer; checked by Lean.
import Derived.Test.YticicecobchdiaaPHistogramMergesx0
import Derived.Test.YticicecobchdiaaPHistogramMergesx2
import Derived.Test.YticicecobchdiaaPHistogramMergesx4
namespace Go.Proofs.Yticicecobchdiaa.PHistogramMerges
open Go.RowKit Go.Proofs.YticicecobchdiaaW.PrintWords Go.Proofs.YticicecobchdiaaW.PrintLast Go.Proofs.YticicecobchdiaaW.PrintMore
attribute [local go_sem] max2_int min2_int max_two min_two max_three min_three max_four min_four   -- for this text's walks alone
set_option linter.unusedVariables false
set_option linter.unusedSimpArgs false

/-! ### histogram_Partial: function 21 -/
mutual
def histogram_Partial.j0 : Nat → Int → Bool → Int → Int → Int → List Int → Int → Int → Int → Int → Option (List Int × Int)
  | 0, _, _, _, _, _, _, _, _, _, _ => none
  | k + 1, x1, x29, x134000, x134001, x134002, x134003, x135000, x135001, x135002, x135003 => if x29 = true then (some (([] : List Int), 8)) else (if 0 ≤ x1 then (if (x1 : Int).toNat ≤ 35184372088832 then (histogram_Partial.l0 k x1 (List.replicate (x1 : Int).toNat 0) x135001 x134000 x134001 x134002 x134003 x135000 x135001 x135002 x135003) else (none)) else (none))
def histogram_Partial.l0 : Nat → Int → List Int → Int → Int → Int → Int → List Int → Int → Int → Int → Int → Option (List Int × Int)
  | 0, _, _, _, _, _, _, _, _, _, _, _ => none
  | k + 1, x1, x8, x9, x134000, x134001, x134002, x134003, x135000, x135001, x135002, x135003 => if x9 < x135003 then (if 0 ≤ (wrap64 ((wrap64 (x9 * x134000)) + x135000)) then (if (wrap64 ((wrap64 (x9 * x134000)) + x135000)) ≤ (wrap64 ((wrap64 (x9 * x134000)) + x135002)) then (if (wrap64 ((wrap64 (x9 * x134000)) + x135002)) ≤ (x134003.length : Int) then (histogram_Partial.l1 k x1 x8 x9 ((x134003.take ((wrap64 ((wrap64 (x9 * x134000)) + x135002)) : Int).toNat).drop ((wrap64 ((wrap64 (x9 * x134000)) + x135000)) : Int).toNat) (((x134003.take ((wrap64 ((wrap64 (x9 * x134000)) + x135002)) : Int).toNat).drop ((wrap64 ((wrap64 (x9 * x134000)) + x135000)) : Int).toNat).length : Int) 0 x134000 x134001 x134002 x134003 x135000 x135001 x135002 x135003) else (none)) else (none)) else (none)) else (some (x8, 0))
def histogram_Partial.l1 : Nat → Int → List Int → Int → List Int → Int → Int → Int → Int → Int → List Int → Int → Int → Int → Int → Option (List Int × Int)
  | 0, _, _, _, _, _, _, _, _, _, _, _, _, _, _ => none
  | k + 1, x1, x8, x9, x56, x57, x58, x134000, x134001, x134002, x134003, x135000, x135001, x135002, x135003 => if x58 < x57 then (if 0 ≤ x58 then (if x58 < (x56.length : Int) then ((histogram_Bin.f (rd x56 x58) x134002 x1).bind fun t144 => (if 0 ≤ t144 then (if t144 < (x8.length : Int) then (histogram_Partial.l1 k x1 (x8.set (t144 : Int).toNat (wrap64 ((rd x8 t144) + 1))) x9 x56 x57 (wrap64 (x58 + 1)) x134000 x134001 x134002 x134003 x135000 x135001 x135002 x135003) else (none)) else (none))) else (none)) else (none)) else (histogram_Partial.l0 k x1 x8 (wrap64 (x9 + 1)) x134000 x134001 x134002 x134003 x135000 x135001 x135002 x135003)
end
def histogram_Partial.f (k : Nat) (a0_0 : Int) (a0_1 : Int) (a0_2 : Int) (l0_3 : List Int) (a1 : Int) (a2_0 : Int) (a2_1 : Int) (a2_2 : Int) (a2_3 : Int) : Option (List Int × Int) := (plane_Valid.f k a0_0 a0_1 a0_2 l0_3).bind fun t135 => (if t135 = true then ((histogram_between.f a1 1 128).bind fun t136 => (if t136 = true then ((rect_Empty.f a2_0 a2_1 a2_2 a2_3).bind fun t137 => (if t137 = true then (histogram_Partial.j0 k a1 true a0_0 a0_1 a0_2 l0_3 a2_0 a2_1 a2_2 a2_3) else ((rect_Inside.f k a2_0 a2_1 a2_2 a2_3 0 0 a0_0 a0_1).bind fun t138 => (histogram_Partial.j0 k a1 (!t138) a0_0 a0_1 a0_2 l0_3 a2_0 a2_1 a2_2 a2_3)))) else (some (([] : List Int), 9)))) else (some (([] : List Int), 1)))
theorem histogram_Partial.mono_l : ∀ k, (∀ y0 y1 y2 y3 y4 y5 y6 y7 y8 y9, LeO (histogram_Partial.j0 k y0 y1 y2 y3 y4 y5 y6 y7 y8 y9) (histogram_Partial.j0 (k + 1) y0 y1 y2 y3 y4 y5 y6 y7 y8 y9)) ∧ (∀ y0 y1 y2 y3 y4 y5 y6 y7 y8 y9 y10, LeO (histogram_Partial.l0 k y0 y1 y2 y3 y4 y5 y6 y7 y8 y9 y10) (histogram_Partial.l0 (k + 1) y0 y1 y2 y3 y4 y5 y6 y7 y8 y9 y10)) ∧ (∀ y0 y1 y2 y3 y4 y5 y6 y7 y8 y9 y10 y11 y12 y13, LeO (histogram_Partial.l1 k y0 y1 y2 y3 y4 y5 y6 y7 y8 y9 y10 y11 y12 y13) (histogram_Partial.l1 (k + 1) y0 y1 y2 y3 y4 y5 y6 y7 y8 y9 y10 y11 y12 y13))
  | 0 => ⟨fun _ _ _ _ _ _ _ _ _ _ r h => by simp [histogram_Partial.j0] at h, fun _ _ _ _ _ _ _ _ _ _ _ r h => by simp [histogram_Partial.l0] at h, fun _ _ _ _ _ _ _ _ _ _ _ _ _ _ r h => by simp [histogram_Partial.l1] at h⟩
  | k + 1 => by
    obtain ⟨ih0, ih1, ih2⟩ := histogram_Partial.mono_l k
    refine ⟨?_, ?_, ?_⟩
    · intro y0 y1 y2 y3 y4 y5 y6 y7 y8 y9
      unfold histogram_Partial.j0
      repeat' first
      | (with_reducible exact ih0 _ _ _ _ _ _ _ _ _ _)
      | (with_reducible exact ih1 _ _ _ _ _ _ _ _ _ _ _)
      | (with_reducible exact ih2 _ _ _ _ _ _ _ _ _ _ _ _ _ _)
      | (with_reducible exact plane_Valid.mono _ _ _ _ _)
      | (with_reducible exact rect_Inside.mono _ _ _ _ _ _ _ _ _)
      | (with_reducible exact LeO.refl _)
      | (with_reducible exact LeO.none _)
      | (with_reducible refine LeO.ite ?_ ?_)
      | (with_reducible refine LeO.bind ?_ (fun _ => ?_))
      | exact ih0 _ _ _ _ _ _ _ _ _ _
      | exact ih1 _ _ _ _ _ _ _ _ _ _ _
      | exact ih2 _ _ _ _ _ _ _ _ _ _ _ _ _ _
      | exact plane_Valid.mono _ _ _ _ _
      | exact rect_Inside.mono _ _ _ _ _ _ _ _ _
      | exact LeO.none _
      | refine LeO.ite ?_ ?_
      | refine LeO.bind ?_ (fun _ => ?_)
    · intro y0 y1 y2 y3 y4 y5 y6 y7 y8 y9 y10
      unfold histogram_Partial.l0
      repeat' first
      | (with_reducible exact ih0 _ _ _ _ _ _ _ _ _ _)
      | (with_reducible exact ih1 _ _ _ _ _ _ _ _ _ _ _)
      | (with_reducible exact ih2 _ _ _ _ _ _ _ _ _ _ _ _ _ _)
      | (with_reducible exact plane_Valid.mono _ _ _ _ _)
      | (with_reducible exact rect_Inside.mono _ _ _ _ _ _ _ _ _)
      | (with_reducible exact LeO.refl _)
      | (with_reducible exact LeO.none _)
      | (with_reducible refine LeO.ite ?_ ?_)
      | (with_reducible refine LeO.bind ?_ (fun _ => ?_))
      | exact ih0 _ _ _ _ _ _ _ _ _ _
      | exact ih1 _ _ _ _ _ _ _ _ _ _ _
      | exact ih2 _ _ _ _ _ _ _ _ _ _ _ _ _ _
      | exact plane_Valid.mono _ _ _ _ _
      | exact rect_Inside.mono _ _ _ _ _ _ _ _ _
      | exact LeO.none _
      | refine LeO.ite ?_ ?_
      | refine LeO.bind ?_ (fun _ => ?_)
    · intro y0 y1 y2 y3 y4 y5 y6 y7 y8 y9 y10 y11 y12 y13
      unfold histogram_Partial.l1
      repeat' first
      | (with_reducible exact ih0 _ _ _ _ _ _ _ _ _ _)
      | (with_reducible exact ih1 _ _ _ _ _ _ _ _ _ _ _)
      | (with_reducible exact ih2 _ _ _ _ _ _ _ _ _ _ _ _ _ _)
      | (with_reducible exact plane_Valid.mono _ _ _ _ _)
      | (with_reducible exact rect_Inside.mono _ _ _ _ _ _ _ _ _)
      | (with_reducible exact LeO.refl _)
      | (with_reducible exact LeO.none _)
      | (with_reducible refine LeO.ite ?_ ?_)
      | (with_reducible refine LeO.bind ?_ (fun _ => ?_))
      | exact ih0 _ _ _ _ _ _ _ _ _ _
      | exact ih1 _ _ _ _ _ _ _ _ _ _ _
      | exact ih2 _ _ _ _ _ _ _ _ _ _ _ _ _ _
      | exact plane_Valid.mono _ _ _ _ _
      | exact rect_Inside.mono _ _ _ _ _ _ _ _ _
      | exact LeO.none _
      | refine LeO.ite ?_ ?_
      | refine LeO.bind ?_ (fun _ => ?_)
theorem histogram_Partial.mono : ∀ a0 a1 a2 a3 a4 a5 a6 a7 a8 k, LeO (histogram_Partial.f k a0 a1 a2 a3 a4 a5 a6 a7 a8) (histogram_Partial.f (k + 1) a0 a1 a2 a3 a4 a5 a6 a7 a8) := by
  intro a0 a1 a2 a3 a4 a5 a6 a7 a8 k
  obtain ⟨ih0, ih1, ih2⟩ := histogram_Partial.mono_l k
  unfold histogram_Partial.f
  repeat' first
      | (with_reducible exact ih0 _ _ _ _ _ _ _ _ _ _)
      | (with_reducible exact ih1 _ _ _ _ _ _ _ _ _ _ _)
      | (with_reducible exact ih2 _ _ _ _ _ _ _ _ _ _ _ _ _ _)
      | (with_reducible exact plane_Valid.mono _ _ _ _ _)
      | (with_reducible exact rect_Inside.mono _ _ _ _ _ _ _ _ _)
      | (with_reducible exact LeO.refl _)
      | (with_reducible exact LeO.none _)
      | (with_reducible refine LeO.ite ?_ ?_)
      | (with_reducible refine LeO.bind ?_ (fun _ => ?_))
      | exact ih0 _ _ _ _ _ _ _ _ _ _
      | exact ih1 _ _ _ _ _ _ _ _ _ _ _
      | exact ih2 _ _ _ _ _ _ _ _ _ _ _ _ _ _
      | exact plane_Valid.mono _ _ _ _ _
      | exact rect_Inside.mono _ _ _ _ _ _ _ _ _
      | exact LeO.none _
      | refine LeO.ite ?_ ?_
      | refine LeO.bind ?_ (fun _ => ?_)
set_option maxHeartbeats 8000000 in
set_option maxRecDepth 100000 in
theorem histogram_Partial.calls (k : Nat) (a0_0 : Int) (a0_1 : Int) (a0_2 : Int) (A0_3 : Option Addr) (c0_3 : Nat) (l0_3 : List Int) (a1 : Int) (a2_0 : Int) (a2_1 : Int) (a2_2 : Int) (a2_3 : Int) (r1 : List Int) (r2 : Int) (w : World) (hr0_3 : Kd.C (Kd.int .i64) w A0_3 l0_3.length l0_3) (hc0_3 : l0_3.length ≤ c0_3) (h : histogram_Partial.f k a0_0 a0_1 a0_2 l0_3 a1 a2_0 a2_1 a2_2 a2_3 = some (r1, r2)) :
    Calls Try.prog 21 #[.agg #[.int .i64 a0_0, .int .i64 a0_1, .int .i64 a0_2, .slice A0_3 l0_3.length c0_3], .int .i64 a1, .agg #[.int .i64 a2_0, .int .i64 a2_1, .int .i64 a2_2, .int .i64 a2_3]] w fun e w' => ∃ v0_ : Value, e = .returned (.tuple #[v0_, .int .i64 r2]) ∧ Kd.R (Kd.int .i64) 3 w' w.heap.size (fun _ => True) v0_ r1 ∧ Below w.heap.size w w' := by
  have hu26 := Try.underlying26
  have hu39 := Try.underlying39
  have HR0_3 := Aside0.mk hr0_3
  have HC0_3 := Aside0.mk hc0_3
  clear hr0_3 hc0_3
  have HB := Aside0.mk (Below.refl w.heap.size w)
  have H : ((plane_Valid.f k a0_0 a0_1 a0_2 l0_3).bind fun t135 => (if t135 = true then ((histogram_between.f a1 1 128).bind fun t136 => (if t136 = true then ((rect_Empty.f a2_0 a2_1 a2_2 a2_3).bind fun t137 => (if t137 = true then (histogram_Partial.j0 k a1 true a0_0 a0_1 a0_2 l0_3 a2_0 a2_1 a2_2 a2_3) else ((rect_Inside.f k a2_0 a2_1 a2_2 a2_3 0 0 a0_0 a0_1).bind fun t138 => (histogram_Partial.j0 k a1 (!t138) a0_0 a0_1 a0_2 l0_3 a2_0 a2_1 a2_2 a2_3)))) else (some (([] : List Int), 9)))) else (some (([] : List Int), 1)))) = some (r1, r2) := h
  clear h
  replace H := Option.bind_eq_some_iff.mp H
  obtain ⟨t135, A40, H⟩ := H
  replace H : (if t135 = true then ((histogram_between.f a1 1 128).bind fun t136 => (if t136 = true then ((rect_Empty.f a2_0 a2_1 a2_2 a2_3).bind fun t137 => (if t137 = true then (histogram_Partial.j0 k a1 true a0_0 a0_1 a0_2 l0_3 a2_0 a2_1 a2_2 a2_3) else ((rect_Inside.f k a2_0 a2_1 a2_2 a2_3 0 0 a0_0 a0_1).bind fun t138 => (histogram_Partial.j0 k a1 (!t138) a0_0 a0_1 a0_2 l0_3 a2_0 a2_1 a2_2 a2_3)))) else (some (([] : List Int), 9)))) else (some (([] : List Int), 1))) = some (r1, r2) := H
  have A4 := Aside0.mk A40
  clear A40
  by_cases c5 : t135 = true
  · subst c5
    have H1 : ((histogram_between.f a1 1 128).bind fun t136 => (if t136 = true then ((rect_Empty.f a2_0 a2_1 a2_2 a2_3).bind fun t137 => (if t137 = true then (histogram_Partial.j0 k a1 true a0_0 a0_1 a0_2 l0_3 a2_0 a2_1 a2_2 a2_3) else ((rect_Inside.f k a2_0 a2_1 a2_2 a2_3 0 0 a0_0 a0_1).bind fun t138 => (histogram_Partial.j0 k a1 (!t138) a0_0 a0_1 a0_2 l0_3 a2_0 a2_1 a2_2 a2_3)))) else (some (([] : List Int), 9)))) = some (r1, r2) := by rw [if_pos rfl] at H; exact H
    clear H
    have H := H1
    clear H1
    replace H := Option.bind_eq_some_iff.mp H
    obtain ⟨t136, A60, H⟩ := H
    replace H : (if t136 = true then ((rect_Empty.f a2_0 a2_1 a2_2 a2_3).bind fun t137 => (if t137 = true then (histogram_Partial.j0 k a1 true a0_0 a0_1 a0_2 l0_3 a2_0 a2_1 a2_2 a2_3) else ((rect_Inside.f k a2_0 a2_1 a2_2 a2_3 0 0 a0_0 a0_1).bind fun t138 => (histogram_Partial.j0 k a1 (!t138) a0_0 a0_1 a0_2 l0_3 a2_0 a2_1 a2_2 a2_3)))) else (some (([] : List Int), 9))) = some (r1, r2) := H
    have A6 := Aside0.mk A60
    clear A60
    by_cases c7 : t136 = true
    · subst c7
      have H1 : ((rect_Empty.f a2_0 a2_1 a2_2 a2_3).bind fun t137 => (if t137 = true then (histogram_Partial.j0 k a1 true a0_0 a0_1 a0_2 l0_3 a2_0 a2_1 a2_2 a2_3) else ((rect_Inside.f k a2_0 a2_1 a2_2 a2_3 0 0 a0_0 a0_1).bind fun t138 => (histogram_Partial.j0 k a1 (!t138) a0_0 a0_1 a0_2 l0_3 a2_0 a2_1 a2_2 a2_3)))) = some (r1, r2) := by rw [if_pos rfl] at H; exact H
      clear H
      have H := H1
      clear H1
      have HC8 := Aside0.mk H
      clear H
      go_enter Try.func21, Try.ntmps21
      go_upto_region 5 with (first | ((with_reducible refine gate_dst (N := 3) rfl ?_); refine box_event ?hg (N := 3) ?hd (cs := #[.int .i64 a0_0, .int .i64 a0_1, .int .i64 a0_2, .slice A0_3 l0_3.length c0_3]) (t := 26) ?hr ?_; (case hd => rfl); (case hg => rfl); (case hr => first | (go_simp; done) | (go_simp; rfl)); intro gb133 hg w9 hbox hb; have n0_ := Aside0.mk (below_step (by repeat (first | (with_reducible first | exact HB.out | apply below_alloc | apply pw_below_drewN | apply below_drew1) | exact HB.out)) hb); have n1_ := Aside0.mk (hbox); have n2_ := Aside0.mk ((by rw [hg]; exact (below_size (by repeat (first | (with_reducible first | exact HB.out | apply below_alloc | apply pw_below_drewN | apply below_drew1) | exact HB.out))) : w.heap.size ≤ gb133)); have n3_ := Aside0.mk ((by rw [hg]; exact (below_size (by repeat (first | (with_reducible first | exact HB.out | apply below_alloc | apply pw_below_drewN | apply below_drew1) | exact HB.out))) : w.heap.size ≤ gb133)); clear HB; have HB := n0_; have BK133 := n1_; have GW133 := n2_; have GE133 := n3_; clear n0_ n1_ n2_ n3_; clear hb hbox hg) | ((with_reducible refine gate_dst (N := 5) rfl ?_); refine box_event ?hg (N := 5) ?hd (cs := #[.int .i64 a2_0, .int .i64 a2_1, .int .i64 a2_2, .int .i64 a2_3]) (t := 39) ?hr ?_; (case hd => rfl); (case hg => rfl); (case hr => first | (go_simp; done) | (go_simp; rfl)); intro gb134 hg w10 hbox hb; have n0_ := Aside0.mk (blk_below (g := gb133) (o := .cells #[.int .i64 a0_0, .int .i64 a0_1, .int .i64 a0_2, .slice A0_3 l0_3.length c0_3] 26 (0, 0)) (by (with_reducible repeat (first | refine blk_drewN ?_ _ | refine blk_drew ?_ | refine blk_alloc ?_ _)); exact BK133.out) hb); have n1_ := Aside0.mk (below_step (by repeat (first | (with_reducible first | exact HB.out | apply below_alloc | apply pw_below_drewN | apply below_drew1 | refine below_set ?_ GE133.out) | exact HB.out)) hb); have n2_ := Aside0.mk (hbox); have n3_ := Aside0.mk ((by rw [hg]; exact (below_size (by repeat (first | (with_reducible first | exact HB.out | apply below_alloc | apply pw_below_drewN | apply below_drew1 | refine below_set ?_ GE133.out) | exact HB.out))) : w.heap.size ≤ gb134)); have n4_ := Aside0.mk ((by rw [hg]; exact (below_size (by repeat (first | (with_reducible first | exact HB.out | apply below_alloc | apply pw_below_drewN | apply below_drew1 | refine below_set ?_ GE133.out) | exact HB.out))) : w.heap.size ≤ gb134)); have n5_ := Aside0.mk ((by rw [hg]; exact Nat.ne_of_lt (blk_lt (g := gb133) (o := .cells #[.int .i64 a0_0, .int .i64 a0_1, .int .i64 a0_2, .slice A0_3 l0_3.length c0_3] 26 (0, 0)) (by (with_reducible repeat (first | refine blk_drewN ?_ _ | refine blk_drew ?_ | refine blk_alloc ?_ _)); exact BK133.out)) : gb133 ≠ gb134)); have n6_ := Aside0.mk ((by rw [hg]; exact Nat.ne_of_gt (blk_lt (g := gb133) (o := .cells #[.int .i64 a0_0, .int .i64 a0_1, .int .i64 a0_2, .slice A0_3 l0_3.length c0_3] 26 (0, 0)) (by (with_reducible repeat (first | refine blk_drewN ?_ _ | refine blk_drew ?_ | refine blk_alloc ?_ _)); exact BK133.out)) : gb134 ≠ gb133)); clear BK133; clear HB; have BK133 := n0_; have HB := n1_; have BK134 := n2_; have GW134 := n3_; have GE134 := n4_; have NB133_134 := n5_; have NB134_133 := n6_; clear n0_ n1_ n2_ n3_ n4_ n5_ n6_; clear hb hbox hg; have hnb11 := NB133_134.out; have hnc11 := NB134_133.out; have hcz12_0 : w10.cell? ⟨gb133, 0, none⟩ = some (.int .i64 a0_0) := (blk_cell BK133.out 0).trans rfl; have hcz12_1 : w10.cell? ⟨gb133, 1, none⟩ = some (.int .i64 a0_1) := (blk_cell BK133.out 1).trans rfl; have hcz12_2 : w10.cell? ⟨gb133, 2, none⟩ = some (.int .i64 a0_2) := (blk_cell BK133.out 2).trans rfl; have hcz12_3 : w10.cell? ⟨gb133, 3, none⟩ = some (.slice A0_3 l0_3.length c0_3) := (blk_cell BK133.out 3).trans rfl; have hfz12_0 := blk_frozen BK133.out 0; have hfz12_1 := blk_frozen BK133.out 1; have hfz12_2 := blk_frozen BK133.out 2; have hfz12_3 := blk_frozen BK133.out 3) | ((with_reducible refine gate_callee (f := 32) rfl ?_); refine goesL_ (some 13) rfl rfl Try.func32 (by kernel_rfl) rfl #[.agg #[.int .i64 a0_0, .int .i64 a0_1, .int .i64 a0_2, .slice A0_3 l0_3.length c0_3]] rfl (by (try simp only [List.map_toArray, List.map_cons, List.map_nil]); first | done | rfl | (simp only [List.length_drop, List.length_take]; rfl)) ?_; (with_reducible refine (plane_Valid.calls k a0_0 a0_1 a0_2 _ _ l0_3 true _ ?side1 ?side2 A4.out).mono ?_); (case side1 => repeat (first | exact (Kd.C_below HR0_3.out HB.out) | (with_reducible refine Kd.C_alloc ?_ _) | (with_reducible refine Kd.C_drewN ?_ _) | (with_reducible refine Kd.C_drew ?_))); (case side2 => exact HC0_3.out); rintro e w13 ⟨rfl, hb⟩; refine ⟨_, rfl, ?_⟩; have n0_ := Aside0.mk (blk_below (g := gb133) (o := .cells #[.int .i64 a0_0, .int .i64 a0_1, .int .i64 a0_2, .slice A0_3 l0_3.length c0_3] 26 (0, 0)) (by (with_reducible repeat (first | refine blk_drewN ?_ _ | refine blk_drew ?_ | refine blk_alloc ?_ _)); exact BK133.out) hb); have n1_ := Aside0.mk (blk_below (g := gb134) (o := .cells #[.int .i64 a2_0, .int .i64 a2_1, .int .i64 a2_2, .int .i64 a2_3] 39 (0, 0)) (by (with_reducible repeat (first | refine blk_drewN ?_ _ | refine blk_drew ?_ | refine blk_alloc ?_ _)); exact BK134.out) hb); have n2_ := Aside0.mk (below_step (by repeat (first | (with_reducible first | exact HB.out | apply below_alloc | apply pw_below_drewN | apply below_drew1 | refine below_set ?_ GE133.out | refine below_set ?_ GE134.out) | exact HB.out)) hb); clear BK133; clear BK134; clear HB; have BK133 := n0_; have BK134 := n1_; have HB := n2_; clear n0_ n1_ n2_; (try clear hb); (try clear hb2); (try clear hk); (try clear hi)) | ((with_reducible refine gate_callee (f := 30) rfl ?_); refine goesL_ (some 16) rfl rfl Try.func30 (by kernel_rfl) rfl #[.int .i64 a1, .int .i64 1, .int .i64 128] rfl (by (try simp only [List.map_toArray, List.map_cons, List.map_nil]); first | done | rfl | (simp only [List.length_drop, List.length_take]; rfl)) ?_; (with_reducible refine (histogram_between.calls a1 1 128 true _ A6.out).mono ?_); rintro e w' ⟨rfl, ⟨nd, rfl⟩⟩; refine ⟨_, rfl, ?_⟩))
      (try simp only [Act.put, List.setIfInBounds_toArray, List.set_cons_zero, List.set_cons_succ])
      go_cut [29] (fun v29 wc => ∃ (kq : Nat) (x29_7 : Bool), v29 = .bool x29_7 ∧ Aside0 (histogram_Partial.j0 kq a1 x29_7 a0_0 a0_1 a0_2 l0_3 a2_0 a2_1 a2_2 a2_3 = some (r1, r2)) ∧ Aside0 (kq ≤ k) ∧ Aside0 (wc.heap[gb133]? = some (.cells #[.int .i64 a0_0, .int .i64 a0_1, .int .i64 a0_2, (.slice A0_3 l0_3.length c0_3)] 26 (0, 0))) ∧ Aside0 (wc.heap[gb134]? = some (.cells #[.int .i64 a2_0, .int .i64 a2_1, .int .i64 a2_2, .int .i64 a2_3] 39 (0, 0))) ∧ Aside0 (Below w.heap.size w wc))
      case first =>
        have H := HC8.out
        clear HC8
        replace H := Option.bind_eq_some_iff.mp H
        obtain ⟨t137, A140, H⟩ := H
        replace H : (if t137 = true then (histogram_Partial.j0 k a1 true a0_0 a0_1 a0_2 l0_3 a2_0 a2_1 a2_2 a2_3) else ((rect_Inside.f k a2_0 a2_1 a2_2 a2_3 0 0 a0_0 a0_1).bind fun t138 => (histogram_Partial.j0 k a1 (!t138) a0_0 a0_1 a0_2 l0_3 a2_0 a2_1 a2_2 a2_3))) = some (r1, r2) := H
        have A14 := Aside0.mk A140
        clear A140
        by_cases c15 : t137 = true
        · subst c15
          have H1 : (histogram_Partial.j0 k a1 true a0_0 a0_1 a0_2 l0_3 a2_0 a2_1 a2_2 a2_3) = some (r1, r2) := by rw [if_pos rfl] at H; exact H
          clear H
          have H := H1
          clear H1
          have H' := Aside0.mk H
          clear H
          have hnb16 := NB134_133.out
          have hnc16 := NB133_134.out
          have hcz17_0 : w13.cell? ⟨gb134, 0, none⟩ = some (.int .i64 a2_0) := (blk_cell BK134.out 0).trans rfl
          have hcz17_1 : w13.cell? ⟨gb134, 1, none⟩ = some (.int .i64 a2_1) := (blk_cell BK134.out 1).trans rfl
          have hcz17_2 : w13.cell? ⟨gb134, 2, none⟩ = some (.int .i64 a2_2) := (blk_cell BK134.out 2).trans rfl
          have hcz17_3 : w13.cell? ⟨gb134, 3, none⟩ = some (.int .i64 a2_3) := (blk_cell BK134.out 3).trans rfl
          have hfz17_0 := blk_frozen BK134.out 0
          have hfz17_1 := blk_frozen BK134.out 1
          have hfz17_2 := blk_frozen BK134.out 2
          have hfz17_3 := blk_frozen BK134.out 3
          go_wp2_with (first | ((with_reducible refine gate_callee (f := 33) rfl ?_); refine goesL_ (some 19) rfl rfl Try.func33 (by kernel_rfl) rfl #[.agg #[.int .i64 a2_0, .int .i64 a2_1, .int .i64 a2_2, .int .i64 a2_3]] rfl (by (try simp only [List.map_toArray, List.map_cons, List.map_nil]); first | done | rfl | (simp only [List.length_drop, List.length_take]; rfl)) ?_; (with_reducible refine (rect_Empty.calls a2_0 a2_1 a2_2 a2_3 true _ A14.out).mono ?_); rintro e w18 ⟨rfl, hb⟩; refine ⟨_, rfl, ?_⟩; have n0_ := Aside0.mk (blk_below (g := gb133) (o := .cells #[.int .i64 a0_0, .int .i64 a0_1, .int .i64 a0_2, .slice A0_3 l0_3.length c0_3] 26 (0, 0)) (by (with_reducible repeat (first | refine blk_drewN ?_ _ | refine blk_drew ?_ | refine blk_alloc ?_ _)); exact BK133.out) hb); have n1_ := Aside0.mk (blk_below (g := gb134) (o := .cells #[.int .i64 a2_0, .int .i64 a2_1, .int .i64 a2_2, .int .i64 a2_3] 39 (0, 0)) (by (with_reducible repeat (first | refine blk_drewN ?_ _ | refine blk_drew ?_ | refine blk_alloc ?_ _)); exact BK134.out) hb); have n2_ := Aside0.mk (below_step (by repeat (first | (with_reducible first | exact HB.out | apply below_alloc | apply pw_below_drewN | apply below_drew1 | refine below_set ?_ GE133.out | refine below_set ?_ GE134.out) | exact HB.out)) hb); clear BK133; clear BK134; clear HB; have BK133 := n0_; have BK134 := n1_; have HB := n2_; clear n0_ n1_ n2_; (try clear hb); (try clear hb2); (try clear hk); (try clear hi)))
          go_meet
          case rel => exact ⟨_, (true), (by first | rfl | (simp; done) | (simp [*]; done)), H', ⟨by first | omega | exact Nat.le_refl _⟩, ⟨by (with_reducible repeat (first | refine blk_drewN ?_ _ | refine blk_drew ?_ | refine blk_alloc ?_ _)); exact BK133.out⟩, ⟨by (with_reducible repeat (first | refine blk_drewN ?_ _ | refine blk_drew ?_ | refine blk_alloc ?_ _)); exact BK134.out⟩, ⟨by repeat (first | (with_reducible first | exact HB.out | apply below_alloc | apply pw_below_drewN | apply below_drew1 | refine below_set ?_ GE133.out | refine below_set ?_ GE134.out) | exact HB.out)⟩⟩
        · replace c15 := Bool.eq_false_iff.mpr c15
          subst c15
          have H1 : ((rect_Inside.f k a2_0 a2_1 a2_2 a2_3 0 0 a0_0 a0_1).bind fun t138 => (histogram_Partial.j0 k a1 (!t138) a0_0 a0_1 a0_2 l0_3 a2_0 a2_1 a2_2 a2_3)) = some (r1, r2) := by rw [if_neg (show ¬ (false = true) by decide)] at H; exact H
          clear H
          have H := H1
          clear H1
          replace H := Option.bind_eq_some_iff.mp H
          obtain ⟨t138, A190, H⟩ := H
          replace H : (histogram_Partial.j0 k a1 (!t138) a0_0 a0_1 a0_2 l0_3 a2_0 a2_1 a2_2 a2_3) = some (r1, r2) := H
          have A19 := Aside0.mk A190
          clear A190
          have H' := Aside0.mk H
          clear H
          have hnb20 := NB134_133.out
          have hnc20 := NB133_134.out
          have hcz21_0 : w13.cell? ⟨gb134, 0, none⟩ = some (.int .i64 a2_0) := (blk_cell BK134.out 0).trans rfl
          have hcz21_1 : w13.cell? ⟨gb134, 1, none⟩ = some (.int .i64 a2_1) := (blk_cell BK134.out 1).trans rfl
          have hcz21_2 : w13.cell? ⟨gb134, 2, none⟩ = some (.int .i64 a2_2) := (blk_cell BK134.out 2).trans rfl
          have hcz21_3 : w13.cell? ⟨gb134, 3, none⟩ = some (.int .i64 a2_3) := (blk_cell BK134.out 3).trans rfl
          have hfz21_0 := blk_frozen BK134.out 0
          have hfz21_1 := blk_frozen BK134.out 1
          have hfz21_2 := blk_frozen BK134.out 2
          have hfz21_3 := blk_frozen BK134.out 3
          go_wp2_with (first | ((with_reducible refine gate_callee (f := 33) rfl ?_); refine goesL_ (some 19) rfl rfl Try.func33 (by kernel_rfl) rfl #[.agg #[.int .i64 a2_0, .int .i64 a2_1, .int .i64 a2_2, .int .i64 a2_3]] rfl (by (try simp only [List.map_toArray, List.map_cons, List.map_nil]); first | done | rfl | (simp only [List.length_drop, List.length_take]; rfl)) ?_; (with_reducible refine (rect_Empty.calls a2_0 a2_1 a2_2 a2_3 false _ A14.out).mono ?_); rintro e w22 ⟨rfl, hb⟩; refine ⟨_, rfl, ?_⟩; have n0_ := Aside0.mk (blk_below (g := gb133) (o := .cells #[.int .i64 a0_0, .int .i64 a0_1, .int .i64 a0_2, .slice A0_3 l0_3.length c0_3] 26 (0, 0)) (by (with_reducible repeat (first | refine blk_drewN ?_ _ | refine blk_drew ?_ | refine blk_alloc ?_ _)); exact BK133.out) hb); have n1_ := Aside0.mk (blk_below (g := gb134) (o := .cells #[.int .i64 a2_0, .int .i64 a2_1, .int .i64 a2_2, .int .i64 a2_3] 39 (0, 0)) (by (with_reducible repeat (first | refine blk_drewN ?_ _ | refine blk_drew ?_ | refine blk_alloc ?_ _)); exact BK134.out) hb); have n2_ := Aside0.mk (below_step (by repeat (first | (with_reducible first | exact HB.out | apply below_alloc | apply pw_below_drewN | apply below_drew1 | refine below_set ?_ GE133.out | refine below_set ?_ GE134.out) | exact HB.out)) hb); clear BK133; clear BK134; clear HB; have BK133 := n0_; have BK134 := n1_; have HB := n2_; clear n0_ n1_ n2_; (try clear hb); (try clear hb2); (try clear hk); (try clear hi); have hcz23_0 : w22.cell? ⟨gb134, 0, none⟩ = some (.int .i64 a2_0) := (blk_cell BK134.out 0).trans rfl; have hcz23_1 : w22.cell? ⟨gb134, 1, none⟩ = some (.int .i64 a2_1) := (blk_cell BK134.out 1).trans rfl; have hcz23_2 : w22.cell? ⟨gb134, 2, none⟩ = some (.int .i64 a2_2) := (blk_cell BK134.out 2).trans rfl; have hcz23_3 : w22.cell? ⟨gb134, 3, none⟩ = some (.int .i64 a2_3) := (blk_cell BK134.out 3).trans rfl; have hfz23_0 := blk_frozen BK134.out 0; have hfz23_1 := blk_frozen BK134.out 1; have hfz23_2 := blk_frozen BK134.out 2; have hfz23_3 := blk_frozen BK134.out 3; have hcz24_0 : w22.cell? ⟨gb133, 0, none⟩ = some (.int .i64 a0_0) := (blk_cell BK133.out 0).trans rfl; have hcz24_1 : w22.cell? ⟨gb133, 1, none⟩ = some (.int .i64 a0_1) := (blk_cell BK133.out 1).trans rfl; have hcz24_2 : w22.cell? ⟨gb133, 2, none⟩ = some (.int .i64 a0_2) := (blk_cell BK133.out 2).trans rfl; have hcz24_3 : w22.cell? ⟨gb133, 3, none⟩ = some (.slice A0_3 l0_3.length c0_3) := (blk_cell BK133.out 3).trans rfl; have hfz24_0 := blk_frozen BK133.out 0; have hfz24_1 := blk_frozen BK133.out 1; have hfz24_2 := blk_frozen BK133.out 2; have hfz24_3 := blk_frozen BK133.out 3) | (go_at_call 34; (with_reducible refine (rect_Inside.calls k a2_0 a2_1 a2_2 a2_3 0 0 a0_0 a0_1 t138 _ A19.out).mono ?_); rintro e w25 ⟨rfl, hb⟩; have n0_ := Aside0.mk (blk_below (g := gb133) (o := .cells #[.int .i64 a0_0, .int .i64 a0_1, .int .i64 a0_2, .slice A0_3 l0_3.length c0_3] 26 (0, 0)) (by (with_reducible repeat (first | refine blk_drewN ?_ _ | refine blk_drew ?_ | refine blk_alloc ?_ _)); exact BK133.out) hb); have n1_ := Aside0.mk (blk_below (g := gb134) (o := .cells #[.int .i64 a2_0, .int .i64 a2_1, .int .i64 a2_2, .int .i64 a2_3] 39 (0, 0)) (by (with_reducible repeat (first | refine blk_drewN ?_ _ | refine blk_drew ?_ | refine blk_alloc ?_ _)); exact BK134.out) hb); have n2_ := Aside0.mk (below_step (by repeat (first | (with_reducible first | exact HB.out | apply below_alloc | apply pw_below_drewN | apply below_drew1 | refine below_set ?_ GE133.out | refine below_set ?_ GE134.out) | exact HB.out)) hb); clear BK133; clear BK134; clear HB; have BK133 := n0_; have BK134 := n1_; have HB := n2_; clear n0_ n1_ n2_; (try clear hb); (try clear hb2); (try clear hk); (try clear hi)))
          go_meet
          case rel => exact ⟨_, (!t138), (by first | rfl | (simp; done) | (simp [*]; done)), H', ⟨by first | omega | exact Nat.le_refl _⟩, ⟨by (with_reducible repeat (first | refine blk_drewN ?_ _ | refine blk_drew ?_ | refine blk_alloc ?_ _)); exact BK133.out⟩, ⟨by (with_reducible repeat (first | refine blk_drewN ?_ _ | refine blk_drew ?_ | refine blk_alloc ?_ _)); exact BK134.out⟩, ⟨by repeat (first | (with_reducible first | exact HB.out | apply below_alloc | apply pw_below_drewN | apply below_drew1 | refine below_set ?_ GE133.out | refine below_set ?_ GE134.out) | exact HB.out)⟩⟩
      case rest =>
        clear HC8
        try clear c1
        try clear c2
        try clear p2
        try clear c3
        try clear c5
        try clear c7
        try clear c11
        try clear c15
        try clear c16
        try clear c20
        try clear c21
        try clear hcz12_0
        try clear hcz12_1
        try clear hcz12_2
        try clear hcz12_3
        try clear hcz17_0
        try clear hcz17_1
        try clear hcz17_2
        try clear hcz17_3
        try clear hcz21_0
        try clear hcz21_1
        try clear hcz21_2
        try clear hcz21_3
        try clear hcz23_0
        try clear hcz23_1
        try clear hcz23_2
        try clear hcz23_3
        try clear hcz24_0
        try clear hcz24_1
        try clear hcz24_2
        try clear hcz24_3
        try clear hfz12_0
        try clear hfz12_1
        try clear hfz12_2
        try clear hfz12_3
        try clear hfz17_0
        try clear hfz17_1
        try clear hfz17_2
        try clear hfz17_3
        try clear hfz21_0
        try clear hfz21_1
        try clear hfz21_2
        try clear hfz21_3
        try clear hfz23_0
        try clear hfz23_1
        try clear hfz23_2
        try clear hfz23_3
        try clear hfz24_0
        try clear hfz24_1
        try clear hfz24_2
        try clear hfz24_3
        obtain ⟨kq, x29_7, rfl, HA, HJ7, BK133, BK134, HB⟩ := hcut
        cases kq with
        | zero => exact absurd HA.out (by simp [histogram_Partial.j0])
        | succ kj7 =>
          have H := HA.out
          clear HA
          simp only [histogram_Partial.j0] at H
          by_cases c26 : x29_7 = true
          · subst c26
            have H1 : (some (([] : List Int), 8)) = some (r1, r2) := by rw [if_pos rfl] at H; exact H
            clear H
            have H := H1
            clear H1
            simp only [Option.some.injEq, Prod.mk.injEq] at H
            obtain ⟨rfl, rfl⟩ := H
            go_wp2
            go_ret2
            exact ⟨_, by first | rfl | (simp [errW_none, errW_some] <;> rfl) | (simp [*, errW_none, errW_some] <;> rfl), by first | exact Kd.R_nil _ _ _ _ _ | exact Kd.N_nil _ _ _ _ _ | exact Kd.V_nil _ _ _ _ _ | exact Kd.Q_nil _ _ _ _ _ | exact Kd.S_nil _ _ _ _ _, by repeat (first | (with_reducible first | exact HB.out | apply below_alloc | apply pw_below_drewN | apply below_drew1 | refine below_set ?_ GE133.out | refine below_set ?_ GE134.out) | exact HB.out)⟩
          · replace c26 := Bool.eq_false_iff.mpr c26
            subst c26
            have H1 : (if 0 ≤ a1 then (if (a1 : Int).toNat ≤ 35184372088832 then (histogram_Partial.l0 kj7 a1 (List.replicate (a1 : Int).toNat 0) a2_1 a0_0 a0_1 a0_2 l0_3 a2_0 a2_1 a2_2 a2_3) else (none)) else (none)) = some (r1, r2) := by rw [if_neg (show ¬ (false = true) by decide)] at H; exact H
            clear H
            have H := H1
            clear H1
            by_cases c27 : 0 ≤ a1
            · rw [if_pos c27] at H
              have c27b0 := eq_true c27
              have c27b1 : decide (0 ≤ a1) = true := decide_eq_true c27
              clear c27
              by_cases c28 : (a1 : Int).toNat ≤ 35184372088832
              · rw [if_pos c28] at H
                have c28b0 := eq_true c28
                have c28b1 : decide ((a1 : Int).toNat ≤ 35184372088832) = true := decide_eq_true c28
                clear c28
                obtain ⟨y139, hy139⟩ : ∃ y_ : List Int, y_ = (List.replicate (a1 : Int).toNat 0) := ⟨_, rfl⟩
                replace H : (histogram_Partial.l0 kj7 a1 y139 a2_1 a0_0 a0_1 a0_2 l0_3 a2_0 a2_1 a2_2 a2_3) = some (r1, r2) := by first | (rw [hy139]; with_reducible exact H) | (have H2_ := (Option.bind_some _ _).symm.trans H; rw [hy139]; with_reducible exact H2_) | (have H2_ := (Option.bind_some _ _).symm.trans H; with_reducible exact H2_) | with_reducible exact H | (rw [hy139]; exact H) | exact H
                have Ny139 := Aside0.mk hy139
                clear hy139
                have H' := Aside0.mk H
                clear H
                go_wp2_with (first | ((with_reducible refine gate_dst (N := 31) rfl ?_); refine Kd.R_make (Kd.int .i64) _ 3 rfl (N := 31) rfl 22 _ _ rfl a1 rfl rfl Try.underlying22 (.int .i64 0) 8 info3 rfl (by decide) (by omega) 0 (ok := fun _ => True) (okp := fun _ => True) rfl (fun _ hk => hk) trivial (of_decide_eq_true (by first | (with_reducible assumption) | assumption)) (Nat.le_trans (Nat.mul_le_mul_right _ (of_decide_eq_true (by first | (with_reducible assumption) | assumption) : a1.toNat ≤ 35184372088832)) (by omega)) (Below.refl _ _) (Nat.le_refl _) ?_; intro v140 w29 ho30 hb hg_ hnew_; clear hg_ hnew_; (first | rw [← Ny139.out] at ho30 | (simp only [Int.reduceToNat] at ho30; rw [← Ny139.out] at ho30)); have n0_ := Aside0.mk (Kd.R_lower ho30 (below_size (by repeat (first | (with_reducible first | exact HB.out | apply below_alloc | apply pw_below_drewN | apply below_drew1 | refine below_set ?_ GE133.out | refine below_set ?_ GE134.out) | exact HB.out)))); have n1_ := Aside0.mk (blk_below (g := gb133) (o := .cells #[.int .i64 a0_0, .int .i64 a0_1, .int .i64 a0_2, .slice A0_3 l0_3.length c0_3] 26 (0, 0)) (by (with_reducible repeat (first | refine blk_drewN ?_ _ | refine blk_drew ?_ | refine blk_alloc ?_ _)); exact BK133.out) hb); have n2_ := Aside0.mk (blk_below (g := gb134) (o := .cells #[.int .i64 a2_0, .int .i64 a2_1, .int .i64 a2_2, .int .i64 a2_3] 39 (0, 0)) (by (with_reducible repeat (first | refine blk_drewN ?_ _ | refine blk_drew ?_ | refine blk_alloc ?_ _)); exact BK134.out) hb); have n3_ := Aside0.mk (below_step (by repeat (first | (with_reducible first | exact HB.out | apply below_alloc | apply pw_below_drewN | apply below_drew1 | refine below_set ?_ GE133.out | refine below_set ?_ GE134.out) | exact HB.out)) hb); clear BK133; clear BK134; clear HB; have HO141 := n0_; have BK133 := n1_; have BK134 := n2_; have HB := n3_; clear n0_ n1_ n2_ n3_; clear hb ho30; have hnb31 := NB134_133.out; have hnc31 := NB133_134.out; have hcz32_0 : w29.cell? ⟨gb134, 0, none⟩ = some (.int .i64 a2_0) := (blk_cell BK134.out 0).trans rfl; have hcz32_1 : w29.cell? ⟨gb134, 1, none⟩ = some (.int .i64 a2_1) := (blk_cell BK134.out 1).trans rfl; have hcz32_2 : w29.cell? ⟨gb134, 2, none⟩ = some (.int .i64 a2_2) := (blk_cell BK134.out 2).trans rfl; have hcz32_3 : w29.cell? ⟨gb134, 3, none⟩ = some (.int .i64 a2_3) := (blk_cell BK134.out 3).trans rfl; have hfz32_0 := blk_frozen BK134.out 0; have hfz32_1 := blk_frozen BK134.out 1; have hfz32_2 := blk_frozen BK134.out 2; have hfz32_3 := blk_frozen BK134.out 3))
                go_loopg [9] kj7 (fun kq v9 w' => ∃ (x8_2 : List Int) (x9_2 : Int), v9 = .int .i64 x9_2 ∧ Aside0 (histogram_Partial.l0 kq a1 x8_2 x9_2 a0_0 a0_1 a0_2 l0_3 a2_0 a2_1 a2_2 a2_3 = some (r1, r2)) ∧ Aside0 (kq ≤ kj7) ∧ Aside0 (Kd.R (Kd.int .i64) 3 w' w.heap.size (fun _ => True) v140 x8_2) ∧ Aside0 (w'.heap[gb133]? = some (.cells #[.int .i64 a0_0, .int .i64 a0_1, .int .i64 a0_2, (.slice A0_3 l0_3.length c0_3)] 26 (0, 0))) ∧ Aside0 (w'.heap[gb134]? = some (.cells #[.int .i64 a2_0, .int .i64 a2_1, .int .i64 a2_2, .int .i64 a2_3] 39 (0, 0))) ∧ Aside0 (Below w.heap.size w w'))
                case atStart => exact ⟨(y139), (a2_1), (by first | rfl | (simp; done) | (simp [*]; done)), H', ⟨Nat.le_refl _⟩, ⟨by (with_reducible repeat (first | apply Kd.R_alloc | apply Kd.R_drewN | apply Kd.R_drew)); exact HO141.out⟩, ⟨by (with_reducible repeat (first | refine blk_drewN ?_ _ | refine blk_drew ?_ | refine blk_alloc ?_ _)); exact BK133.out⟩, ⟨by (with_reducible repeat (first | refine blk_drewN ?_ _ | refine blk_drew ?_ | refine blk_alloc ?_ _)); exact BK134.out⟩, ⟨by repeat (first | (with_reducible first | exact HB.out | apply below_alloc | apply pw_below_drewN | apply below_drew1 | refine below_set ?_ GE133.out | refine below_set ?_ GE134.out) | exact HB.out)⟩⟩
                case round =>
                  clear H'
                  try clear c1
                  try clear c2
                  try clear p2
                  try clear c3
                  try clear c5
                  try clear c7
                  try clear c11
                  try clear c15
                  try clear c16
                  try clear c20
                  try clear c21
                  try clear c26
                  try clear c27
                  try clear c27b0
                  try clear c27b1
                  try clear c28
                  try clear c28b0
                  try clear c28b1
                  try clear c30
                  try clear c31
                  try clear c32
                  try clear hcz12_0
                  try clear hcz12_1
                  try clear hcz12_2
                  try clear hcz12_3
                  try clear hcz17_0
                  try clear hcz17_1
                  try clear hcz17_2
                  try clear hcz17_3
                  try clear hcz21_0
                  try clear hcz21_1
                  try clear hcz21_2
                  try clear hcz21_3
                  try clear hcz23_0
                  try clear hcz23_1
                  try clear hcz23_2
                  try clear hcz23_3
                  try clear hcz24_0
                  try clear hcz24_1
                  try clear hcz24_2
                  try clear hcz24_3
                  try clear hcz32_0
                  try clear hcz32_1
                  try clear hcz32_2
                  try clear hcz32_3
                  try clear hfz12_0
                  try clear hfz12_1
                  try clear hfz12_2
                  try clear hfz12_3
                  try clear hfz17_0
                  try clear hfz17_1
                  try clear hfz17_2
                  try clear hfz17_3
                  try clear hfz21_0
                  try clear hfz21_1
                  try clear hfz21_2
                  try clear hfz21_3
                  try clear hfz23_0
                  try clear hfz23_1
                  try clear hfz23_2
                  try clear hfz23_3
                  try clear hfz24_0
                  try clear hfz24_1
                  try clear hfz24_2
                  try clear hfz24_3
                  try clear hfz32_0
                  try clear hfz32_1
                  try clear hfz32_2
                  try clear hfz32_3
                  try clear p2
                  obtain ⟨x8_2, x9_2, rfl, HA, HK2, HO_8, BK133, BK134, HB⟩ := hrel
                  cases gk with
                  | zero => exact absurd HA.out (by simp [histogram_Partial.l0])
                  | succ k2 =>
                    have H := HA.out
                    clear HA
                    simp only [histogram_Partial.l0] at H
                    by_cases c33 : x9_2 < a2_3
                    · rw [if_pos c33] at H
                      have c33b0 : decide (x9_2 < a2_3) = true := decide_eq_true c33
                      clear c33
                      obtain ⟨ji34, hji34⟩ : ∃ j_ : Int, (wrap64 ((wrap64 (x9_2 * a0_0)) + a2_0)) = j_ := ⟨_, rfl⟩
                      replace H : (if 0 ≤ (ji34) then (if (ji34) ≤ (wrap64 ((wrap64 (x9_2 * a0_0)) + a2_2)) then (if (wrap64 ((wrap64 (x9_2 * a0_0)) + a2_2)) ≤ (l0_3.length : Int) then (histogram_Partial.l1 k2 a1 x8_2 x9_2 ((l0_3.take ((wrap64 ((wrap64 (x9_2 * a0_0)) + a2_2)) : Int).toNat).drop ((ji34) : Int).toNat) (((l0_3.take ((wrap64 ((wrap64 (x9_2 * a0_0)) + a2_2)) : Int).toNat).drop ((ji34) : Int).toNat).length : Int) 0 a0_0 a0_1 a0_2 l0_3 a2_0 a2_1 a2_2 a2_3) else (none)) else (none)) else (none)) = some (r1, r2) := by first | (rw [hji34] at H; exact H) | (simp only [hji34] at H ⊢; exact H)
                      have hji34w : (IntKind.i64.wrap ((wrap64 (x9_2 * a0_0)) + a2_0)) = ji34 := (i64_w _).trans hji34
                      by_cases c35 : 0 ≤ (ji34)
                      · rw [if_pos c35] at H
                        have c35b0 := eq_true c35
                        have c35b1 : decide (0 ≤ (ji34)) = true := decide_eq_true c35
                        clear c35
                        by_cases c36 : (ji34) ≤ (wrap64 ((wrap64 (x9_2 * a0_0)) + a2_2))
                        · rw [if_pos c36] at H
                          have c36b0 := eq_true c36
                          have c36b1 : decide ((ji34) ≤ (wrap64 ((wrap64 (x9_2 * a0_0)) + a2_2))) = true := decide_eq_true c36
                          by_cases c37 : (wrap64 ((wrap64 (x9_2 * a0_0)) + a2_2)) ≤ (l0_3.length : Int)
                          · rw [if_pos c37] at H
                            have LTc37 := Aside0.mk c37
                            have c37b0 := eq_true c37
                            have c37b1 : decide ((wrap64 ((wrap64 (x9_2 * a0_0)) + a2_2)) ≤ (l0_3.length : Int)) = true := decide_eq_true c37
                            have H' := Aside0.mk H
                            clear H
                            have hnb38 := NB134_133.out
                            have hnc38 := NB133_134.out
                            have hcz39_0 : wr.cell? ⟨gb134, 0, none⟩ = some (.int .i64 a2_0) := (blk_cell BK134.out 0).trans rfl
                            have hcz39_1 : wr.cell? ⟨gb134, 1, none⟩ = some (.int .i64 a2_1) := (blk_cell BK134.out 1).trans rfl
                            have hcz39_2 : wr.cell? ⟨gb134, 2, none⟩ = some (.int .i64 a2_2) := (blk_cell BK134.out 2).trans rfl
                            have hcz39_3 : wr.cell? ⟨gb134, 3, none⟩ = some (.int .i64 a2_3) := (blk_cell BK134.out 3).trans rfl
                            have hfz39_0 := blk_frozen BK134.out 0
                            have hfz39_1 := blk_frozen BK134.out 1
                            have hfz39_2 := blk_frozen BK134.out 2
                            have hfz39_3 := blk_frozen BK134.out 3
                            have hcz40_0 : wr.cell? ⟨gb133, 0, none⟩ = some (.int .i64 a0_0) := (blk_cell BK133.out 0).trans rfl
                            have hcz40_1 : wr.cell? ⟨gb133, 1, none⟩ = some (.int .i64 a0_1) := (blk_cell BK133.out 1).trans rfl
                            have hcz40_2 : wr.cell? ⟨gb133, 2, none⟩ = some (.int .i64 a0_2) := (blk_cell BK133.out 2).trans rfl
                            have hcz40_3 : wr.cell? ⟨gb133, 3, none⟩ = some (.slice A0_3 l0_3.length c0_3) := (blk_cell BK133.out 3).trans rfl
                            have hfz40_0 := blk_frozen BK133.out 0
                            have hfz40_1 := blk_frozen BK133.out 1
                            have hfz40_2 := blk_frozen BK133.out 2
                            have hfz40_3 := blk_frozen BK133.out 3
                            obtain ⟨i041, hi041, _, hsz41, _⟩ := info_parts info3
                            obtain ⟨A41, hcut41, hA41, hC41⟩ := print_mid_of (P := Try.prog) (Value.int .i64) 0 22 3 .i64 .i64 Try.underlying22 hi041 hsz41 A0_3 c0_3 l0_3 (ji34) (wrap64 ((wrap64 (x9_2 * a0_0)) + a2_2)) (of_decide_eq_true (by first | (with_reducible assumption) | assumption)) (by first | omega | exact of_decide_eq_true (by first | (with_reducible assumption) | assumption)) (of_decide_eq_true (by first | (with_reducible assumption) | assumption)) HC0_3.out
                            have HR142 := Aside0.mk (Kd.C_of_reads (h1 := fun _ => rfl) (hA41 _ (Kd.reads_of_C HR0_3.out)))
                            have HC142 := Aside0.mk hC41
                            clear hA41 hC41 hi041 hsz41
                            go_wp2
                            go_loopg [58] k2 (fun kq v58 w' => ∃ (x8_3 : List Int) (x58_3 : Int), v58 = .int .i64 x58_3 ∧ Aside0 (histogram_Partial.l1 kq a1 x8_3 x9_2 ((l0_3.take ((wrap64 ((wrap64 (x9_2 * a0_0)) + a2_2)) : Int).toNat).drop ((ji34) : Int).toNat) (((l0_3.take ((wrap64 ((wrap64 (x9_2 * a0_0)) + a2_2)) : Int).toNat).drop ((ji34) : Int).toNat).length : Int) x58_3 a0_0 a0_1 a0_2 l0_3 a2_0 a2_1 a2_2 a2_3 = some (r1, r2)) ∧ Aside0 (kq ≤ k2) ∧ Aside0 (Kd.R (Kd.int .i64) 3 w' w.heap.size (fun _ => True) v140 x8_3) ∧ Aside0 (w'.heap[gb133]? = some (.cells #[.int .i64 a0_0, .int .i64 a0_1, .int .i64 a0_2, (.slice A0_3 l0_3.length c0_3)] 26 (0, 0))) ∧ Aside0 (w'.heap[gb134]? = some (.cells #[.int .i64 a2_0, .int .i64 a2_1, .int .i64 a2_2, .int .i64 a2_3] 39 (0, 0))) ∧ Aside0 (Below w.heap.size w w'))
                            case atStart => exact ⟨(x8_2), (0), (by first | rfl | (simp; done) | (simp [*]; done)), H', ⟨Nat.le_refl _⟩, ⟨by (with_reducible repeat (first | apply Kd.R_alloc | apply Kd.R_drewN | apply Kd.R_drew)); exact HO_8.out⟩, ⟨by (with_reducible repeat (first | refine blk_drewN ?_ _ | refine blk_drew ?_ | refine blk_alloc ?_ _)); exact BK133.out⟩, ⟨by (with_reducible repeat (first | refine blk_drewN ?_ _ | refine blk_drew ?_ | refine blk_alloc ?_ _)); exact BK134.out⟩, ⟨by repeat (first | (with_reducible first | exact HB.out | apply below_alloc | apply pw_below_drewN | apply below_drew1 | refine below_set ?_ GE133.out | refine below_set ?_ GE134.out) | exact HB.out)⟩⟩
                            case round =>
                              clear H'
                              try clear c1
                              try clear c2
                              try clear p2
                              try clear c3
                              try clear c5
                              try clear p6
                              try clear c7
                              try clear c11
                              try clear c15
                              try clear c16
                              try clear c20
                              try clear c21
                              try clear c26
                              try clear c27
                              try clear c27b0
                              try clear c27b1
                              try clear c28
                              try clear c28b0
                              try clear c28b1
                              try clear c30
                              try clear c31
                              try clear c32
                              try clear c33
                              try clear c33b0
                              try clear c35
                              try clear c35b0
                              try clear c35b1
                              try clear c36
                              try clear c36b0
                              try clear c36b1
                              try clear c37
                              try clear c37b0
                              try clear c37b1
                              try clear c38
                              try clear hcz12_0
                              try clear hcz12_1
                              try clear hcz12_2
                              try clear hcz12_3
                              try clear hcz17_0
                              try clear hcz17_1
                              try clear hcz17_2
                              try clear hcz17_3
                              try clear hcz21_0
                              try clear hcz21_1
                              try clear hcz21_2
                              try clear hcz21_3
                              try clear hcz23_0
                              try clear hcz23_1
                              try clear hcz23_2
                              try clear hcz23_3
                              try clear hcz24_0
                              try clear hcz24_1
                              try clear hcz24_2
                              try clear hcz24_3
                              try clear hcz32_0
                              try clear hcz32_1
                              try clear hcz32_2
                              try clear hcz32_3
                              try clear hcz39_0
                              try clear hcz39_1
                              try clear hcz39_2
                              try clear hcz39_3
                              try clear hcz40_0
                              try clear hcz40_1
                              try clear hcz40_2
                              try clear hcz40_3
                              try clear hfz12_0
                              try clear hfz12_1
                              try clear hfz12_2
                              try clear hfz12_3
                              try clear hfz17_0
                              try clear hfz17_1
                              try clear hfz17_2
                              try clear hfz17_3
                              try clear hfz21_0
                              try clear hfz21_1
                              try clear hfz21_2
                              try clear hfz21_3
                              try clear hfz23_0
                              try clear hfz23_1
                              try clear hfz23_2
                              try clear hfz23_3
                              try clear hfz24_0
                              try clear hfz24_1
                              try clear hfz24_2
                              try clear hfz24_3
                              try clear hfz32_0
                              try clear hfz32_1
                              try clear hfz32_2
                              try clear hfz32_3
                              try clear hfz39_0
                              try clear hfz39_1
                              try clear hfz39_2
                              try clear hfz39_3
                              try clear hfz40_0
                              try clear hfz40_1
                              try clear hfz40_2
                              try clear hfz40_3
                              try clear p2
                              obtain ⟨x8_3, x58_3, rfl, HA, HK3, HO_8, BK133, BK134, HB⟩ := hrel
                              cases gk with
                              | zero => exact absurd HA.out (by simp [histogram_Partial.l1])
                              | succ k3 =>
                                have H := HA.out
                                clear HA
                                simp only [histogram_Partial.l1] at H
                                by_cases c42 : x58_3 < (((l0_3.take ((wrap64 ((wrap64 (x9_2 * a0_0)) + a2_2)) : Int).toNat).drop ((ji34) : Int).toNat).length : Int)
                                · rw [if_pos c42] at H
                                  have c42b0 : decide (x58_3 < (((l0_3.take ((wrap64 ((wrap64 (x9_2 * a0_0)) + a2_2)) : Int).toNat).drop ((ji34) : Int).toNat).length : Int)) = true := decide_eq_true c42
                                  have c42b9 : decide (x58_3 < ((((wrap64 ((wrap64 (x9_2 * a0_0)) + a2_2)) : Int).toNat - ((ji34) : Int).toNat : Nat) : Int)) = true := by have hh := (by assumption : Aside0 ((wrap64 ((wrap64 (x9_2 * a0_0)) + a2_2)) ≤ (l0_3.length : Int))).out; have z := c42b0; rw [List.length_drop, List.length_take, Nat.min_eq_left (by omega)] at z; exact z
                                  have c42b8 : (x58_3 < ((((wrap64 ((wrap64 (x9_2 * a0_0)) + a2_2)) : Int).toNat - ((ji34) : Int).toNat : Nat) : Int)) = True := eq_true (of_decide_eq_true c42b9)
                                  clear c42
                                  by_cases c43 : 0 ≤ x58_3
                                  · rw [if_pos c43] at H
                                    have c43b0 : decide (0 ≤ x58_3) = true := decide_eq_true c43
                                    clear c43
                                    by_cases c44 : x58_3 < (((l0_3.take ((wrap64 ((wrap64 (x9_2 * a0_0)) + a2_2)) : Int).toNat).drop ((ji34) : Int).toNat).length : Int)
                                    · rw [if_pos c44] at H
                                      have c44b0 : decide (x58_3 < (((l0_3.take ((wrap64 ((wrap64 (x9_2 * a0_0)) + a2_2)) : Int).toNat).drop ((ji34) : Int).toNat).length : Int)) = true := decide_eq_true c44
                                      have c44b9 : decide (x58_3 < ((((wrap64 ((wrap64 (x9_2 * a0_0)) + a2_2)) : Int).toNat - ((ji34) : Int).toNat : Nat) : Int)) = true := by have hh := (by assumption : Aside0 ((wrap64 ((wrap64 (x9_2 * a0_0)) + a2_2)) ≤ (l0_3.length : Int))).out; have z := c44b0; rw [List.length_drop, List.length_take, Nat.min_eq_left (by omega)] at z; exact z
                                      have c44b8 : (x58_3 < ((((wrap64 ((wrap64 (x9_2 * a0_0)) + a2_2)) : Int).toNat - ((ji34) : Int).toNat : Nat) : Int)) = True := eq_true (of_decide_eq_true c44b9)
                                      clear c44
                                      replace H := Option.bind_eq_some_iff.mp H
                                      obtain ⟨t144, A450, H⟩ := H
                                      replace H : (if 0 ≤ t144 then (if t144 < (x8_3.length : Int) then (histogram_Partial.l1 k3 a1 (x8_3.set (t144 : Int).toNat (wrap64 ((rd x8_3 t144) + 1))) x9_2 ((l0_3.take ((wrap64 ((wrap64 (x9_2 * a0_0)) + a2_2)) : Int).toNat).drop ((ji34) : Int).toNat) (((l0_3.take ((wrap64 ((wrap64 (x9_2 * a0_0)) + a2_2)) : Int).toNat).drop ((ji34) : Int).toNat).length : Int) (wrap64 (x58_3 + 1)) a0_0 a0_1 a0_2 l0_3 a2_0 a2_1 a2_2 a2_3) else (none)) else (none)) = some (r1, r2) := H
                                      have A45 := Aside0.mk A450
                                      clear A450
                                      by_cases c46 : 0 ≤ t144
                                      · rw [if_pos c46] at H
                                        have c46b0 : decide (0 ≤ t144) = true := decide_eq_true c46
                                        clear c46
                                        by_cases c47 : t144 < (x8_3.length : Int)
                                        · rw [if_pos c47] at H
                                          have c47b0 : decide (t144 < (x8_3.length : Int)) = true := decide_eq_true c47
                                          clear c47
                                          obtain ⟨y146, hy146⟩ : ∃ y_ : List Int, y_ = (x8_3.set (t144 : Int).toNat (wrap64 ((rd x8_3 t144) + 1))) := ⟨_, rfl⟩
                                          replace H : (histogram_Partial.l1 k3 a1 y146 x9_2 ((l0_3.take ((wrap64 ((wrap64 (x9_2 * a0_0)) + a2_2)) : Int).toNat).drop ((ji34) : Int).toNat) (((l0_3.take ((wrap64 ((wrap64 (x9_2 * a0_0)) + a2_2)) : Int).toNat).drop ((ji34) : Int).toNat).length : Int) (wrap64 (x58_3 + 1)) a0_0 a0_1 a0_2 l0_3 a2_0 a2_1 a2_2 a2_3) = some (r1, r2) := by first | (rw [hy146]; with_reducible exact H) | (have H2_ := (Option.bind_some _ _).symm.trans H; rw [hy146]; with_reducible exact H2_) | (have H2_ := (Option.bind_some _ _).symm.trans H; with_reducible exact H2_) | with_reducible exact H | (rw [hy146]; exact H) | exact H
                                          have Ny146 := Aside0.mk hy146
                                          clear hy146
                                          have H' := Aside0.mk H
                                          clear H
                                          have p143 : 0 ≤ (x58_3 : Int) := of_decide_eq_true (by first | (with_reducible assumption) | assumption)
                                          have q143 : x58_3 < (((l0_3.take ((wrap64 ((wrap64 (x9_2 * a0_0)) + a2_2)) : Int).toNat).drop ((ji34) : Int).toNat).length : Int) := of_decide_eq_true (by first | (with_reducible assumption) | assumption)
                                          obtain ⟨ad143, e143, hx143_0⟩ := Kd.at_int HR142.out x58_3 p143 q143
                                          cases e143
                                          replace hx143_0 := (HB.out.cell (World.block_lt_of_cell? w _ hx143_0)).trans hx143_0
                                          replace p143 := eq_true p143
                                          replace q143 := eq_true q143
                                          have hnb49 := NB133_134.out
                                          have hnc49 := NB134_133.out
                                          have hcz50_0 : wr.cell? ⟨gb133, 0, none⟩ = some (.int .i64 a0_0) := (blk_cell BK133.out 0).trans rfl
                                          have hcz50_1 : wr.cell? ⟨gb133, 1, none⟩ = some (.int .i64 a0_1) := (blk_cell BK133.out 1).trans rfl
                                          have hcz50_2 : wr.cell? ⟨gb133, 2, none⟩ = some (.int .i64 a0_2) := (blk_cell BK133.out 2).trans rfl
                                          have hcz50_3 : wr.cell? ⟨gb133, 3, none⟩ = some (.slice A0_3 l0_3.length c0_3) := (blk_cell BK133.out 3).trans rfl
                                          have hfz50_0 := blk_frozen BK133.out 0
                                          have hfz50_1 := blk_frozen BK133.out 1
                                          have hfz50_2 := blk_frozen BK133.out 2
                                          have hfz50_3 := blk_frozen BK133.out 3
                                          go_wp2_with (first | ((with_reducible refine gate_callee (f := 15) rfl ?_); refine goesL_ (some 67) rfl rfl Try.func15 (by kernel_rfl) rfl #[.int .i64 (rd ((l0_3.take ((wrap64 ((wrap64 (x9_2 * a0_0)) + a2_2)) : Int).toNat).drop ((ji34) : Int).toNat) x58_3), .int .i64 a0_2, .int .i64 a1] rfl (by (try simp only [List.map_toArray, List.map_cons, List.map_nil]); first | done | (simp only [hji34]; rfl) | rfl | (simp only [List.length_drop, List.length_take]; rfl)) ?_; (with_reducible refine (histogram_Bin.calls (rd ((l0_3.take ((wrap64 ((wrap64 (x9_2 * a0_0)) + a2_2)) : Int).toNat).drop ((ji34) : Int).toNat) x58_3) a0_2 a1 t144 _ A45.out).mono ?_); rintro e w' ⟨rfl, ⟨nd, rfl⟩⟩; refine ⟨_, rfl, ?_⟩; (try (rw [drewN_self wr]; generalize hq_ : World.drewN wr _ = wr; have n0_ : Aside0 (Kd.R (Kd.int .i64) 3 wr w.heap.size (fun _ => True) v140 x8_3) := ⟨by rw [← hq_]; exact (by (with_reducible repeat (first | apply Kd.R_alloc | apply Kd.R_drewN | apply Kd.R_drew)); exact HO_8.out)⟩; have n1_ : Aside0 (wr.heap[gb133]? = some (.cells #[.int .i64 a0_0, .int .i64 a0_1, .int .i64 a0_2, .slice A0_3 l0_3.length c0_3] 26 (0, 0))) := ⟨by rw [← hq_]; exact (by (with_reducible repeat (first | refine blk_drewN ?_ _ | refine blk_drew ?_ | refine blk_alloc ?_ _)); exact BK133.out)⟩; have n2_ : Aside0 (wr.heap[gb134]? = some (.cells #[.int .i64 a2_0, .int .i64 a2_1, .int .i64 a2_2, .int .i64 a2_3] 39 (0, 0))) := ⟨by rw [← hq_]; exact (by (with_reducible repeat (first | refine blk_drewN ?_ _ | refine blk_drew ?_ | refine blk_alloc ?_ _)); exact BK134.out)⟩; have n3_ : Aside0 (Below w.heap.size w wr) := ⟨by rw [← hq_]; exact (by repeat (first | (with_reducible first | exact HB.out | apply below_alloc | apply pw_below_drewN | apply below_drew1 | refine below_set ?_ GE133.out | refine below_set ?_ GE134.out) | exact HB.out))⟩; clear HO_8 BK133 BK134 HB hq_; have HO_8 := n0_; have BK133 := n1_; have BK134 := n2_; have HB := n3_; clear n0_ n1_ n2_ n3_)); obtain ⟨Ao51, co51, eo51⟩ := Kd.R_slice HO_8.out; subst eo51; have p145 : 0 ≤ (t144 : Int) := of_decide_eq_true (by first | (with_reducible assumption) | assumption); have q145 : t144 < (x8_3.length : Int) := of_decide_eq_true (by first | (with_reducible assumption) | assumption); obtain ⟨ad145, e145, hx145_0⟩ := Kd.at_int (Kd.R_reads' HO_8.out).2.2 t144 p145 q145; cases e145; replace p145 := eq_true p145; replace q145 := eq_true q145; have p48 : 0 ≤ (t144 : Int) := of_decide_eq_true (by first | (with_reducible assumption) | assumption); have q48 : (t144 : Int) < ((x8_3.length : Int) : Int) := of_decide_eq_true (by first | (with_reducible assumption) | assumption); obtain ⟨go48, co48, eo48, gb48, gl48, cl48, HG48⟩ := Kd.R_form HO_8.out (by omega); (first | cases eo48 | (injection eo48 with ea_ en_ ec_; (first | subst ea_ | (injection ea_ with ea_; subst ea_)); subst ec_; clear en_)); have GB48 := Aside0.mk gb48; have GG48 := Aside0.mk HG48; clear gb48 gl48 HG48; (first | simp only [add_plain] at hx145_0 | skip); obtain ⟨hx48_0, hf48_0⟩ := Kd.R_celln 0 HO_8.out (t144 : Int) p48 q48; replace p48 := eq_true p48; replace q48 := eq_true q48; obtain ⟨hy52_, hz52_⟩ := Kd.R_celln 0 HO_8.out (t144 : Int) (of_decide_eq_true (by first | (with_reducible assumption) | assumption)) (of_decide_eq_true (by first | (with_reducible assumption) | assumption)); have HP52 := Kd.R_putg HO_8.out (t144 : Int) (wrap64 ((rd x8_3 t144) + 1))) | ((with_reducible refine gate_store (t := 3) (p := 71) rfl ?_); refine store_event (t := 3) (p := 71) (v := ?vo_w53) (w1 := (wr.setCell ⟨go48, (t144 : Int).toNat, none⟩ (.int .i64 (wrap64 ((rd x8_3 t144) + 1))))) ?hg ?ho ?hn ?hr ?_; (case ho => rfl); (case hg => rfl); (case hn => rfl); (case hr => first | (go_simp; done) | (go_simp; rfl)); intro w53 hw; have hg : wr.grownBy w53 (some go48) := (by rw [hw]; exact HP52.2); have hp_ : Kd.R (Kd.int .i64) 3 w53 w.heap.size (fun _ => True) (.slice (some ⟨go48, 0, none⟩) x8_3.length co51) y146 := (by rw [hw, Ny146.out]; exact HP52.1); clear HP52; have n0_ := Aside0.mk (hp_); have n1_ := Aside0.mk (blk_grown (g := gb133) (o := .cells #[.int .i64 a0_0, .int .i64 a0_1, .int .i64 a0_2, .slice A0_3 l0_3.length c0_3] 26 (0, 0)) (by (with_reducible repeat (first | refine blk_drewN ?_ _ | refine blk_drew ?_ | refine blk_alloc ?_ _)); exact BK133.out) hg (Kd.R_ne HO_8.out BK133.out (by decide))); have n2_ := Aside0.mk (blk_grown (g := gb134) (o := .cells #[.int .i64 a2_0, .int .i64 a2_1, .int .i64 a2_2, .int .i64 a2_3] 39 (0, 0)) (by (with_reducible repeat (first | refine blk_drewN ?_ _ | refine blk_drew ?_ | refine blk_alloc ?_ _)); exact BK134.out) hg (Kd.R_ne HO_8.out BK134.out (by decide))); have n3_ := Aside0.mk ((by rw [hw]; exact below_set (HB.out) GB48.out : Below w.heap.size w w53)); clear HO_8; clear BK133; clear BK134; clear HB; have HO_8 := n0_; have BK133 := n1_; have BK134 := n2_; have HB := n3_; clear n0_ n1_ n2_ n3_; clear hg hw hp_))
                                          go_roundg k3
                                          case measure => have := HJ7.out; have := HK2.out; have := HK3.out; omega
                                          case rel => exact ⟨(y146), (wrap64 (x58_3 + 1)), (by first | rfl | (simp; done) | (simp [*]; done)), (by first | exact H' | ((try (rw [hji34])); exact H')), ⟨by have := HJ7.out; have := HK2.out; have := HK3.out; omega⟩, ⟨by (with_reducible repeat (first | apply Kd.R_alloc | apply Kd.R_drewN | apply Kd.R_drew)); exact HO_8.out⟩, ⟨by (with_reducible repeat (first | refine blk_drewN ?_ _ | refine blk_drew ?_ | refine blk_alloc ?_ _)); exact BK133.out⟩, ⟨by (with_reducible repeat (first | refine blk_drewN ?_ _ | refine blk_drew ?_ | refine blk_alloc ?_ _)); exact BK134.out⟩, ⟨by repeat (first | (with_reducible first | exact HB.out | apply below_alloc | apply pw_below_drewN | apply below_drew1 | refine below_set ?_ GE133.out | refine below_set ?_ GE134.out) | exact HB.out)⟩⟩
                                        · rw [if_neg c47] at H
                                          exact absurd H (by simp)
                                      · rw [if_neg c46] at H
                                        exact absurd H (by simp)
                                    · rw [if_neg c44] at H
                                      exact absurd H (by simp)
                                  · rw [if_neg c43] at H
                                    exact absurd H (by simp)
                                · rw [if_neg c42] at H
                                  have c42b0 : decide (x58_3 < (((l0_3.take ((wrap64 ((wrap64 (x9_2 * a0_0)) + a2_2)) : Int).toNat).drop ((ji34) : Int).toNat).length : Int)) = false := decide_eq_false c42
                                  have c42b9 : decide (x58_3 < ((((wrap64 ((wrap64 (x9_2 * a0_0)) + a2_2)) : Int).toNat - ((ji34) : Int).toNat : Nat) : Int)) = false := by have hh := (by assumption : Aside0 ((wrap64 ((wrap64 (x9_2 * a0_0)) + a2_2)) ≤ (l0_3.length : Int))).out; have z := c42b0; rw [List.length_drop, List.length_take, Nat.min_eq_left (by omega)] at z; exact z
                                  clear c42
                                  have H' := Aside0.mk H
                                  clear H
                                  go_wp2
                                  go_roundg k3
                                  case measure => have := HJ7.out; have := HK2.out; have := HK3.out; omega
                                  case rel => exact ⟨(x8_3), (wrap64 (x9_2 + 1)), (by first | rfl | (simp; done) | (simp [*]; done)), (by first | exact H' | ((try (rw [hji34])); exact H')), ⟨by have := HJ7.out; have := HK2.out; have := HK3.out; omega⟩, ⟨by (with_reducible repeat (first | apply Kd.R_alloc | apply Kd.R_drewN | apply Kd.R_drew)); exact HO_8.out⟩, ⟨by (with_reducible repeat (first | refine blk_drewN ?_ _ | refine blk_drew ?_ | refine blk_alloc ?_ _)); exact BK133.out⟩, ⟨by (with_reducible repeat (first | refine blk_drewN ?_ _ | refine blk_drew ?_ | refine blk_alloc ?_ _)); exact BK134.out⟩, ⟨by repeat (first | (with_reducible first | exact HB.out | apply below_alloc | apply pw_below_drewN | apply below_drew1 | refine below_set ?_ GE133.out | refine below_set ?_ GE134.out) | exact HB.out)⟩⟩
                          · rw [if_neg c37] at H
                            exact absurd H (by simp)
                        · rw [if_neg c36] at H
                          exact absurd H (by simp)
                      · rw [if_neg c35] at H
                        exact absurd H (by simp)
                    · rw [if_neg c33] at H
                      have c33b0 : decide (x9_2 < a2_3) = false := decide_eq_false c33
                      clear c33
                      simp only [Option.some.injEq, Prod.mk.injEq] at H
                      obtain ⟨rfl, rfl⟩ := H
                      have hnb54 := NB134_133.out
                      have hnc54 := NB133_134.out
                      have hcz55_0 : wr.cell? ⟨gb134, 0, none⟩ = some (.int .i64 a2_0) := (blk_cell BK134.out 0).trans rfl
                      have hcz55_1 : wr.cell? ⟨gb134, 1, none⟩ = some (.int .i64 a2_1) := (blk_cell BK134.out 1).trans rfl
                      have hcz55_2 : wr.cell? ⟨gb134, 2, none⟩ = some (.int .i64 a2_2) := (blk_cell BK134.out 2).trans rfl
                      have hcz55_3 : wr.cell? ⟨gb134, 3, none⟩ = some (.int .i64 a2_3) := (blk_cell BK134.out 3).trans rfl
                      have hfz55_0 := blk_frozen BK134.out 0
                      have hfz55_1 := blk_frozen BK134.out 1
                      have hfz55_2 := blk_frozen BK134.out 2
                      have hfz55_3 := blk_frozen BK134.out 3
                      go_wp2
                      go_ret2
                      exact ⟨_, by first | rfl | (simp [errW_none, errW_some] <;> rfl) | (simp [*, errW_none, errW_some] <;> rfl), by (with_reducible repeat (first | apply Kd.R_alloc | apply Kd.R_drewN | apply Kd.R_drew)); exact HO_8.out, by repeat (first | (with_reducible first | exact HB.out | apply below_alloc | apply pw_below_drewN | apply below_drew1 | refine below_set ?_ GE133.out | refine below_set ?_ GE134.out) | exact HB.out)⟩
              · rw [if_neg c28] at H
                exact absurd H (by simp)
            · rw [if_neg c27] at H
              exact absurd H (by simp)
    · replace c7 := Bool.eq_false_iff.mpr c7
      subst c7
      have H1 : (some (([] : List Int), 9)) = some (r1, r2) := by rw [if_neg (show ¬ (false = true) by decide)] at H; exact H
      clear H
      have H := H1
      clear H1
      simp only [Option.some.injEq, Prod.mk.injEq] at H
      obtain ⟨rfl, rfl⟩ := H
      go_enter Try.func21, Try.ntmps21
      go_wp2_with (first | ((with_reducible refine gate_dst (N := 3) rfl ?_); refine box_event ?hg (N := 3) ?hd (cs := #[.int .i64 a0_0, .int .i64 a0_1, .int .i64 a0_2, .slice A0_3 l0_3.length c0_3]) (t := 26) ?hr ?_; (case hd => rfl); (case hg => rfl); (case hr => first | (go_simp; done) | (go_simp; rfl)); intro gb133 hg w56 hbox hb; have n0_ := Aside0.mk (below_step (by repeat (first | (with_reducible first | exact HB.out | apply below_alloc | apply pw_below_drewN | apply below_drew1) | exact HB.out)) hb); have n1_ := Aside0.mk (hbox); have n2_ := Aside0.mk ((by rw [hg]; exact (below_size (by repeat (first | (with_reducible first | exact HB.out | apply below_alloc | apply pw_below_drewN | apply below_drew1) | exact HB.out))) : w.heap.size ≤ gb133)); have n3_ := Aside0.mk ((by rw [hg]; exact (below_size (by repeat (first | (with_reducible first | exact HB.out | apply below_alloc | apply pw_below_drewN | apply below_drew1) | exact HB.out))) : w.heap.size ≤ gb133)); clear HB; have HB := n0_; have BK133 := n1_; have GW133 := n2_; have GE133 := n3_; clear n0_ n1_ n2_ n3_; clear hb hbox hg) | ((with_reducible refine gate_dst (N := 5) rfl ?_); refine box_event ?hg (N := 5) ?hd (cs := #[.int .i64 a2_0, .int .i64 a2_1, .int .i64 a2_2, .int .i64 a2_3]) (t := 39) ?hr ?_; (case hd => rfl); (case hg => rfl); (case hr => first | (go_simp; done) | (go_simp; rfl)); intro gb134 hg w57 hbox hb; have n0_ := Aside0.mk (blk_below (g := gb133) (o := .cells #[.int .i64 a0_0, .int .i64 a0_1, .int .i64 a0_2, .slice A0_3 l0_3.length c0_3] 26 (0, 0)) (by (with_reducible repeat (first | refine blk_drewN ?_ _ | refine blk_drew ?_ | refine blk_alloc ?_ _)); exact BK133.out) hb); have n1_ := Aside0.mk (below_step (by repeat (first | (with_reducible first | exact HB.out | apply below_alloc | apply pw_below_drewN | apply below_drew1 | refine below_set ?_ GE133.out) | exact HB.out)) hb); have n2_ := Aside0.mk (hbox); have n3_ := Aside0.mk ((by rw [hg]; exact (below_size (by repeat (first | (with_reducible first | exact HB.out | apply below_alloc | apply pw_below_drewN | apply below_drew1 | refine below_set ?_ GE133.out) | exact HB.out))) : w.heap.size ≤ gb134)); have n4_ := Aside0.mk ((by rw [hg]; exact (below_size (by repeat (first | (with_reducible first | exact HB.out | apply below_alloc | apply pw_below_drewN | apply below_drew1 | refine below_set ?_ GE133.out) | exact HB.out))) : w.heap.size ≤ gb134)); have n5_ := Aside0.mk ((by rw [hg]; exact Nat.ne_of_lt (blk_lt (g := gb133) (o := .cells #[.int .i64 a0_0, .int .i64 a0_1, .int .i64 a0_2, .slice A0_3 l0_3.length c0_3] 26 (0, 0)) (by (with_reducible repeat (first | refine blk_drewN ?_ _ | refine blk_drew ?_ | refine blk_alloc ?_ _)); exact BK133.out)) : gb133 ≠ gb134)); have n6_ := Aside0.mk ((by rw [hg]; exact Nat.ne_of_gt (blk_lt (g := gb133) (o := .cells #[.int .i64 a0_0, .int .i64 a0_1, .int .i64 a0_2, .slice A0_3 l0_3.length c0_3] 26 (0, 0)) (by (with_reducible repeat (first | refine blk_drewN ?_ _ | refine blk_drew ?_ | refine blk_alloc ?_ _)); exact BK133.out)) : gb134 ≠ gb133)); clear BK133; clear HB; have BK133 := n0_; have HB := n1_; have BK134 := n2_; have GW134 := n3_; have GE134 := n4_; have NB133_134 := n5_; have NB134_133 := n6_; clear n0_ n1_ n2_ n3_ n4_ n5_ n6_; clear hb hbox hg; have hnb58 := NB133_134.out; have hnc58 := NB134_133.out; have hcz59_0 : w57.cell? ⟨gb133, 0, none⟩ = some (.int .i64 a0_0) := (blk_cell BK133.out 0).trans rfl; have hcz59_1 : w57.cell? ⟨gb133, 1, none⟩ = some (.int .i64 a0_1) := (blk_cell BK133.out 1).trans rfl; have hcz59_2 : w57.cell? ⟨gb133, 2, none⟩ = some (.int .i64 a0_2) := (blk_cell BK133.out 2).trans rfl; have hcz59_3 : w57.cell? ⟨gb133, 3, none⟩ = some (.slice A0_3 l0_3.length c0_3) := (blk_cell BK133.out 3).trans rfl; have hfz59_0 := blk_frozen BK133.out 0; have hfz59_1 := blk_frozen BK133.out 1; have hfz59_2 := blk_frozen BK133.out 2; have hfz59_3 := blk_frozen BK133.out 3) | ((with_reducible refine gate_callee (f := 32) rfl ?_); refine goesL_ (some 13) rfl rfl Try.func32 (by kernel_rfl) rfl #[.agg #[.int .i64 a0_0, .int .i64 a0_1, .int .i64 a0_2, .slice A0_3 l0_3.length c0_3]] rfl (by (try simp only [List.map_toArray, List.map_cons, List.map_nil]); first | done | rfl | (simp only [List.length_drop, List.length_take]; rfl)) ?_; (with_reducible refine (plane_Valid.calls k a0_0 a0_1 a0_2 _ _ l0_3 true _ ?side1 ?side2 A4.out).mono ?_); (case side1 => repeat (first | exact (Kd.C_below HR0_3.out HB.out) | (with_reducible refine Kd.C_alloc ?_ _) | (with_reducible refine Kd.C_drewN ?_ _) | (with_reducible refine Kd.C_drew ?_))); (case side2 => exact HC0_3.out); rintro e w60 ⟨rfl, hb⟩; refine ⟨_, rfl, ?_⟩; have n0_ := Aside0.mk (blk_below (g := gb133) (o := .cells #[.int .i64 a0_0, .int .i64 a0_1, .int .i64 a0_2, .slice A0_3 l0_3.length c0_3] 26 (0, 0)) (by (with_reducible repeat (first | refine blk_drewN ?_ _ | refine blk_drew ?_ | refine blk_alloc ?_ _)); exact BK133.out) hb); have n1_ := Aside0.mk (blk_below (g := gb134) (o := .cells #[.int .i64 a2_0, .int .i64 a2_1, .int .i64 a2_2, .int .i64 a2_3] 39 (0, 0)) (by (with_reducible repeat (first | refine blk_drewN ?_ _ | refine blk_drew ?_ | refine blk_alloc ?_ _)); exact BK134.out) hb); have n2_ := Aside0.mk (below_step (by repeat (first | (with_reducible first | exact HB.out | apply below_alloc | apply pw_below_drewN | apply below_drew1 | refine below_set ?_ GE133.out | refine below_set ?_ GE134.out) | exact HB.out)) hb); clear BK133; clear BK134; clear HB; have BK133 := n0_; have BK134 := n1_; have HB := n2_; clear n0_ n1_ n2_; (try clear hb); (try clear hb2); (try clear hk); (try clear hi)) | ((with_reducible refine gate_callee (f := 30) rfl ?_); refine goesL_ (some 16) rfl rfl Try.func30 (by kernel_rfl) rfl #[.int .i64 a1, .int .i64 1, .int .i64 128] rfl (by (try simp only [List.map_toArray, List.map_cons, List.map_nil]); first | done | rfl | (simp only [List.length_drop, List.length_take]; rfl)) ?_; (with_reducible refine (histogram_between.calls a1 1 128 false _ A6.out).mono ?_); rintro e w' ⟨rfl, ⟨nd, rfl⟩⟩; refine ⟨_, rfl, ?_⟩))
      go_ret2
      exact ⟨_, by first | rfl | (simp [errW_none, errW_some] <;> rfl) | (simp [*, errW_none, errW_some] <;> rfl), by first | exact Kd.R_nil _ _ _ _ _ | exact Kd.N_nil _ _ _ _ _ | exact Kd.V_nil _ _ _ _ _ | exact Kd.Q_nil _ _ _ _ _ | exact Kd.S_nil _ _ _ _ _, by repeat (first | (with_reducible first | exact HB.out | apply below_alloc | apply pw_below_drewN | apply below_drew1 | refine below_set ?_ GE133.out | refine below_set ?_ GE134.out) | exact HB.out)⟩
  · replace c5 := Bool.eq_false_iff.mpr c5
    subst c5
    have H1 : (some (([] : List Int), 1)) = some (r1, r2) := by rw [if_neg (show ¬ (false = true) by decide)] at H; exact H
    clear H
    have H := H1
    clear H1
    simp only [Option.some.injEq, Prod.mk.injEq] at H
    obtain ⟨rfl, rfl⟩ := H
    go_enter Try.func21, Try.ntmps21
    go_wp2_with (first | ((with_reducible refine gate_dst (N := 3) rfl ?_); refine box_event ?hg (N := 3) ?hd (cs := #[.int .i64 a0_0, .int .i64 a0_1, .int .i64 a0_2, .slice A0_3 l0_3.length c0_3]) (t := 26) ?hr ?_; (case hd => rfl); (case hg => rfl); (case hr => first | (go_simp; done) | (go_simp; rfl)); intro gb133 hg w61 hbox hb; have n0_ := Aside0.mk (below_step (by repeat (first | (with_reducible first | exact HB.out | apply below_alloc | apply pw_below_drewN | apply below_drew1) | exact HB.out)) hb); have n1_ := Aside0.mk (hbox); have n2_ := Aside0.mk ((by rw [hg]; exact (below_size (by repeat (first | (with_reducible first | exact HB.out | apply below_alloc | apply pw_below_drewN | apply below_drew1) | exact HB.out))) : w.heap.size ≤ gb133)); have n3_ := Aside0.mk ((by rw [hg]; exact (below_size (by repeat (first | (with_reducible first | exact HB.out | apply below_alloc | apply pw_below_drewN | apply below_drew1) | exact HB.out))) : w.heap.size ≤ gb133)); clear HB; have HB := n0_; have BK133 := n1_; have GW133 := n2_; have GE133 := n3_; clear n0_ n1_ n2_ n3_; clear hb hbox hg) | ((with_reducible refine gate_dst (N := 5) rfl ?_); refine box_event ?hg (N := 5) ?hd (cs := #[.int .i64 a2_0, .int .i64 a2_1, .int .i64 a2_2, .int .i64 a2_3]) (t := 39) ?hr ?_; (case hd => rfl); (case hg => rfl); (case hr => first | (go_simp; done) | (go_simp; rfl)); intro gb134 hg w62 hbox hb; have n0_ := Aside0.mk (blk_below (g := gb133) (o := .cells #[.int .i64 a0_0, .int .i64 a0_1, .int .i64 a0_2, .slice A0_3 l0_3.length c0_3] 26 (0, 0)) (by (with_reducible repeat (first | refine blk_drewN ?_ _ | refine blk_drew ?_ | refine blk_alloc ?_ _)); exact BK133.out) hb); have n1_ := Aside0.mk (below_step (by repeat (first | (with_reducible first | exact HB.out | apply below_alloc | apply pw_below_drewN | apply below_drew1 | refine below_set ?_ GE133.out) | exact HB.out)) hb); have n2_ := Aside0.mk (hbox); have n3_ := Aside0.mk ((by rw [hg]; exact (below_size (by repeat (first | (with_reducible first | exact HB.out | apply below_alloc | apply pw_below_drewN | apply below_drew1 | refine below_set ?_ GE133.out) | exact HB.out))) : w.heap.size ≤ gb134)); have n4_ := Aside0.mk ((by rw [hg]; exact (below_size (by repeat (first | (with_reducible first | exact HB.out | apply below_alloc | apply pw_below_drewN | apply below_drew1 | refine below_set ?_ GE133.out) | exact HB.out))) : w.heap.size ≤ gb134)); have n5_ := Aside0.mk ((by rw [hg]; exact Nat.ne_of_lt (blk_lt (g := gb133) (o := .cells #[.int .i64 a0_0, .int .i64 a0_1, .int .i64 a0_2, .slice A0_3 l0_3.length c0_3] 26 (0, 0)) (by (with_reducible repeat (first | refine blk_drewN ?_ _ | refine blk_drew ?_ | refine blk_alloc ?_ _)); exact BK133.out)) : gb133 ≠ gb134)); have n6_ := Aside0.mk ((by rw [hg]; exact Nat.ne_of_gt (blk_lt (g := gb133) (o := .cells #[.int .i64 a0_0, .int .i64 a0_1, .int .i64 a0_2, .slice A0_3 l0_3.length c0_3] 26 (0, 0)) (by (with_reducible repeat (first | refine blk_drewN ?_ _ | refine blk_drew ?_ | refine blk_alloc ?_ _)); exact BK133.out)) : gb134 ≠ gb133)); clear BK133; clear HB; have BK133 := n0_; have HB := n1_; have BK134 := n2_; have GW134 := n3_; have GE134 := n4_; have NB133_134 := n5_; have NB134_133 := n6_; clear n0_ n1_ n2_ n3_ n4_ n5_ n6_; clear hb hbox hg; have hnb63 := NB133_134.out; have hnc63 := NB134_133.out; have hcz64_0 : w62.cell? ⟨gb133, 0, none⟩ = some (.int .i64 a0_0) := (blk_cell BK133.out 0).trans rfl; have hcz64_1 : w62.cell? ⟨gb133, 1, none⟩ = some (.int .i64 a0_1) := (blk_cell BK133.out 1).trans rfl; have hcz64_2 : w62.cell? ⟨gb133, 2, none⟩ = some (.int .i64 a0_2) := (blk_cell BK133.out 2).trans rfl; have hcz64_3 : w62.cell? ⟨gb133, 3, none⟩ = some (.slice A0_3 l0_3.length c0_3) := (blk_cell BK133.out 3).trans rfl; have hfz64_0 := blk_frozen BK133.out 0; have hfz64_1 := blk_frozen BK133.out 1; have hfz64_2 := blk_frozen BK133.out 2; have hfz64_3 := blk_frozen BK133.out 3) | ((with_reducible refine gate_callee (f := 32) rfl ?_); refine goesL_ (some 13) rfl rfl Try.func32 (by kernel_rfl) rfl #[.agg #[.int .i64 a0_0, .int .i64 a0_1, .int .i64 a0_2, .slice A0_3 l0_3.length c0_3]] rfl (by (try simp only [List.map_toArray, List.map_cons, List.map_nil]); first | done | rfl | (simp only [List.length_drop, List.length_take]; rfl)) ?_; (with_reducible refine (plane_Valid.calls k a0_0 a0_1 a0_2 _ _ l0_3 false _ ?side1 ?side2 A4.out).mono ?_); (case side1 => repeat (first | exact (Kd.C_below HR0_3.out HB.out) | (with_reducible refine Kd.C_alloc ?_ _) | (with_reducible refine Kd.C_drewN ?_ _) | (with_reducible refine Kd.C_drew ?_))); (case side2 => exact HC0_3.out); rintro e w65 ⟨rfl, hb⟩; refine ⟨_, rfl, ?_⟩; have n0_ := Aside0.mk (blk_below (g := gb133) (o := .cells #[.int .i64 a0_0, .int .i64 a0_1, .int .i64 a0_2, .slice A0_3 l0_3.length c0_3] 26 (0, 0)) (by (with_reducible repeat (first | refine blk_drewN ?_ _ | refine blk_drew ?_ | refine blk_alloc ?_ _)); exact BK133.out) hb); have n1_ := Aside0.mk (blk_below (g := gb134) (o := .cells #[.int .i64 a2_0, .int .i64 a2_1, .int .i64 a2_2, .int .i64 a2_3] 39 (0, 0)) (by (with_reducible repeat (first | refine blk_drewN ?_ _ | refine blk_drew ?_ | refine blk_alloc ?_ _)); exact BK134.out) hb); have n2_ := Aside0.mk (below_step (by repeat (first | (with_reducible first | exact HB.out | apply below_alloc | apply pw_below_drewN | apply below_drew1 | refine below_set ?_ GE133.out | refine below_set ?_ GE134.out) | exact HB.out)) hb); clear BK133; clear BK134; clear HB; have BK133 := n0_; have BK134 := n1_; have HB := n2_; clear n0_ n1_ n2_; (try clear hb); (try clear hb2); (try clear hk); (try clear hi)))
    go_ret2
    exact ⟨_, by first | rfl | (simp [errW_none, errW_some] <;> rfl) | (simp [*, errW_none, errW_some] <;> rfl), by first | exact Kd.R_nil _ _ _ _ _ | exact Kd.N_nil _ _ _ _ _ | exact Kd.V_nil _ _ _ _ _ | exact Kd.Q_nil _ _ _ _ _ | exact Kd.S_nil _ _ _ _ _, by repeat (first | (with_reducible first | exact HB.out | apply below_alloc | apply pw_below_drewN | apply below_drew1 | refine below_set ?_ GE133.out | refine below_set ?_ GE134.out) | exact HB.out)⟩

/-! ### histogram_Whole: function 12 -/
def histogram_Whole.f (k : Nat) (a0_0 : Int) (a0_1 : Int) (a0_2 : Int) (l0_3 : List Int) (a1 : Int) : Option (Int × Int × Int × List Int × Int) := (histogram_Partial.f k a0_0 a0_1 a0_2 l0_3 a1 0 0 a0_0 a0_1).bind fun bt149 => (if bt149.2 = 0 then (some (a1, 1, wrap64 (a0_0 * a0_1), bt149.1, 0)) else (some (0, 0, 0, ([] : List Int), bt149.2)))
theorem histogram_Whole.mono : ∀ a0 a1 a2 a3 a4 k, LeO (histogram_Whole.f k a0 a1 a2 a3 a4) (histogram_Whole.f (k + 1) a0 a1 a2 a3 a4) := by
  intro a0 a1 a2 a3 a4 k
  unfold histogram_Whole.f
  repeat' first
      | (with_reducible exact histogram_Partial.mono _ _ _ _ _ _ _ _ _ _)
      | (with_reducible exact LeO.refl _)
      | (with_reducible exact LeO.none _)
      | (with_reducible refine LeO.ite ?_ ?_)
      | (with_reducible refine LeO.bind ?_ (fun _ => ?_))
      | exact histogram_Partial.mono _ _ _ _ _ _ _ _ _ _
      | exact LeO.none _
      | refine LeO.ite ?_ ?_
      | refine LeO.bind ?_ (fun _ => ?_)
set_option maxHeartbeats 8000000 in
set_option maxRecDepth 100000 in
theorem histogram_Whole.calls (k : Nat) (a0_0 : Int) (a0_1 : Int) (a0_2 : Int) (A0_3 : Option Addr) (c0_3 : Nat) (l0_3 : List Int) (a1 : Int) (r1 : Int) (r2 : Int) (r3 : Int) (r4 : List Int) (r5 : Int) (w : World) (hr0_3 : Kd.C (Kd.int .i64) w A0_3 l0_3.length l0_3) (hc0_3 : l0_3.length ≤ c0_3) (h : histogram_Whole.f k a0_0 a0_1 a0_2 l0_3 a1 = some (r1, r2, r3, r4, r5)) :
    Calls Try.prog 12 #[.agg #[.int .i64 a0_0, .int .i64 a0_1, .int .i64 a0_2, .slice A0_3 l0_3.length c0_3], .int .i64 a1] w fun e w' => ∃ v3_ : Value, e = .returned (.tuple #[.agg #[.int .i64 r1, .int .i64 r2, .int .i64 r3, v3_], .int .i64 r5]) ∧ Kd.R (Kd.int .i64) 3 w' w.heap.size (fun _ => True) v3_ r4 ∧ Below w.heap.size w w' := by
  have hu26 := Try.underlying26
  have hu39 := Try.underlying39
  have HR0_3 := Aside0.mk hr0_3
  have HC0_3 := Aside0.mk hc0_3
  clear hr0_3 hc0_3
  have HB := Aside0.mk (Below.refl w.heap.size w)
  have H : ((histogram_Partial.f k a0_0 a0_1 a0_2 l0_3 a1 0 0 a0_0 a0_1).bind fun bt149 => (if bt149.2 = 0 then (some (a1, 1, wrap64 (a0_0 * a0_1), bt149.1, 0)) else (some (0, 0, 0, ([] : List Int), bt149.2)))) = some (r1, r2, r3, r4, r5) := h
  clear h
  replace H := Option.bind_eq_some_iff.mp H
  obtain ⟨⟨t149, t152⟩, A30, H⟩ := H
  replace H : (if t152 = 0 then (some (a1, 1, wrap64 (a0_0 * a0_1), t149, 0)) else (some (0, 0, 0, ([] : List Int), t152))) = some (r1, r2, r3, r4, r5) := H
  have A3 := Aside0.mk A30
  clear A30
  by_cases c4 : t152 = 0
  · rw [if_pos c4] at H
    have c4b0 : (t152 == 0) = true := beq_iff_eq.mpr c4
    have c4b1 : (t152 != 0) = false := bne_eq_false_iff_eq.mpr c4
    clear c4
    simp only [Option.some.injEq, Prod.mk.injEq] at H
    obtain ⟨rfl, rfl, rfl, rfl, rfl⟩ := H
    go_enter Try.func12, Try.ntmps12
    go_wp2_with (first | ((with_reducible refine gate_dst (N := 2) rfl ?_); refine box_event ?hg (N := 2) ?hd (cs := #[.int .i64 a0_0, .int .i64 a0_1, .int .i64 a0_2, .slice A0_3 l0_3.length c0_3]) (t := 26) ?hr ?_; (case hd => rfl); (case hg => rfl); (case hr => first | (go_simp; done) | (go_simp; rfl)); intro gb147 hg w5 hbox hb; have n0_ := Aside0.mk (below_step (by repeat (first | (with_reducible first | exact HB.out | apply below_alloc | apply pw_below_drewN | apply below_drew1) | exact HB.out)) hb); have n1_ := Aside0.mk (hbox); have n2_ := Aside0.mk ((by rw [hg]; exact (below_size (by repeat (first | (with_reducible first | exact HB.out | apply below_alloc | apply pw_below_drewN | apply below_drew1) | exact HB.out))) : w.heap.size ≤ gb147)); have n3_ := Aside0.mk ((by rw [hg]; exact (below_size (by repeat (first | (with_reducible first | exact HB.out | apply below_alloc | apply pw_below_drewN | apply below_drew1) | exact HB.out))) : w.heap.size ≤ gb147)); clear HB; have HB := n0_; have BK147 := n1_; have GW147 := n2_; have GE147 := n3_; clear n0_ n1_ n2_ n3_; clear hb hbox hg) | ((with_reducible refine gate_dst (N := 4) rfl ?_); refine box_event ?hg (N := 4) ?hd (cs := #[.int .i64 0, .int .i64 0, .int .i64 0, .slice none 0 0]) (t := 26) ?hr ?_; (case hd => rfl); (case hg => rfl); (case hr => first | (go_simp; done) | (go_simp; rfl)); intro gb148 hg w6 hbox hb; have n0_ := Aside0.mk (blk_below (g := gb147) (o := .cells #[.int .i64 a0_0, .int .i64 a0_1, .int .i64 a0_2, .slice A0_3 l0_3.length c0_3] 26 (0, 0)) (by (with_reducible repeat (first | refine blk_drewN ?_ _ | refine blk_drew ?_ | refine blk_alloc ?_ _)); exact BK147.out) hb); have n1_ := Aside0.mk (below_step (by repeat (first | (with_reducible first | exact HB.out | apply below_alloc | apply pw_below_drewN | apply below_drew1 | refine below_set ?_ GE147.out) | exact HB.out)) hb); have n2_ := Aside0.mk (hbox); have n3_ := Aside0.mk ((by rw [hg]; exact (below_size (by repeat (first | (with_reducible first | exact HB.out | apply below_alloc | apply pw_below_drewN | apply below_drew1 | refine below_set ?_ GE147.out) | exact HB.out))) : w.heap.size ≤ gb148)); have n4_ := Aside0.mk ((by rw [hg]; exact (below_size (by repeat (first | (with_reducible first | exact HB.out | apply below_alloc | apply pw_below_drewN | apply below_drew1 | refine below_set ?_ GE147.out) | exact HB.out))) : w.heap.size ≤ gb148)); have n5_ := Aside0.mk ((by rw [hg]; exact Nat.ne_of_lt (blk_lt (g := gb147) (o := .cells #[.int .i64 a0_0, .int .i64 a0_1, .int .i64 a0_2, .slice A0_3 l0_3.length c0_3] 26 (0, 0)) (by (with_reducible repeat (first | refine blk_drewN ?_ _ | refine blk_drew ?_ | refine blk_alloc ?_ _)); exact BK147.out)) : gb147 ≠ gb148)); have n6_ := Aside0.mk ((by rw [hg]; exact Nat.ne_of_gt (blk_lt (g := gb147) (o := .cells #[.int .i64 a0_0, .int .i64 a0_1, .int .i64 a0_2, .slice A0_3 l0_3.length c0_3] 26 (0, 0)) (by (with_reducible repeat (first | refine blk_drewN ?_ _ | refine blk_drew ?_ | refine blk_alloc ?_ _)); exact BK147.out)) : gb148 ≠ gb147)); clear BK147; clear HB; have BK147 := n0_; have HB := n1_; have BK148 := n2_; have GW148 := n3_; have GE148 := n4_; have NB147_148 := n5_; have NB148_147 := n6_; clear n0_ n1_ n2_ n3_ n4_ n5_ n6_; clear hb hbox hg; have hnb7 := NB147_148.out; have hnc7 := NB148_147.out; have hcz8_0 : w6.cell? ⟨gb147, 0, none⟩ = some (.int .i64 a0_0) := (blk_cell BK147.out 0).trans rfl; have hcz8_1 : w6.cell? ⟨gb147, 1, none⟩ = some (.int .i64 a0_1) := (blk_cell BK147.out 1).trans rfl; have hcz8_2 : w6.cell? ⟨gb147, 2, none⟩ = some (.int .i64 a0_2) := (blk_cell BK147.out 2).trans rfl; have hcz8_3 : w6.cell? ⟨gb147, 3, none⟩ = some (.slice A0_3 l0_3.length c0_3) := (blk_cell BK147.out 3).trans rfl; have hfz8_0 := blk_frozen BK147.out 0; have hfz8_1 := blk_frozen BK147.out 1; have hfz8_2 := blk_frozen BK147.out 2; have hfz8_3 := blk_frozen BK147.out 3) | ((with_reducible refine gate_callee (f := 21) rfl ?_); refine goesL_ (some 16) rfl rfl Try.func21 (by kernel_rfl) rfl #[.agg #[.int .i64 a0_0, .int .i64 a0_1, .int .i64 a0_2, .slice A0_3 l0_3.length c0_3], .int .i64 a1, .agg #[.int .i64 0, .int .i64 0, .int .i64 a0_0, .int .i64 a0_1]] rfl (by (try simp only [List.map_toArray, List.map_cons, List.map_nil]); first | done | rfl | (simp only [List.length_drop, List.length_take]; rfl)) ?_; (with_reducible refine (histogram_Partial.calls k a0_0 a0_1 a0_2 _ _ l0_3 a1 0 0 a0_0 a0_1 t149 t152 _ ?side1 ?side2 A3.out).mono ?_); (case side1 => repeat (first | exact (Kd.C_below HR0_3.out HB.out) | (with_reducible refine Kd.C_alloc ?_ _) | (with_reducible refine Kd.C_drewN ?_ _) | (with_reducible refine Kd.C_drew ?_))); (case side2 => exact HC0_3.out); rintro e w9 ⟨v150, rfl, ho0, hb⟩; refine ⟨_, rfl, ?_⟩; have n0_ := Aside0.mk (Kd.R_lower ho0 (below_size (by repeat (first | (with_reducible first | exact HB.out | apply below_alloc | apply pw_below_drewN | apply below_drew1 | refine below_set ?_ GE147.out | refine below_set ?_ GE148.out) | exact HB.out)))); have n1_ := Aside0.mk (blk_below (g := gb147) (o := .cells #[.int .i64 a0_0, .int .i64 a0_1, .int .i64 a0_2, .slice A0_3 l0_3.length c0_3] 26 (0, 0)) (by (with_reducible repeat (first | refine blk_drewN ?_ _ | refine blk_drew ?_ | refine blk_alloc ?_ _)); exact BK147.out) hb); have n2_ := Aside0.mk (blk_below (g := gb148) (o := .cells #[.int .i64 0, .int .i64 0, .int .i64 0, .slice none 0 0] 26 (0, 0)) (by (with_reducible repeat (first | refine blk_drewN ?_ _ | refine blk_drew ?_ | refine blk_alloc ?_ _)); exact BK148.out) hb); have n3_ := Aside0.mk (below_step (by repeat (first | (with_reducible first | exact HB.out | apply below_alloc | apply pw_below_drewN | apply below_drew1 | refine below_set ?_ GE147.out | refine below_set ?_ GE148.out) | exact HB.out)) hb); clear BK147; clear BK148; clear HB; have HO151 := n0_; have BK147 := n1_; have BK148 := n2_; have HB := n3_; clear n0_ n1_ n2_ n3_; (try clear hb); (try clear hb2); (try clear hk); (try clear hi); (try clear ho0); have hcz10_0 : w9.cell? ⟨gb147, 0, none⟩ = some (.int .i64 a0_0) := (blk_cell BK147.out 0).trans rfl; have hcz10_1 : w9.cell? ⟨gb147, 1, none⟩ = some (.int .i64 a0_1) := (blk_cell BK147.out 1).trans rfl; have hcz10_2 : w9.cell? ⟨gb147, 2, none⟩ = some (.int .i64 a0_2) := (blk_cell BK147.out 2).trans rfl; have hcz10_3 : w9.cell? ⟨gb147, 3, none⟩ = some (.slice A0_3 l0_3.length c0_3) := (blk_cell BK147.out 3).trans rfl; have hfz10_0 := blk_frozen BK147.out 0; have hfz10_1 := blk_frozen BK147.out 1; have hfz10_2 := blk_frozen BK147.out 2; have hfz10_3 := blk_frozen BK147.out 3; obtain ⟨Ao11, co11, eo11⟩ := Kd.R_slice HO151.out; subst eo11; have hcz12_0 : w9.cell? ⟨gb148, 0, none⟩ = some (.int .i64 0) := (blk_cell BK148.out 0).trans rfl; have hcz12_1 : w9.cell? ⟨gb148, 1, none⟩ = some (.int .i64 0) := (blk_cell BK148.out 1).trans rfl; have hcz12_2 : w9.cell? ⟨gb148, 2, none⟩ = some (.int .i64 0) := (blk_cell BK148.out 2).trans rfl; have hcz12_3 : w9.cell? ⟨gb148, 3, none⟩ = some (.slice none 0 0) := (blk_cell BK148.out 3).trans rfl; have hfz12_0 := blk_frozen BK148.out 0; have hfz12_1 := blk_frozen BK148.out 1; have hfz12_2 := blk_frozen BK148.out 2; have hfz12_3 := blk_frozen BK148.out 3))
    refine bodyPost_ret (results_ct rfl _ _ gb148 26 #[.int .i64 a1, .int .i64 1, .int .i64 (wrap64 (a0_0 * a0_1)), .slice Ao11 t149.length co11] (0, 0) _ rfl (by (with_reducible repeat (first | refine blk_drewN ?_ _ | refine blk_drew ?_ | refine blk_alloc ?_ _)); refine blk_put (cs := #[.int .i64 a1, .int .i64 1, .int .i64 (wrap64 (a0_0 * a0_1)), .slice none 0 0]) ?_ 3 _ rfl; (with_reducible repeat (first | refine blk_drewN ?_ _ | refine blk_drew ?_ | refine blk_alloc ?_ _)); refine blk_put (cs := #[.int .i64 a1, .int .i64 1, .int .i64 0, .slice none 0 0]) ?_ 2 _ rfl; (with_reducible repeat (first | refine blk_drewN ?_ _ | refine blk_drew ?_ | refine blk_alloc ?_ _)); refine blk_put (cs := #[.int .i64 a1, .int .i64 0, .int .i64 0, .slice none 0 0]) ?_ 1 _ rfl; (with_reducible repeat (first | refine blk_drewN ?_ _ | refine blk_drew ?_ | refine blk_alloc ?_ _)); refine blk_put (cs := #[.int .i64 0, .int .i64 0, .int .i64 0, .slice none 0 0]) ?_ 0 _ rfl; (with_reducible repeat (first | refine blk_drewN ?_ _ | refine blk_drew ?_ | refine blk_alloc ?_ _)); exact BK148.out) Try.underlying26 rfl (by kernel_rfl)) rfl ?_
    exact ⟨_, by first | rfl | (simp [errW_none, errW_some] <;> rfl) | (simp [*, errW_none, errW_some] <;> rfl), by (with_reducible repeat (first | apply Kd.R_alloc | apply Kd.R_drewN | apply Kd.R_drew)); exact Kd.R_mono (Kd.R_far (p := ⟨gb148, 3, none⟩) (Kd.R_far (p := ⟨gb148, 2, none⟩) (Kd.R_far (p := ⟨gb148, 1, none⟩) (Kd.R_far (p := ⟨gb148, 0, none⟩) (Kd.R_types HO151.out BK148.out (by decide)) (fun _ hk => hk.2) (.int .i64 a1)) (fun _ hk => hk.2) (.int .i64 1)) (fun _ hk => hk.2) (.int .i64 (wrap64 (a0_0 * a0_1)))) (fun _ hk => hk.2) (.slice Ao11 t149.length co11)) (fun _ hk => trivial), by repeat (first | (with_reducible first | exact HB.out | apply below_alloc | apply pw_below_drewN | apply below_drew1 | refine below_set ?_ GE147.out | refine below_set ?_ GE148.out) | exact HB.out)⟩
  · rw [if_neg c4] at H
    have c4b0 : (t152 == 0) = false := beq_eq_false_iff_ne.mpr c4
    have c4b1 : (t152 != 0) = true := bne_iff_ne.mpr c4
    simp only [Option.some.injEq, Prod.mk.injEq] at H
    obtain ⟨rfl, rfl, rfl, rfl, rfl⟩ := H
    go_enter Try.func12, Try.ntmps12
    go_wp2_with (first | ((with_reducible refine gate_dst (N := 2) rfl ?_); refine box_event ?hg (N := 2) ?hd (cs := #[.int .i64 a0_0, .int .i64 a0_1, .int .i64 a0_2, .slice A0_3 l0_3.length c0_3]) (t := 26) ?hr ?_; (case hd => rfl); (case hg => rfl); (case hr => first | (go_simp; done) | (go_simp; rfl)); intro gb147 hg w13 hbox hb; have n0_ := Aside0.mk (below_step (by repeat (first | (with_reducible first | exact HB.out | apply below_alloc | apply pw_below_drewN | apply below_drew1) | exact HB.out)) hb); have n1_ := Aside0.mk (hbox); have n2_ := Aside0.mk ((by rw [hg]; exact (below_size (by repeat (first | (with_reducible first | exact HB.out | apply below_alloc | apply pw_below_drewN | apply below_drew1) | exact HB.out))) : w.heap.size ≤ gb147)); have n3_ := Aside0.mk ((by rw [hg]; exact (below_size (by repeat (first | (with_reducible first | exact HB.out | apply below_alloc | apply pw_below_drewN | apply below_drew1) | exact HB.out))) : w.heap.size ≤ gb147)); clear HB; have HB := n0_; have BK147 := n1_; have GW147 := n2_; have GE147 := n3_; clear n0_ n1_ n2_ n3_; clear hb hbox hg) | ((with_reducible refine gate_dst (N := 4) rfl ?_); refine box_event ?hg (N := 4) ?hd (cs := #[.int .i64 0, .int .i64 0, .int .i64 0, .slice none 0 0]) (t := 26) ?hr ?_; (case hd => rfl); (case hg => rfl); (case hr => first | (go_simp; done) | (go_simp; rfl)); intro gb148 hg w14 hbox hb; have n0_ := Aside0.mk (blk_below (g := gb147) (o := .cells #[.int .i64 a0_0, .int .i64 a0_1, .int .i64 a0_2, .slice A0_3 l0_3.length c0_3] 26 (0, 0)) (by (with_reducible repeat (first | refine blk_drewN ?_ _ | refine blk_drew ?_ | refine blk_alloc ?_ _)); exact BK147.out) hb); have n1_ := Aside0.mk (below_step (by repeat (first | (with_reducible first | exact HB.out | apply below_alloc | apply pw_below_drewN | apply below_drew1 | refine below_set ?_ GE147.out) | exact HB.out)) hb); have n2_ := Aside0.mk (hbox); have n3_ := Aside0.mk ((by rw [hg]; exact (below_size (by repeat (first | (with_reducible first | exact HB.out | apply below_alloc | apply pw_below_drewN | apply below_drew1 | refine below_set ?_ GE147.out) | exact HB.out))) : w.heap.size ≤ gb148)); have n4_ := Aside0.mk ((by rw [hg]; exact (below_size (by repeat (first | (with_reducible first | exact HB.out | apply below_alloc | apply pw_below_drewN | apply below_drew1 | refine below_set ?_ GE147.out) | exact HB.out))) : w.heap.size ≤ gb148)); have n5_ := Aside0.mk ((by rw [hg]; exact Nat.ne_of_lt (blk_lt (g := gb147) (o := .cells #[.int .i64 a0_0, .int .i64 a0_1, .int .i64 a0_2, .slice A0_3 l0_3.length c0_3] 26 (0, 0)) (by (with_reducible repeat (first | refine blk_drewN ?_ _ | refine blk_drew ?_ | refine blk_alloc ?_ _)); exact BK147.out)) : gb147 ≠ gb148)); have n6_ := Aside0.mk ((by rw [hg]; exact Nat.ne_of_gt (blk_lt (g := gb147) (o := .cells #[.int .i64 a0_0, .int .i64 a0_1, .int .i64 a0_2, .slice A0_3 l0_3.length c0_3] 26 (0, 0)) (by (with_reducible repeat (first | refine blk_drewN ?_ _ | refine blk_drew ?_ | refine blk_alloc ?_ _)); exact BK147.out)) : gb148 ≠ gb147)); clear BK147; clear HB; have BK147 := n0_; have HB := n1_; have BK148 := n2_; have GW148 := n3_; have GE148 := n4_; have NB147_148 := n5_; have NB148_147 := n6_; clear n0_ n1_ n2_ n3_ n4_ n5_ n6_; clear hb hbox hg; have hnb15 := NB147_148.out; have hnc15 := NB148_147.out; have hcz16_0 : w14.cell? ⟨gb147, 0, none⟩ = some (.int .i64 a0_0) := (blk_cell BK147.out 0).trans rfl; have hcz16_1 : w14.cell? ⟨gb147, 1, none⟩ = some (.int .i64 a0_1) := (blk_cell BK147.out 1).trans rfl; have hcz16_2 : w14.cell? ⟨gb147, 2, none⟩ = some (.int .i64 a0_2) := (blk_cell BK147.out 2).trans rfl; have hcz16_3 : w14.cell? ⟨gb147, 3, none⟩ = some (.slice A0_3 l0_3.length c0_3) := (blk_cell BK147.out 3).trans rfl; have hfz16_0 := blk_frozen BK147.out 0; have hfz16_1 := blk_frozen BK147.out 1; have hfz16_2 := blk_frozen BK147.out 2; have hfz16_3 := blk_frozen BK147.out 3) | ((with_reducible refine gate_callee (f := 21) rfl ?_); refine goesL_ (some 16) rfl rfl Try.func21 (by kernel_rfl) rfl #[.agg #[.int .i64 a0_0, .int .i64 a0_1, .int .i64 a0_2, .slice A0_3 l0_3.length c0_3], .int .i64 a1, .agg #[.int .i64 0, .int .i64 0, .int .i64 a0_0, .int .i64 a0_1]] rfl (by (try simp only [List.map_toArray, List.map_cons, List.map_nil]); first | done | rfl | (simp only [List.length_drop, List.length_take]; rfl)) ?_; (with_reducible refine (histogram_Partial.calls k a0_0 a0_1 a0_2 _ _ l0_3 a1 0 0 a0_0 a0_1 t149 t152 _ ?side1 ?side2 A3.out).mono ?_); (case side1 => repeat (first | exact (Kd.C_below HR0_3.out HB.out) | (with_reducible refine Kd.C_alloc ?_ _) | (with_reducible refine Kd.C_drewN ?_ _) | (with_reducible refine Kd.C_drew ?_))); (case side2 => exact HC0_3.out); rintro e w17 ⟨v150, rfl, ho0, hb⟩; refine ⟨_, rfl, ?_⟩; have n0_ := Aside0.mk (Kd.R_lower ho0 (below_size (by repeat (first | (with_reducible first | exact HB.out | apply below_alloc | apply pw_below_drewN | apply below_drew1 | refine below_set ?_ GE147.out | refine below_set ?_ GE148.out) | exact HB.out)))); have n1_ := Aside0.mk (blk_below (g := gb147) (o := .cells #[.int .i64 a0_0, .int .i64 a0_1, .int .i64 a0_2, .slice A0_3 l0_3.length c0_3] 26 (0, 0)) (by (with_reducible repeat (first | refine blk_drewN ?_ _ | refine blk_drew ?_ | refine blk_alloc ?_ _)); exact BK147.out) hb); have n2_ := Aside0.mk (blk_below (g := gb148) (o := .cells #[.int .i64 0, .int .i64 0, .int .i64 0, .slice none 0 0] 26 (0, 0)) (by (with_reducible repeat (first | refine blk_drewN ?_ _ | refine blk_drew ?_ | refine blk_alloc ?_ _)); exact BK148.out) hb); have n3_ := Aside0.mk (below_step (by repeat (first | (with_reducible first | exact HB.out | apply below_alloc | apply pw_below_drewN | apply below_drew1 | refine below_set ?_ GE147.out | refine below_set ?_ GE148.out) | exact HB.out)) hb); clear BK147; clear BK148; clear HB; have HO151 := n0_; have BK147 := n1_; have BK148 := n2_; have HB := n3_; clear n0_ n1_ n2_ n3_; (try clear hb); (try clear hb2); (try clear hk); (try clear hi); (try clear ho0); have hcz18_0 : w17.cell? ⟨gb148, 0, none⟩ = some (.int .i64 0) := (blk_cell BK148.out 0).trans rfl; have hcz18_1 : w17.cell? ⟨gb148, 1, none⟩ = some (.int .i64 0) := (blk_cell BK148.out 1).trans rfl; have hcz18_2 : w17.cell? ⟨gb148, 2, none⟩ = some (.int .i64 0) := (blk_cell BK148.out 2).trans rfl; have hcz18_3 : w17.cell? ⟨gb148, 3, none⟩ = some (.slice none 0 0) := (blk_cell BK148.out 3).trans rfl; have hfz18_0 := blk_frozen BK148.out 0; have hfz18_1 := blk_frozen BK148.out 1; have hfz18_2 := blk_frozen BK148.out 2; have hfz18_3 := blk_frozen BK148.out 3))
    refine bodyPost_ret (results_ct rfl _ _ gb148 26 #[.int .i64 0, .int .i64 0, .int .i64 0, .slice none 0 0] (0, 0) _ rfl (by (with_reducible repeat (first | refine blk_drewN ?_ _ | refine blk_drew ?_ | refine blk_alloc ?_ _)); refine blk_put (cs := #[.int .i64 0, .int .i64 0, .int .i64 0, .slice none 0 0]) ?_ 3 _ rfl; (with_reducible repeat (first | refine blk_drewN ?_ _ | refine blk_drew ?_ | refine blk_alloc ?_ _)); refine blk_put (cs := #[.int .i64 0, .int .i64 0, .int .i64 0, .slice none 0 0]) ?_ 2 _ rfl; (with_reducible repeat (first | refine blk_drewN ?_ _ | refine blk_drew ?_ | refine blk_alloc ?_ _)); refine blk_put (cs := #[.int .i64 0, .int .i64 0, .int .i64 0, .slice none 0 0]) ?_ 1 _ rfl; (with_reducible repeat (first | refine blk_drewN ?_ _ | refine blk_drew ?_ | refine blk_alloc ?_ _)); refine blk_put (cs := #[.int .i64 0, .int .i64 0, .int .i64 0, .slice none 0 0]) ?_ 0 _ rfl; (with_reducible repeat (first | refine blk_drewN ?_ _ | refine blk_drew ?_ | refine blk_alloc ?_ _)); exact BK148.out) Try.underlying26 rfl (by kernel_rfl)) rfl ?_
    exact ⟨_, by first | rfl | (simp [errW_none, errW_some] <;> rfl) | (simp [*, errW_none, errW_some] <;> rfl), by first | exact Kd.R_nil _ _ _ _ _ | exact Kd.N_nil _ _ _ _ _ | exact Kd.V_nil _ _ _ _ _ | exact Kd.Q_nil _ _ _ _ _ | exact Kd.S_nil _ _ _ _ _, by repeat (first | (with_reducible first | exact HB.out | apply below_alloc | apply pw_below_drewN | apply below_drew1 | refine below_set ?_ GE147.out | refine below_set ?_ GE148.out) | exact HB.out)⟩

end Go.Proofs.Yticicecobchdiaa.PHistogramMerges
