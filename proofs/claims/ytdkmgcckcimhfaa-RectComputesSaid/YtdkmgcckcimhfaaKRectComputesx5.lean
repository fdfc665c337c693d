-- Written by a program of the session (wip/tools/pack.py): the printed texts, pruned; checked by Lean.
import Derived.Test.YtdkmgcckcimhfaaKRectComputesa
import Derived.Test.YtdkmgcckcimhfaaKRectComputesx0
import Derived.Test.YtdkmgcckcimhfaaKRectComputesx1
import Derived.Test.YtdkmgcckcimhfaaKRectComputesx4
namespace Go.Proofs.Ytdkmgcckcimhfaa.PRectComputes
open Go.RowKit Go.Proofs.YtdkmgcckcimhfaaW.PrintWords Go.Proofs.YtdkmgcckcimhfaaW.PrintLast Go.Proofs.YtdkmgcckcimhfaaW.PrintMore
attribute [local go_sem] max2_int min2_int max_two min_two max_three min_three max_four min_four   -- for this text's walks alone
set_option linter.unusedVariables false
set_option linter.unusedSimpArgs false
attribute [local go_sem high] eqA26
mutual
def rect_Subtract.j0 : Nat → Bool → Int → Int → Int → Int → Int → Int → Int → Int → Option ((List (S26)))
  | 0, _, _, _, _, _, _, _, _, _ => none
  | k + 1, x20, x143000, x143001, x143002, x143003, x144000, x144001, x144002, x144003 => if x20 = true then (some ([] : List (S26))) else ((rect_Intersect.f k x143000 x143001 x143002 x143003 x144000 x144001 x144002 x144003).bind fun bt147 => ((rect_Empty.f bt147.1 bt147.2.1 bt147.2.2.1 bt147.2.2.2).bind fun t152 => (if t152 = true then (some (([(⟨x143000, x143001, x143002, x143003⟩ : S26)] : List (S26)))) else ((some (([(⟨x143000, x143001, x143002, bt147.2.1⟩ : S26), (⟨x143000, bt147.2.1, bt147.1, bt147.2.2.2⟩ : S26), (⟨bt147.2.2.1, bt147.2.1, x143002, bt147.2.2.2⟩ : S26), (⟨x143000, bt147.2.2.2, x143002, x143003⟩ : S26)] : List (S26)) : List (S26))).bind fun y156 => (rect_Subtract.l0 k ([] : List (S26)) y156 (y156.length : Int) 0)))))
def rect_Subtract.l0 : Nat → List (S26) → List (S26) → Int → Int → Option ((List (S26)))
  | 0, _, _, _, _ => none
  | k + 1, x6, x64, x65, x66 => if x66 < x65 then (if 0 ≤ x66 then (if x66 < (x64.length : Int) then (if ((rd_T26 x64 x66).f0) < ((rd_T26 x64 x66).f2) then (if ((rd_T26 x64 x66).f1) < ((rd_T26 x64 x66).f3) then (if x6.length < 4398046511104 then (rect_Subtract.l0 k (x6 ++ [(⟨(rd_T26 x64 x66).f0, (rd_T26 x64 x66).f1, (rd_T26 x64 x66).f2, (rd_T26 x64 x66).f3⟩ : S26)]) x64 x65 (wrap64 (x66 + 1))) else (none)) else (rect_Subtract.l0 k x6 x64 x65 (wrap64 (x66 + 1)))) else (rect_Subtract.l0 k x6 x64 x65 (wrap64 (x66 + 1)))) else (none)) else (none)) else (some x6)
end
def rect_Subtract.f (k : Nat) (a0_0 : Int) (a0_1 : Int) (a0_2 : Int) (a0_3 : Int) (a1_0 : Int) (a1_1 : Int) (a1_2 : Int) (a1_3 : Int) : Option ((List (S26))) := (rect_Valid.f a0_0 a0_1 a0_2 a0_3).bind fun t144 => (if t144 = true then ((rect_Valid.f a1_0 a1_1 a1_2 a1_3).bind fun t145 => (if t145 = true then ((rect_Empty.f a0_0 a0_1 a0_2 a0_3).bind fun t146 => (rect_Subtract.j0 k t146 a0_0 a0_1 a0_2 a0_3 a1_0 a1_1 a1_2 a1_3)) else (rect_Subtract.j0 k true a0_0 a0_1 a0_2 a0_3 a1_0 a1_1 a1_2 a1_3))) else (rect_Subtract.j0 k true a0_0 a0_1 a0_2 a0_3 a1_0 a1_1 a1_2 a1_3))
theorem rect_Subtract.mono_l : ∀ k, (∀ y0 y1 y2 y3 y4 y5 y6 y7 y8, LeO (rect_Subtract.j0 k y0 y1 y2 y3 y4 y5 y6 y7 y8) (rect_Subtract.j0 (k + 1) y0 y1 y2 y3 y4 y5 y6 y7 y8)) ∧ (∀ y0 y1 y2 y3, LeO (rect_Subtract.l0 k y0 y1 y2 y3) (rect_Subtract.l0 (k + 1) y0 y1 y2 y3))
  | 0 => ⟨fun _ _ _ _ _ _ _ _ _ r h => by simp [rect_Subtract.j0] at h, fun _ _ _ _ r h => by simp [rect_Subtract.l0] at h⟩
  | k + 1 => by
    obtain ⟨ih0, ih1⟩ := rect_Subtract.mono_l k
    refine ⟨?_, ?_⟩
    · intro y0 y1 y2 y3 y4 y5 y6 y7 y8
      unfold rect_Subtract.j0
      repeat' first
      | (with_reducible exact ih0 _ _ _ _ _ _ _ _ _)
      | (with_reducible exact ih1 _ _ _ _)
      | (with_reducible exact rect_Intersect.mono _ _ _ _ _ _ _ _ _)
      | (with_reducible exact LeO.refl _)
      | (with_reducible exact LeO.none _)
      | (with_reducible refine LeO.ite ?_ ?_)
      | (with_reducible refine LeO.bind ?_ (fun _ => ?_))
      | exact ih0 _ _ _ _ _ _ _ _ _
      | exact ih1 _ _ _ _
      | exact rect_Intersect.mono _ _ _ _ _ _ _ _ _
      | exact LeO.none _
      | refine LeO.ite ?_ ?_
      | refine LeO.bind ?_ (fun _ => ?_)
    · intro y0 y1 y2 y3
      unfold rect_Subtract.l0
      repeat' first
      | (with_reducible exact ih0 _ _ _ _ _ _ _ _ _)
      | (with_reducible exact ih1 _ _ _ _)
      | (with_reducible exact rect_Intersect.mono _ _ _ _ _ _ _ _ _)
      | (with_reducible exact LeO.refl _)
      | (with_reducible exact LeO.none _)
      | (with_reducible refine LeO.ite ?_ ?_)
      | (with_reducible refine LeO.bind ?_ (fun _ => ?_))
      | exact ih0 _ _ _ _ _ _ _ _ _
      | exact ih1 _ _ _ _
      | exact rect_Intersect.mono _ _ _ _ _ _ _ _ _
      | exact LeO.none _
      | refine LeO.ite ?_ ?_
      | refine LeO.bind ?_ (fun _ => ?_)
theorem rect_Subtract.mono : ∀ a0 a1 a2 a3 a4 a5 a6 a7 k, LeO (rect_Subtract.f k a0 a1 a2 a3 a4 a5 a6 a7) (rect_Subtract.f (k + 1) a0 a1 a2 a3 a4 a5 a6 a7) := by
  intro a0 a1 a2 a3 a4 a5 a6 a7 k
  obtain ⟨ih0, ih1⟩ := rect_Subtract.mono_l k
  unfold rect_Subtract.f
  repeat' first
      | (with_reducible exact ih0 _ _ _ _ _ _ _ _ _)
      | (with_reducible exact ih1 _ _ _ _)
      | (with_reducible exact rect_Intersect.mono _ _ _ _ _ _ _ _ _)
      | (with_reducible exact LeO.refl _)
      | (with_reducible exact LeO.none _)
      | (with_reducible refine LeO.ite ?_ ?_)
      | (with_reducible refine LeO.bind ?_ (fun _ => ?_))
      | exact ih0 _ _ _ _ _ _ _ _ _
      | exact ih1 _ _ _ _
      | exact rect_Intersect.mono _ _ _ _ _ _ _ _ _
      | exact LeO.none _
      | refine LeO.ite ?_ ?_
      | refine LeO.bind ?_ (fun _ => ?_)
set_option maxHeartbeats 8000000 in
set_option maxRecDepth 100000 in
theorem rect_Subtract.calls (k : Nat) (a0_0 : Int) (a0_1 : Int) (a0_2 : Int) (a0_3 : Int) (a1_0 : Int) (a1_1 : Int) (a1_2 : Int) (a1_3 : Int) (r : List (S26)) (w : World) (h : rect_Subtract.f k a0_0 a0_1 a0_2 a0_3 a1_0 a1_1 a1_2 a1_3 = some r) :
    Calls Try.prog 11 #[.agg #[.int .i64 a0_0, .int .i64 a0_1, .int .i64 a0_2, .int .i64 a0_3], .agg #[.int .i64 a1_0, .int .i64 a1_1, .int .i64 a1_2, .int .i64 a1_3]] w fun e w' => ∃ v0_ : Value, e = .returned (v0_) ∧ Kd.R k26 26 w' w.heap.size (fun _ => True) v0_ r ∧ Below w.heap.size w w' := by
  have hu26 := Try.underlying26
  have HB := Aside0.mk (Below.refl w.heap.size w)
  have H : ((rect_Valid.f a0_0 a0_1 a0_2 a0_3).bind fun t144 => (if t144 = true then ((rect_Valid.f a1_0 a1_1 a1_2 a1_3).bind fun t145 => (if t145 = true then ((rect_Empty.f a0_0 a0_1 a0_2 a0_3).bind fun t146 => (rect_Subtract.j0 k t146 a0_0 a0_1 a0_2 a0_3 a1_0 a1_1 a1_2 a1_3)) else (rect_Subtract.j0 k true a0_0 a0_1 a0_2 a0_3 a1_0 a1_1 a1_2 a1_3))) else (rect_Subtract.j0 k true a0_0 a0_1 a0_2 a0_3 a1_0 a1_1 a1_2 a1_3))) = some r := h
  clear h
  have HC3 := Aside0.mk H
  clear H
  go_enter Try.func11, Try.ntmps11
  go_upto_region 1 with (first | ((with_reducible refine gate_dst (N := 2) rfl ?_); refine box_event ?hg (N := 2) ?hd (cs := #[.int .i64 a0_0, .int .i64 a0_1, .int .i64 a0_2, .int .i64 a0_3]) (t := 26) ?hr ?_; (case hd => rfl); (case hg => rfl); (case hr => first | (go_simp; done) | (go_simp; rfl)); intro gb142 hg w4 hbox hb; have n0_ := Aside0.mk (below_step q129_ hb); have n1_ := Aside0.mk (hbox); have n2_ := Aside0.mk ((q104_ : w.heap.size ≤ gb142)); have n3_ := Aside0.mk ((q104_ : w.heap.size ≤ gb142)); clear HB; have HB := n0_; have BK142 := n1_; have GW142 := n2_; have GE142 := n3_; clear n0_ n1_ n2_ n3_; clear hb hbox hg) | ((with_reducible refine gate_dst (N := 3) rfl ?_); refine box_event ?hg (N := 3) ?hd (cs := #[.int .i64 a1_0, .int .i64 a1_1, .int .i64 a1_2, .int .i64 a1_3]) (t := 26) ?hr ?_; (case hd => rfl); (case hg => rfl); (case hr => first | (go_simp; done) | (go_simp; rfl)); intro gb143 hg w5 hbox hb; have n0_ := Aside0.mk (blk_below (g := gb142) (o := .cells #[.int .i64 a0_0, .int .i64 a0_1, .int .i64 a0_2, .int .i64 a0_3] 26 (0, 0)) q136_ hb); have n1_ := Aside0.mk (below_step q107_ hb); have n2_ := Aside0.mk (hbox); have n3_ := Aside0.mk ((by rw [hg]; exact (below_size q107_) : w.heap.size ≤ gb143)); have n4_ := Aside0.mk ((by rw [hg]; exact (below_size q107_) : w.heap.size ≤ gb143)); have n5_ := Aside0.mk ((q30_ : gb142 ≠ gb143)); have n6_ := Aside0.mk ((q31_ : gb143 ≠ gb142)); clear BK142; clear HB; have BK142 := n0_; have HB := n1_; have BK143 := n2_; have GW143 := n3_; have GE143 := n4_; have NB142_143 := n5_; have NB143_142 := n6_; clear n0_ n1_ n2_ n3_ n4_ n5_ n6_; clear hb hbox hg))
  (try simp only [Act.put, List.setIfInBounds_toArray, List.set_cons_zero, List.set_cons_succ])
  go_cut [20] (fun v20 wc => ∃ (kq : Nat) (x20_2 : Bool), v20 = .bool x20_2 ∧ Aside0 (rect_Subtract.j0 kq x20_2 a0_0 a0_1 a0_2 a0_3 a1_0 a1_1 a1_2 a1_3 = some r) ∧ Aside0 (kq ≤ k) ∧ Aside0 (wc.heap[gb142]? = some (.cells #[.int .i64 a0_0, .int .i64 a0_1, .int .i64 a0_2, .int .i64 a0_3] 26 (0, 0))) ∧ Aside0 (wc.heap[gb143]? = some (.cells #[.int .i64 a1_0, .int .i64 a1_1, .int .i64 a1_2, .int .i64 a1_3] 26 (0, 0))) ∧ Aside0 (Below w.heap.size w wc))
  case first =>
    have H := HC3.out
    clear HC3
    replace H := Option.bind_eq_some_iff.mp H
    obtain ⟨t144, A60, H⟩ := H
    replace H : (if t144 = true then ((rect_Valid.f a1_0 a1_1 a1_2 a1_3).bind fun t145 => (if t145 = true then ((rect_Empty.f a0_0 a0_1 a0_2 a0_3).bind fun t146 => (rect_Subtract.j0 k t146 a0_0 a0_1 a0_2 a0_3 a1_0 a1_1 a1_2 a1_3)) else (rect_Subtract.j0 k true a0_0 a0_1 a0_2 a0_3 a1_0 a1_1 a1_2 a1_3))) else (rect_Subtract.j0 k true a0_0 a0_1 a0_2 a0_3 a1_0 a1_1 a1_2 a1_3)) = some r := H
    have A6 := Aside0.mk A60
    clear A60
    by_cases c7 : t144 = true
    · subst c7
      have H1 : ((rect_Valid.f a1_0 a1_1 a1_2 a1_3).bind fun t145 => (if t145 = true then ((rect_Empty.f a0_0 a0_1 a0_2 a0_3).bind fun t146 => (rect_Subtract.j0 k t146 a0_0 a0_1 a0_2 a0_3 a1_0 a1_1 a1_2 a1_3)) else (rect_Subtract.j0 k true a0_0 a0_1 a0_2 a0_3 a1_0 a1_1 a1_2 a1_3))) = some r := by rw [if_pos rfl] at H; exact H
      clear H
      have H := H1
      clear H1
      replace H := Option.bind_eq_some_iff.mp H
      obtain ⟨t145, A80, H⟩ := H
      replace H : (if t145 = true then ((rect_Empty.f a0_0 a0_1 a0_2 a0_3).bind fun t146 => (rect_Subtract.j0 k t146 a0_0 a0_1 a0_2 a0_3 a1_0 a1_1 a1_2 a1_3)) else (rect_Subtract.j0 k true a0_0 a0_1 a0_2 a0_3 a1_0 a1_1 a1_2 a1_3)) = some r := H
      have A8 := Aside0.mk A80
      clear A80
      by_cases c9 : t145 = true
      · subst c9
        have H1 : ((rect_Empty.f a0_0 a0_1 a0_2 a0_3).bind fun t146 => (rect_Subtract.j0 k t146 a0_0 a0_1 a0_2 a0_3 a1_0 a1_1 a1_2 a1_3)) = some r := by rw [if_pos rfl] at H; exact H
        clear H
        have H := H1
        clear H1
        replace H := Option.bind_eq_some_iff.mp H
        obtain ⟨t146, A100, H⟩ := H
        replace H : (rect_Subtract.j0 k t146 a0_0 a0_1 a0_2 a0_3 a1_0 a1_1 a1_2 a1_3) = some r := H
        have A10 := Aside0.mk A100
        clear A100
        have H' := Aside0.mk H
        clear H
        have hnb11 := NB142_143.out
        have hnc11 := NB143_142.out
        have hcz12_0 : w5.cell? ⟨gb142, 0, none⟩ = some (.int .i64 a0_0) := (blk_cell BK142.out 0).trans rfl
        have hcz12_1 : w5.cell? ⟨gb142, 1, none⟩ = some (.int .i64 a0_1) := (blk_cell BK142.out 1).trans rfl
        have hcz12_2 : w5.cell? ⟨gb142, 2, none⟩ = some (.int .i64 a0_2) := (blk_cell BK142.out 2).trans rfl
        have hcz12_3 : w5.cell? ⟨gb142, 3, none⟩ = some (.int .i64 a0_3) := (blk_cell BK142.out 3).trans rfl
        have hfz12_0 := blk_frozen BK142.out 0
        have hfz12_1 := blk_frozen BK142.out 1
        have hfz12_2 := blk_frozen BK142.out 2
        have hfz12_3 := blk_frozen BK142.out 3
        go_wp2_with (first | ((with_reducible refine gate_callee (f := 24) rfl ?_); refine goesL_ (some 10) rfl rfl Try.func24 (by kernel_rfl) rfl #[.agg #[.int .i64 a0_0, .int .i64 a0_1, .int .i64 a0_2, .int .i64 a0_3]] rfl q128_ ?_; (with_reducible refine (rect_Valid.calls a0_0 a0_1 a0_2 a0_3 true _ A6.out).mono ?_); rintro e w13 ⟨rfl, hb⟩; refine ⟨_, rfl, ?_⟩; have n0_ := Aside0.mk (blk_below (g := gb142) (o := .cells #[.int .i64 a0_0, .int .i64 a0_1, .int .i64 a0_2, .int .i64 a0_3] 26 (0, 0)) q136_ hb); have n1_ := Aside0.mk (blk_below (g := gb143) (o := .cells #[.int .i64 a1_0, .int .i64 a1_1, .int .i64 a1_2, .int .i64 a1_3] 26 (0, 0)) q137_ hb); have n2_ := Aside0.mk (below_step q89_ hb); clear BK142; clear BK143; clear HB; have BK142 := n0_; have BK143 := n1_; have HB := n2_; clear n0_ n1_ n2_; (try clear hb); (try clear hb2); (try clear hk); (try clear hi); have hcz14_0 : w13.cell? ⟨gb143, 0, none⟩ = some (.int .i64 a1_0) := (blk_cell BK143.out 0).trans rfl; have hcz14_1 : w13.cell? ⟨gb143, 1, none⟩ = some (.int .i64 a1_1) := (blk_cell BK143.out 1).trans rfl; have hcz14_2 : w13.cell? ⟨gb143, 2, none⟩ = some (.int .i64 a1_2) := (blk_cell BK143.out 2).trans rfl; have hcz14_3 : w13.cell? ⟨gb143, 3, none⟩ = some (.int .i64 a1_3) := (blk_cell BK143.out 3).trans rfl; have hfz14_0 := blk_frozen BK143.out 0; have hfz14_1 := blk_frozen BK143.out 1; have hfz14_2 := blk_frozen BK143.out 2; have hfz14_3 := blk_frozen BK143.out 3) | (go_at_call 24; (with_reducible refine (rect_Valid.calls a1_0 a1_1 a1_2 a1_3 true _ A8.out).mono ?_); rintro e w15 ⟨rfl, hb⟩; have n0_ := Aside0.mk (blk_below (g := gb142) (o := .cells #[.int .i64 a0_0, .int .i64 a0_1, .int .i64 a0_2, .int .i64 a0_3] 26 (0, 0)) q136_ hb); have n1_ := Aside0.mk (blk_below (g := gb143) (o := .cells #[.int .i64 a1_0, .int .i64 a1_1, .int .i64 a1_2, .int .i64 a1_3] 26 (0, 0)) q137_ hb); have n2_ := Aside0.mk (below_step q89_ hb); clear BK142; clear BK143; clear HB; have BK142 := n0_; have BK143 := n1_; have HB := n2_; clear n0_ n1_ n2_; (try clear hb); (try clear hb2); (try clear hk); (try clear hi); have hcz16_0 : w15.cell? ⟨gb142, 0, none⟩ = some (.int .i64 a0_0) := (blk_cell BK142.out 0).trans rfl; have hcz16_1 : w15.cell? ⟨gb142, 1, none⟩ = some (.int .i64 a0_1) := (blk_cell BK142.out 1).trans rfl; have hcz16_2 : w15.cell? ⟨gb142, 2, none⟩ = some (.int .i64 a0_2) := (blk_cell BK142.out 2).trans rfl; have hcz16_3 : w15.cell? ⟨gb142, 3, none⟩ = some (.int .i64 a0_3) := (blk_cell BK142.out 3).trans rfl; have hfz16_0 := blk_frozen BK142.out 0; have hfz16_1 := blk_frozen BK142.out 1; have hfz16_2 := blk_frozen BK142.out 2; have hfz16_3 := blk_frozen BK142.out 3) | (go_at_call 25; (with_reducible refine (rect_Empty.calls a0_0 a0_1 a0_2 a0_3 t146 _ A10.out).mono ?_); rintro e w17 ⟨rfl, hb⟩; have n0_ := Aside0.mk (blk_below (g := gb142) (o := .cells #[.int .i64 a0_0, .int .i64 a0_1, .int .i64 a0_2, .int .i64 a0_3] 26 (0, 0)) q136_ hb); have n1_ := Aside0.mk (blk_below (g := gb143) (o := .cells #[.int .i64 a1_0, .int .i64 a1_1, .int .i64 a1_2, .int .i64 a1_3] 26 (0, 0)) q137_ hb); have n2_ := Aside0.mk (below_step q89_ hb); clear BK142; clear BK143; clear HB; have BK142 := n0_; have BK143 := n1_; have HB := n2_; clear n0_ n1_ n2_; (try clear hb); (try clear hb2); (try clear hk); (try clear hi)))
        go_meet
        case rel => exact ⟨_, (t146), q180_, H', ⟨by first | omega | exact Nat.le_refl _⟩, ⟨q136_⟩, ⟨q137_⟩, ⟨q89_⟩⟩
      · replace c9 := Bool.eq_false_iff.mpr c9
        subst c9
        have H1 : (rect_Subtract.j0 k true a0_0 a0_1 a0_2 a0_3 a1_0 a1_1 a1_2 a1_3) = some r := by rw [if_neg (show ¬ (false = true) by decide)] at H; exact H
        clear H
        have H := H1
        clear H1
        have H' := Aside0.mk H
        clear H
        have hnb18 := NB142_143.out
        have hnc18 := NB143_142.out
        have hcz19_0 : w5.cell? ⟨gb142, 0, none⟩ = some (.int .i64 a0_0) := (blk_cell BK142.out 0).trans rfl
        have hcz19_1 : w5.cell? ⟨gb142, 1, none⟩ = some (.int .i64 a0_1) := (blk_cell BK142.out 1).trans rfl
        have hcz19_2 : w5.cell? ⟨gb142, 2, none⟩ = some (.int .i64 a0_2) := (blk_cell BK142.out 2).trans rfl
        have hcz19_3 : w5.cell? ⟨gb142, 3, none⟩ = some (.int .i64 a0_3) := (blk_cell BK142.out 3).trans rfl
        have hfz19_0 := blk_frozen BK142.out 0
        have hfz19_1 := blk_frozen BK142.out 1
        have hfz19_2 := blk_frozen BK142.out 2
        have hfz19_3 := blk_frozen BK142.out 3
        go_wp2_with (first | ((with_reducible refine gate_callee (f := 24) rfl ?_); refine goesL_ (some 10) rfl rfl Try.func24 (by kernel_rfl) rfl #[.agg #[.int .i64 a0_0, .int .i64 a0_1, .int .i64 a0_2, .int .i64 a0_3]] rfl q128_ ?_; (with_reducible refine (rect_Valid.calls a0_0 a0_1 a0_2 a0_3 true _ A6.out).mono ?_); rintro e w20 ⟨rfl, hb⟩; refine ⟨_, rfl, ?_⟩; have n0_ := Aside0.mk (blk_below (g := gb142) (o := .cells #[.int .i64 a0_0, .int .i64 a0_1, .int .i64 a0_2, .int .i64 a0_3] 26 (0, 0)) q136_ hb); have n1_ := Aside0.mk (blk_below (g := gb143) (o := .cells #[.int .i64 a1_0, .int .i64 a1_1, .int .i64 a1_2, .int .i64 a1_3] 26 (0, 0)) q137_ hb); have n2_ := Aside0.mk (below_step q89_ hb); clear BK142; clear BK143; clear HB; have BK142 := n0_; have BK143 := n1_; have HB := n2_; clear n0_ n1_ n2_; (try clear hb); (try clear hb2); (try clear hk); (try clear hi); have hcz21_0 : w20.cell? ⟨gb143, 0, none⟩ = some (.int .i64 a1_0) := (blk_cell BK143.out 0).trans rfl; have hcz21_1 : w20.cell? ⟨gb143, 1, none⟩ = some (.int .i64 a1_1) := (blk_cell BK143.out 1).trans rfl; have hcz21_2 : w20.cell? ⟨gb143, 2, none⟩ = some (.int .i64 a1_2) := (blk_cell BK143.out 2).trans rfl; have hcz21_3 : w20.cell? ⟨gb143, 3, none⟩ = some (.int .i64 a1_3) := (blk_cell BK143.out 3).trans rfl; have hfz21_0 := blk_frozen BK143.out 0; have hfz21_1 := blk_frozen BK143.out 1; have hfz21_2 := blk_frozen BK143.out 2; have hfz21_3 := blk_frozen BK143.out 3) | (go_at_call 24; (with_reducible refine (rect_Valid.calls a1_0 a1_1 a1_2 a1_3 false _ A8.out).mono ?_); rintro e w22 ⟨rfl, hb⟩; have n0_ := Aside0.mk (blk_below (g := gb142) (o := .cells #[.int .i64 a0_0, .int .i64 a0_1, .int .i64 a0_2, .int .i64 a0_3] 26 (0, 0)) q136_ hb); have n1_ := Aside0.mk (blk_below (g := gb143) (o := .cells #[.int .i64 a1_0, .int .i64 a1_1, .int .i64 a1_2, .int .i64 a1_3] 26 (0, 0)) q137_ hb); have n2_ := Aside0.mk (below_step q89_ hb); clear BK142; clear BK143; clear HB; have BK142 := n0_; have BK143 := n1_; have HB := n2_; clear n0_ n1_ n2_; (try clear hb); (try clear hb2); (try clear hk); (try clear hi)))
        go_meet
        case rel => exact ⟨_, (true), q180_, H', ⟨by first | omega | exact Nat.le_refl _⟩, ⟨q136_⟩, ⟨q137_⟩, ⟨q89_⟩⟩
    · replace c7 := Bool.eq_false_iff.mpr c7
      subst c7
      have H1 : (rect_Subtract.j0 k true a0_0 a0_1 a0_2 a0_3 a1_0 a1_1 a1_2 a1_3) = some r := by rw [if_neg (show ¬ (false = true) by decide)] at H; exact H
      clear H
      have H := H1
      clear H1
      have H' := Aside0.mk H
      clear H
      have hnb23 := NB142_143.out
      have hnc23 := NB143_142.out
      have hcz24_0 : w5.cell? ⟨gb142, 0, none⟩ = some (.int .i64 a0_0) := (blk_cell BK142.out 0).trans rfl
      have hcz24_1 : w5.cell? ⟨gb142, 1, none⟩ = some (.int .i64 a0_1) := (blk_cell BK142.out 1).trans rfl
      have hcz24_2 : w5.cell? ⟨gb142, 2, none⟩ = some (.int .i64 a0_2) := (blk_cell BK142.out 2).trans rfl
      have hcz24_3 : w5.cell? ⟨gb142, 3, none⟩ = some (.int .i64 a0_3) := (blk_cell BK142.out 3).trans rfl
      have hfz24_0 := blk_frozen BK142.out 0
      have hfz24_1 := blk_frozen BK142.out 1
      have hfz24_2 := blk_frozen BK142.out 2
      have hfz24_3 := blk_frozen BK142.out 3
      go_wp2_with (first | ((with_reducible refine gate_callee (f := 24) rfl ?_); refine goesL_ (some 10) rfl rfl Try.func24 (by kernel_rfl) rfl #[.agg #[.int .i64 a0_0, .int .i64 a0_1, .int .i64 a0_2, .int .i64 a0_3]] rfl q128_ ?_; (with_reducible refine (rect_Valid.calls a0_0 a0_1 a0_2 a0_3 false _ A6.out).mono ?_); rintro e w25 ⟨rfl, hb⟩; refine ⟨_, rfl, ?_⟩; have n0_ := Aside0.mk (blk_below (g := gb142) (o := .cells #[.int .i64 a0_0, .int .i64 a0_1, .int .i64 a0_2, .int .i64 a0_3] 26 (0, 0)) q136_ hb); have n1_ := Aside0.mk (blk_below (g := gb143) (o := .cells #[.int .i64 a1_0, .int .i64 a1_1, .int .i64 a1_2, .int .i64 a1_3] 26 (0, 0)) q137_ hb); have n2_ := Aside0.mk (below_step q89_ hb); clear BK142; clear BK143; clear HB; have BK142 := n0_; have BK143 := n1_; have HB := n2_; clear n0_ n1_ n2_; (try clear hb); (try clear hb2); (try clear hk); (try clear hi)))
      go_meet
      case rel => exact ⟨_, (true), q180_, H', ⟨by first | omega | exact Nat.le_refl _⟩, ⟨q136_⟩, ⟨q137_⟩, ⟨q89_⟩⟩
  case rest =>
    clear HC3
    try clear c1
    try clear c2
    try clear p2
    try clear c7
    try clear c9
    try clear c11
    try clear c18
    try clear c23
    try clear c24
    try clear hcz12_0
    try clear hcz12_1
    try clear hcz12_2
    try clear hcz12_3
    try clear hcz14_0
    try clear hcz14_1
    try clear hcz14_2
    try clear hcz14_3
    try clear hcz16_0
    try clear hcz16_1
    try clear hcz16_2
    try clear hcz16_3
    try clear hcz19_0
    try clear hcz19_1
    try clear hcz19_2
    try clear hcz19_3
    try clear hcz21_0
    try clear hcz21_1
    try clear hcz21_2
    try clear hcz21_3
    try clear hcz24_0
    try clear hcz24_1
    try clear hcz24_2
    try clear hcz24_3
    try clear hfz12_0
    try clear hfz12_1
    try clear hfz12_2
    try clear hfz12_3
    try clear hfz14_0
    try clear hfz14_1
    try clear hfz14_2
    try clear hfz14_3
    try clear hfz16_0
    try clear hfz16_1
    try clear hfz16_2
    try clear hfz16_3
    try clear hfz19_0
    try clear hfz19_1
    try clear hfz19_2
    try clear hfz19_3
    try clear hfz21_0
    try clear hfz21_1
    try clear hfz21_2
    try clear hfz21_3
    try clear hfz24_0
    try clear hfz24_1
    try clear hfz24_2
    try clear hfz24_3
    obtain ⟨kq, x20_2, rfl, HA, HJ2, BK142, BK143, HB⟩ := hcut
    cases kq with
    | zero => exact absurd HA.out (by simp [rect_Subtract.j0])
    | succ kj2 =>
      have H := HA.out
      clear HA
      simp only [rect_Subtract.j0] at H
      by_cases c26 : x20_2 = true
      · subst c26
        have H1 : (some ([] : List (S26))) = some r := by rw [if_pos rfl] at H; exact H
        clear H
        have H := H1
        clear H1
        obtain rfl := Option.some.inj H
        go_wp2
        go_ret
        exact ⟨_, q177_, q127_, q89_⟩
      · replace c26 := Bool.eq_false_iff.mpr c26
        subst c26
        have H1 : ((rect_Intersect.f kj2 a0_0 a0_1 a0_2 a0_3 a1_0 a1_1 a1_2 a1_3).bind fun bt147 => ((rect_Empty.f bt147.1 bt147.2.1 bt147.2.2.1 bt147.2.2.2).bind fun t152 => (if t152 = true then (some (([(⟨a0_0, a0_1, a0_2, a0_3⟩ : S26)] : List (S26)))) else ((some (([(⟨a0_0, a0_1, a0_2, bt147.2.1⟩ : S26), (⟨a0_0, bt147.2.1, bt147.1, bt147.2.2.2⟩ : S26), (⟨bt147.2.2.1, bt147.2.1, a0_2, bt147.2.2.2⟩ : S26), (⟨a0_0, bt147.2.2.2, a0_2, a0_3⟩ : S26)] : List (S26)) : List (S26))).bind fun y156 => (rect_Subtract.l0 kj2 ([] : List (S26)) y156 (y156.length : Int) 0))))) = some r := by rw [if_neg (show ¬ (false = true) by decide)] at H; exact H
        clear H
        have H := H1
        clear H1
        replace H := Option.bind_eq_some_iff.mp H
        obtain ⟨⟨t147, t148, t149, t150⟩, A270, H⟩ := H
        replace H : ((rect_Empty.f t147 t148 t149 t150).bind fun t152 => (if t152 = true then (some (([(⟨a0_0, a0_1, a0_2, a0_3⟩ : S26)] : List (S26)))) else ((some (([(⟨a0_0, a0_1, a0_2, t148⟩ : S26), (⟨a0_0, t148, t147, t150⟩ : S26), (⟨t149, t148, a0_2, t150⟩ : S26), (⟨a0_0, t150, a0_2, a0_3⟩ : S26)] : List (S26)) : List (S26))).bind fun y156 => (rect_Subtract.l0 kj2 ([] : List (S26)) y156 (y156.length : Int) 0)))) = some r := H
        have A27 := Aside0.mk A270
        clear A270
        replace H := Option.bind_eq_some_iff.mp H
        obtain ⟨t152, A280, H⟩ := H
        replace H : (if t152 = true then (some (([(⟨a0_0, a0_1, a0_2, a0_3⟩ : S26)] : List (S26)))) else ((some (([(⟨a0_0, a0_1, a0_2, t148⟩ : S26), (⟨a0_0, t148, t147, t150⟩ : S26), (⟨t149, t148, a0_2, t150⟩ : S26), (⟨a0_0, t150, a0_2, a0_3⟩ : S26)] : List (S26)) : List (S26))).bind fun y156 => (rect_Subtract.l0 kj2 ([] : List (S26)) y156 (y156.length : Int) 0))) = some r := H
        have A28 := Aside0.mk A280
        clear A280
        by_cases c29 : t152 = true
        · subst c29
          have H1 : (some (([(⟨a0_0, a0_1, a0_2, a0_3⟩ : S26)] : List (S26)))) = some r := by rw [if_pos rfl] at H; exact H
          clear H
          have H := H1
          clear H1
          obtain ⟨y153, hy153⟩ : ∃ y_ : List (S26), y_ = (([(⟨a0_0, a0_1, a0_2, a0_3⟩ : S26)] : List (S26))) := ⟨_, rfl⟩
          replace H : (some y153) = some r := by first | (rw [hy153]; with_reducible exact H) | (have H2_ := (Option.bind_some _ _).symm.trans H; rw [hy153]; with_reducible exact H2_) | (have H2_ := (Option.bind_some _ _).symm.trans H; with_reducible exact H2_) | with_reducible exact H | (rw [hy153]; exact H) | exact H
          have Ny153 := Aside0.mk hy153
          clear hy153
          obtain rfl := Option.some.inj H
          have hnb30 := NB142_143.out
          have hnc30 := NB143_142.out
          have hcz31_0 : wc.cell? ⟨gb142, 0, none⟩ = some (.int .i64 a0_0) := (blk_cell BK142.out 0).trans rfl
          have hcz31_1 : wc.cell? ⟨gb142, 1, none⟩ = some (.int .i64 a0_1) := (blk_cell BK142.out 1).trans rfl
          have hcz31_2 : wc.cell? ⟨gb142, 2, none⟩ = some (.int .i64 a0_2) := (blk_cell BK142.out 2).trans rfl
          have hcz31_3 : wc.cell? ⟨gb142, 3, none⟩ = some (.int .i64 a0_3) := (blk_cell BK142.out 3).trans rfl
          have hfz31_0 := blk_frozen BK142.out 0
          have hfz31_1 := blk_frozen BK142.out 1
          have hfz31_2 := blk_frozen BK142.out 2
          have hfz31_3 := blk_frozen BK142.out 3
          have hcz32_0 : wc.cell? ⟨gb143, 0, none⟩ = some (.int .i64 a1_0) := (blk_cell BK143.out 0).trans rfl
          have hcz32_1 : wc.cell? ⟨gb143, 1, none⟩ = some (.int .i64 a1_1) := (blk_cell BK143.out 1).trans rfl
          have hcz32_2 : wc.cell? ⟨gb143, 2, none⟩ = some (.int .i64 a1_2) := (blk_cell BK143.out 2).trans rfl
          have hcz32_3 : wc.cell? ⟨gb143, 3, none⟩ = some (.int .i64 a1_3) := (blk_cell BK143.out 3).trans rfl
          have hfz32_0 := blk_frozen BK143.out 0
          have hfz32_1 := blk_frozen BK143.out 1
          have hfz32_2 := blk_frozen BK143.out 2
          have hfz32_3 := blk_frozen BK143.out 3
          go_wp2_with (first | ((with_reducible refine gate_callee (f := 13) rfl ?_); refine goesL_ (some 23) rfl rfl Try.func13 (by kernel_rfl) rfl #[.agg #[.int .i64 a0_0, .int .i64 a0_1, .int .i64 a0_2, .int .i64 a0_3], .agg #[.int .i64 a1_0, .int .i64 a1_1, .int .i64 a1_2, .int .i64 a1_3]] rfl q128_ ?_; (with_reducible refine (rect_Intersect.calls kj2 a0_0 a0_1 a0_2 a0_3 a1_0 a1_1 a1_2 a1_3 t147 t148 t149 t150 _ A27.out).mono ?_); rintro e w33 ⟨rfl, hb⟩; refine ⟨_, rfl, ?_⟩; have n0_ := Aside0.mk (blk_below (g := gb142) (o := .cells #[.int .i64 a0_0, .int .i64 a0_1, .int .i64 a0_2, .int .i64 a0_3] 26 (0, 0)) q136_ hb); have n1_ := Aside0.mk (blk_below (g := gb143) (o := .cells #[.int .i64 a1_0, .int .i64 a1_1, .int .i64 a1_2, .int .i64 a1_3] 26 (0, 0)) q137_ hb); have n2_ := Aside0.mk (below_step q89_ hb); clear BK142; clear BK143; clear HB; have BK142 := n0_; have BK143 := n1_; have HB := n2_; clear n0_ n1_ n2_; (try clear hb); (try clear hb2); (try clear hk); (try clear hi)) | ((with_reducible refine gate_dst (N := 5) rfl ?_); refine box_event ?hg (N := 5) ?hd (cs := #[.int .i64 0, .int .i64 0, .int .i64 0, .int .i64 0]) (t := 26) ?hr ?_; (case hd => rfl); (case hg => rfl); (case hr => first | (go_simp; done) | (go_simp; rfl)); intro gb151 hg w34 hbox hb; have n0_ := Aside0.mk (blk_below (g := gb142) (o := .cells #[.int .i64 a0_0, .int .i64 a0_1, .int .i64 a0_2, .int .i64 a0_3] 26 (0, 0)) q136_ hb); have n1_ := Aside0.mk (blk_below (g := gb143) (o := .cells #[.int .i64 a1_0, .int .i64 a1_1, .int .i64 a1_2, .int .i64 a1_3] 26 (0, 0)) q137_ hb); have n2_ := Aside0.mk (below_step q89_ hb); have n3_ := Aside0.mk (hbox); have n4_ := Aside0.mk ((q66_ : w.heap.size ≤ gb151)); have n5_ := Aside0.mk ((q66_ : w.heap.size ≤ gb151)); have n6_ := Aside0.mk ((q30_ : gb142 ≠ gb151)); have n7_ := Aside0.mk ((q31_ : gb151 ≠ gb142)); have n8_ := Aside0.mk ((q32_ : gb143 ≠ gb151)); have n9_ := Aside0.mk ((q33_ : gb151 ≠ gb143)); clear BK142; clear BK143; clear HB; have BK142 := n0_; have BK143 := n1_; have HB := n2_; have BK151 := n3_; have GW151 := n4_; have GE151 := n5_; have NB142_151 := n6_; have NB151_142 := n7_; have NB143_151 := n8_; have NB151_143 := n9_; clear n0_ n1_ n2_ n3_ n4_ n5_ n6_ n7_ n8_ n9_; clear hb hbox hg; have hnb35 := NB151_142.out; have hnc35 := NB142_151.out; have hnb36 := NB151_143.out; have hnc36 := NB143_151.out; have hcz37_0 : w34.cell? ⟨gb151, 0, none⟩ = some (.int .i64 0) := (blk_cell BK151.out 0).trans rfl; have hcz37_1 : w34.cell? ⟨gb151, 1, none⟩ = some (.int .i64 0) := (blk_cell BK151.out 1).trans rfl; have hcz37_2 : w34.cell? ⟨gb151, 2, none⟩ = some (.int .i64 0) := (blk_cell BK151.out 2).trans rfl; have hcz37_3 : w34.cell? ⟨gb151, 3, none⟩ = some (.int .i64 0) := (blk_cell BK151.out 3).trans rfl; have hfz37_0 := blk_frozen BK151.out 0; have hfz37_1 := blk_frozen BK151.out 1; have hfz37_2 := blk_frozen BK151.out 2; have hfz37_3 := blk_frozen BK151.out 3) | ((with_reducible refine gate_callee (f := 25) rfl ?_); refine goesL_ (some 25) rfl rfl Try.func25 (by kernel_rfl) rfl #[.agg #[.int .i64 t147, .int .i64 t148, .int .i64 t149, .int .i64 t150]] rfl q128_ ?_; (with_reducible refine (rect_Empty.calls t147 t148 t149 t150 true _ A28.out).mono ?_); rintro e w38 ⟨rfl, hb⟩; refine ⟨_, rfl, ?_⟩; have n0_ := Aside0.mk (blk_below (g := gb142) (o := .cells #[.int .i64 a0_0, .int .i64 a0_1, .int .i64 a0_2, .int .i64 a0_3] 26 (0, 0)) (by (with_reducible repeat (first | refine blk_drewN ?_ _ | refine blk_drew ?_ | refine blk_alloc ?_ _)); refine blk_far ?_ NB142_151.out _; (with_reducible repeat (first | refine blk_drewN ?_ _ | refine blk_drew ?_ | refine blk_alloc ?_ _)); refine blk_far ?_ NB142_151.out _; (with_reducible repeat (first | refine blk_drewN ?_ _ | refine blk_drew ?_ | refine blk_alloc ?_ _)); refine blk_far ?_ NB142_151.out _; (with_reducible repeat (first | refine blk_drewN ?_ _ | refine blk_drew ?_ | refine blk_alloc ?_ _)); refine blk_far ?_ NB142_151.out _; (with_reducible repeat (first | refine blk_drewN ?_ _ | refine blk_drew ?_ | refine blk_alloc ?_ _)); exact BK142.out) hb); have n1_ := Aside0.mk (blk_below (g := gb143) (o := .cells #[.int .i64 a1_0, .int .i64 a1_1, .int .i64 a1_2, .int .i64 a1_3] 26 (0, 0)) (by (with_reducible repeat (first | refine blk_drewN ?_ _ | refine blk_drew ?_ | refine blk_alloc ?_ _)); refine blk_far ?_ NB143_151.out _; (with_reducible repeat (first | refine blk_drewN ?_ _ | refine blk_drew ?_ | refine blk_alloc ?_ _)); refine blk_far ?_ NB143_151.out _; (with_reducible repeat (first | refine blk_drewN ?_ _ | refine blk_drew ?_ | refine blk_alloc ?_ _)); refine blk_far ?_ NB143_151.out _; (with_reducible repeat (first | refine blk_drewN ?_ _ | refine blk_drew ?_ | refine blk_alloc ?_ _)); refine blk_far ?_ NB143_151.out _; (with_reducible repeat (first | refine blk_drewN ?_ _ | refine blk_drew ?_ | refine blk_alloc ?_ _)); exact BK143.out) hb); have n2_ := Aside0.mk (blk_below (g := gb151) (o := .cells #[.int .i64 t147, .int .i64 t148, .int .i64 t149, .int .i64 t150] 26 (0, 0)) (by (with_reducible repeat (first | refine blk_drewN ?_ _ | refine blk_drew ?_ | refine blk_alloc ?_ _)); refine blk_put (cs := #[.int .i64 t147, .int .i64 t148, .int .i64 t149, .int .i64 0]) ?_ 3 _ rfl; (with_reducible repeat (first | refine blk_drewN ?_ _ | refine blk_drew ?_ | refine blk_alloc ?_ _)); refine blk_put (cs := #[.int .i64 t147, .int .i64 t148, .int .i64 0, .int .i64 0]) ?_ 2 _ rfl; (with_reducible repeat (first | refine blk_drewN ?_ _ | refine blk_drew ?_ | refine blk_alloc ?_ _)); refine blk_put (cs := #[.int .i64 t147, .int .i64 0, .int .i64 0, .int .i64 0]) ?_ 1 _ rfl; (with_reducible repeat (first | refine blk_drewN ?_ _ | refine blk_drew ?_ | refine blk_alloc ?_ _)); refine blk_put (cs := #[.int .i64 0, .int .i64 0, .int .i64 0, .int .i64 0]) ?_ 0 _ rfl; (with_reducible repeat (first | refine blk_drewN ?_ _ | refine blk_drew ?_ | refine blk_alloc ?_ _)); exact BK151.out) hb); have n3_ := Aside0.mk (below_step q71_ hb); clear BK142; clear BK143; clear BK151; clear HB; have BK142 := n0_; have BK143 := n1_; have BK151 := n2_; have HB := n3_; clear n0_ n1_ n2_ n3_; (try clear hb); (try clear hb2); (try clear hk); (try clear hi); have hcz39_0 : w38.cell? ⟨gb142, 0, none⟩ = some (.int .i64 a0_0) := (blk_cell BK142.out 0).trans rfl; have hcz39_1 : w38.cell? ⟨gb142, 1, none⟩ = some (.int .i64 a0_1) := (blk_cell BK142.out 1).trans rfl; have hcz39_2 : w38.cell? ⟨gb142, 2, none⟩ = some (.int .i64 a0_2) := (blk_cell BK142.out 2).trans rfl; have hcz39_3 : w38.cell? ⟨gb142, 3, none⟩ = some (.int .i64 a0_3) := (blk_cell BK142.out 3).trans rfl; have hfz39_0 := blk_frozen BK142.out 0; have hfz39_1 := blk_frozen BK142.out 1; have hfz39_2 := blk_frozen BK142.out 2; have hfz39_3 := blk_frozen BK142.out 3) | ((with_reducible refine gate_dst (N := 27) rfl ?_); refine Kd.R_lit k26 _ 26 ?hg (N := 27) ?hd (xs := ([(⟨a0_0, a0_1, a0_2, a0_3⟩ : S26)] : List (S26))) (inner := [.int .i64 a0_0, .int .i64 a0_1, .int .i64 a0_2, .int .i64 a0_3]) (ok := fun _ => True) (okp := fun _ => True) ?hr ?hp (fun _ hk => hk) trivial (Below.refl _ _) (Nat.le_refl _) (by simp) ?_; (case hd => rfl); (case hg => rfl); (case hr => first | (go_simp; done) | (go_simp; rfl)); (case hp => exact (Reps.c4 (show Kd.M k26 _ _ _ (⟨a0_0, a0_1, a0_2, a0_3⟩ : S26) [.int .i64 a0_0, .int .i64 a0_1, .int .i64 a0_2, .int .i64 a0_3] from (k26_mkM _ _ _ (⟨a0_0, a0_1, a0_2, a0_3⟩ : S26) )) (Reps.none _ _))); intro v154 w40 ho41 hb hg_ hnew_; clear hg_ hnew_; (first | rw [← Ny153.out] at ho41 | (simp only [Int.reduceToNat] at ho41; rw [← Ny153.out] at ho41)); have n0_ := Aside0.mk (Kd.R_lower (Kd.R_newB (Kd.R_newB (Kd.R_newB ho41 (g := gb142) (o := .cells #[.int .i64 a0_0, .int .i64 a0_1, .int .i64 a0_2, .int .i64 a0_3] 26 (0, 0)) q136_) (g := gb143) (o := .cells #[.int .i64 a1_0, .int .i64 a1_1, .int .i64 a1_2, .int .i64 a1_3] 26 (0, 0)) q137_) (g := gb151) (o := .cells #[.int .i64 t147, .int .i64 t148, .int .i64 t149, .int .i64 t150] 26 (0, 0)) q138_) (below_size q71_)); have n1_ := Aside0.mk (blk_below (g := gb142) (o := .cells #[.int .i64 a0_0, .int .i64 a0_1, .int .i64 a0_2, .int .i64 a0_3] 26 (0, 0)) q136_ hb); have n2_ := Aside0.mk (blk_below (g := gb143) (o := .cells #[.int .i64 a1_0, .int .i64 a1_1, .int .i64 a1_2, .int .i64 a1_3] 26 (0, 0)) q137_ hb); have n3_ := Aside0.mk (blk_below (g := gb151) (o := .cells #[.int .i64 t147, .int .i64 t148, .int .i64 t149, .int .i64 t150] 26 (0, 0)) q138_ hb); have n4_ := Aside0.mk (below_step q71_ hb); clear BK142; clear BK143; clear BK151; clear HB; have HO155 := n0_; have BK142 := n1_; have BK143 := n2_; have BK151 := n3_; have HB := n4_; clear n0_ n1_ n2_ n3_ n4_; clear hb ho41))
          go_ret
          exact ⟨_, q177_, by (with_reducible repeat (first | apply Kd.R_alloc | apply Kd.R_drewN | apply Kd.R_drew)); exact Kd.R_mono HO155.out (fun _ hk => trivial), q71_⟩
        · replace c29 := Bool.eq_false_iff.mpr c29
          subst c29
          have H1 : ((some (([(⟨a0_0, a0_1, a0_2, t148⟩ : S26), (⟨a0_0, t148, t147, t150⟩ : S26), (⟨t149, t148, a0_2, t150⟩ : S26), (⟨a0_0, t150, a0_2, a0_3⟩ : S26)] : List (S26)) : List (S26))).bind fun y156 => (rect_Subtract.l0 kj2 ([] : List (S26)) y156 (y156.length : Int) 0)) = some r := by rw [if_neg (show ¬ (false = true) by decide)] at H; exact H
          clear H
          have H := H1
          clear H1
          obtain ⟨y156, hy156⟩ : ∃ y_ : List (S26), y_ = (([(⟨a0_0, a0_1, a0_2, t148⟩ : S26), (⟨a0_0, t148, t147, t150⟩ : S26), (⟨t149, t148, a0_2, t150⟩ : S26), (⟨a0_0, t150, a0_2, a0_3⟩ : S26)] : List (S26))) := ⟨_, rfl⟩
          replace H : (rect_Subtract.l0 kj2 ([] : List (S26)) y156 (y156.length : Int) 0) = some r := by first | (rw [hy156]; with_reducible exact H) | (have H2_ := (Option.bind_some _ _).symm.trans H; rw [hy156]; with_reducible exact H2_) | (have H2_ := (Option.bind_some _ _).symm.trans H; with_reducible exact H2_) | with_reducible exact H | (rw [hy156]; exact H) | exact H
          have Ny156 := Aside0.mk hy156
          clear hy156
          have H' := Aside0.mk H
          clear H
          have hnb42 := NB142_143.out
          have hnc42 := NB143_142.out
          have hcz43_0 : wc.cell? ⟨gb142, 0, none⟩ = some (.int .i64 a0_0) := (blk_cell BK142.out 0).trans rfl
          have hcz43_1 : wc.cell? ⟨gb142, 1, none⟩ = some (.int .i64 a0_1) := (blk_cell BK142.out 1).trans rfl
          have hcz43_2 : wc.cell? ⟨gb142, 2, none⟩ = some (.int .i64 a0_2) := (blk_cell BK142.out 2).trans rfl
          have hcz43_3 : wc.cell? ⟨gb142, 3, none⟩ = some (.int .i64 a0_3) := (blk_cell BK142.out 3).trans rfl
          have hfz43_0 := blk_frozen BK142.out 0
          have hfz43_1 := blk_frozen BK142.out 1
          have hfz43_2 := blk_frozen BK142.out 2
          have hfz43_3 := blk_frozen BK142.out 3
          have hcz44_0 : wc.cell? ⟨gb143, 0, none⟩ = some (.int .i64 a1_0) := (blk_cell BK143.out 0).trans rfl
          have hcz44_1 : wc.cell? ⟨gb143, 1, none⟩ = some (.int .i64 a1_1) := (blk_cell BK143.out 1).trans rfl
          have hcz44_2 : wc.cell? ⟨gb143, 2, none⟩ = some (.int .i64 a1_2) := (blk_cell BK143.out 2).trans rfl
          have hcz44_3 : wc.cell? ⟨gb143, 3, none⟩ = some (.int .i64 a1_3) := (blk_cell BK143.out 3).trans rfl
          have hfz44_0 := blk_frozen BK143.out 0
          have hfz44_1 := blk_frozen BK143.out 1
          have hfz44_2 := blk_frozen BK143.out 2
          have hfz44_3 := blk_frozen BK143.out 3
          go_wp2_with (first | ((with_reducible refine gate_callee (f := 13) rfl ?_); refine goesL_ (some 23) rfl rfl Try.func13 (by kernel_rfl) rfl #[.agg #[.int .i64 a0_0, .int .i64 a0_1, .int .i64 a0_2, .int .i64 a0_3], .agg #[.int .i64 a1_0, .int .i64 a1_1, .int .i64 a1_2, .int .i64 a1_3]] rfl q128_ ?_; (with_reducible refine (rect_Intersect.calls kj2 a0_0 a0_1 a0_2 a0_3 a1_0 a1_1 a1_2 a1_3 t147 t148 t149 t150 _ A27.out).mono ?_); rintro e w45 ⟨rfl, hb⟩; refine ⟨_, rfl, ?_⟩; have n0_ := Aside0.mk (blk_below (g := gb142) (o := .cells #[.int .i64 a0_0, .int .i64 a0_1, .int .i64 a0_2, .int .i64 a0_3] 26 (0, 0)) q136_ hb); have n1_ := Aside0.mk (blk_below (g := gb143) (o := .cells #[.int .i64 a1_0, .int .i64 a1_1, .int .i64 a1_2, .int .i64 a1_3] 26 (0, 0)) q137_ hb); have n2_ := Aside0.mk (below_step q89_ hb); clear BK142; clear BK143; clear HB; have BK142 := n0_; have BK143 := n1_; have HB := n2_; clear n0_ n1_ n2_; (try clear hb); (try clear hb2); (try clear hk); (try clear hi)) | ((with_reducible refine gate_dst (N := 5) rfl ?_); refine box_event ?hg (N := 5) ?hd (cs := #[.int .i64 0, .int .i64 0, .int .i64 0, .int .i64 0]) (t := 26) ?hr ?_; (case hd => rfl); (case hg => rfl); (case hr => first | (go_simp; done) | (go_simp; rfl)); intro gb151 hg w46 hbox hb; have n0_ := Aside0.mk (blk_below (g := gb142) (o := .cells #[.int .i64 a0_0, .int .i64 a0_1, .int .i64 a0_2, .int .i64 a0_3] 26 (0, 0)) q136_ hb); have n1_ := Aside0.mk (blk_below (g := gb143) (o := .cells #[.int .i64 a1_0, .int .i64 a1_1, .int .i64 a1_2, .int .i64 a1_3] 26 (0, 0)) q137_ hb); have n2_ := Aside0.mk (below_step q89_ hb); have n3_ := Aside0.mk (hbox); have n4_ := Aside0.mk ((q66_ : w.heap.size ≤ gb151)); have n5_ := Aside0.mk ((q66_ : w.heap.size ≤ gb151)); have n6_ := Aside0.mk ((q30_ : gb142 ≠ gb151)); have n7_ := Aside0.mk ((q31_ : gb151 ≠ gb142)); have n8_ := Aside0.mk ((q32_ : gb143 ≠ gb151)); have n9_ := Aside0.mk ((q33_ : gb151 ≠ gb143)); clear BK142; clear BK143; clear HB; have BK142 := n0_; have BK143 := n1_; have HB := n2_; have BK151 := n3_; have GW151 := n4_; have GE151 := n5_; have NB142_151 := n6_; have NB151_142 := n7_; have NB143_151 := n8_; have NB151_143 := n9_; clear n0_ n1_ n2_ n3_ n4_ n5_ n6_ n7_ n8_ n9_; clear hb hbox hg; have hnb47 := NB151_142.out; have hnc47 := NB142_151.out; have hnb48 := NB151_143.out; have hnc48 := NB143_151.out; have hcz49_0 : w46.cell? ⟨gb151, 0, none⟩ = some (.int .i64 0) := (blk_cell BK151.out 0).trans rfl; have hcz49_1 : w46.cell? ⟨gb151, 1, none⟩ = some (.int .i64 0) := (blk_cell BK151.out 1).trans rfl; have hcz49_2 : w46.cell? ⟨gb151, 2, none⟩ = some (.int .i64 0) := (blk_cell BK151.out 2).trans rfl; have hcz49_3 : w46.cell? ⟨gb151, 3, none⟩ = some (.int .i64 0) := (blk_cell BK151.out 3).trans rfl; have hfz49_0 := blk_frozen BK151.out 0; have hfz49_1 := blk_frozen BK151.out 1; have hfz49_2 := blk_frozen BK151.out 2; have hfz49_3 := blk_frozen BK151.out 3) | ((with_reducible refine gate_callee (f := 25) rfl ?_); refine goesL_ (some 25) rfl rfl Try.func25 (by kernel_rfl) rfl #[.agg #[.int .i64 t147, .int .i64 t148, .int .i64 t149, .int .i64 t150]] rfl q128_ ?_; (with_reducible refine (rect_Empty.calls t147 t148 t149 t150 false _ A28.out).mono ?_); rintro e w50 ⟨rfl, hb⟩; refine ⟨_, rfl, ?_⟩; have n0_ := Aside0.mk (blk_below (g := gb142) (o := .cells #[.int .i64 a0_0, .int .i64 a0_1, .int .i64 a0_2, .int .i64 a0_3] 26 (0, 0)) (by (with_reducible repeat (first | refine blk_drewN ?_ _ | refine blk_drew ?_ | refine blk_alloc ?_ _)); refine blk_far ?_ NB142_151.out _; (with_reducible repeat (first | refine blk_drewN ?_ _ | refine blk_drew ?_ | refine blk_alloc ?_ _)); refine blk_far ?_ NB142_151.out _; (with_reducible repeat (first | refine blk_drewN ?_ _ | refine blk_drew ?_ | refine blk_alloc ?_ _)); refine blk_far ?_ NB142_151.out _; (with_reducible repeat (first | refine blk_drewN ?_ _ | refine blk_drew ?_ | refine blk_alloc ?_ _)); refine blk_far ?_ NB142_151.out _; (with_reducible repeat (first | refine blk_drewN ?_ _ | refine blk_drew ?_ | refine blk_alloc ?_ _)); exact BK142.out) hb); have n1_ := Aside0.mk (blk_below (g := gb143) (o := .cells #[.int .i64 a1_0, .int .i64 a1_1, .int .i64 a1_2, .int .i64 a1_3] 26 (0, 0)) (by (with_reducible repeat (first | refine blk_drewN ?_ _ | refine blk_drew ?_ | refine blk_alloc ?_ _)); refine blk_far ?_ NB143_151.out _; (with_reducible repeat (first | refine blk_drewN ?_ _ | refine blk_drew ?_ | refine blk_alloc ?_ _)); refine blk_far ?_ NB143_151.out _; (with_reducible repeat (first | refine blk_drewN ?_ _ | refine blk_drew ?_ | refine blk_alloc ?_ _)); refine blk_far ?_ NB143_151.out _; (with_reducible repeat (first | refine blk_drewN ?_ _ | refine blk_drew ?_ | refine blk_alloc ?_ _)); refine blk_far ?_ NB143_151.out _; (with_reducible repeat (first | refine blk_drewN ?_ _ | refine blk_drew ?_ | refine blk_alloc ?_ _)); exact BK143.out) hb); have n2_ := Aside0.mk (blk_below (g := gb151) (o := .cells #[.int .i64 t147, .int .i64 t148, .int .i64 t149, .int .i64 t150] 26 (0, 0)) (by (with_reducible repeat (first | refine blk_drewN ?_ _ | refine blk_drew ?_ | refine blk_alloc ?_ _)); refine blk_put (cs := #[.int .i64 t147, .int .i64 t148, .int .i64 t149, .int .i64 0]) ?_ 3 _ rfl; (with_reducible repeat (first | refine blk_drewN ?_ _ | refine blk_drew ?_ | refine blk_alloc ?_ _)); refine blk_put (cs := #[.int .i64 t147, .int .i64 t148, .int .i64 0, .int .i64 0]) ?_ 2 _ rfl; (with_reducible repeat (first | refine blk_drewN ?_ _ | refine blk_drew ?_ | refine blk_alloc ?_ _)); refine blk_put (cs := #[.int .i64 t147, .int .i64 0, .int .i64 0, .int .i64 0]) ?_ 1 _ rfl; (with_reducible repeat (first | refine blk_drewN ?_ _ | refine blk_drew ?_ | refine blk_alloc ?_ _)); refine blk_put (cs := #[.int .i64 0, .int .i64 0, .int .i64 0, .int .i64 0]) ?_ 0 _ rfl; (with_reducible repeat (first | refine blk_drewN ?_ _ | refine blk_drew ?_ | refine blk_alloc ?_ _)); exact BK151.out) hb); have n3_ := Aside0.mk (below_step q71_ hb); clear BK142; clear BK143; clear BK151; clear HB; have BK142 := n0_; have BK143 := n1_; have BK151 := n2_; have HB := n3_; clear n0_ n1_ n2_ n3_; (try clear hb); (try clear hb2); (try clear hk); (try clear hi); have hcz51_0 : w50.cell? ⟨gb142, 0, none⟩ = some (.int .i64 a0_0) := (blk_cell BK142.out 0).trans rfl; have hcz51_1 : w50.cell? ⟨gb142, 1, none⟩ = some (.int .i64 a0_1) := (blk_cell BK142.out 1).trans rfl; have hcz51_2 : w50.cell? ⟨gb142, 2, none⟩ = some (.int .i64 a0_2) := (blk_cell BK142.out 2).trans rfl; have hcz51_3 : w50.cell? ⟨gb142, 3, none⟩ = some (.int .i64 a0_3) := (blk_cell BK142.out 3).trans rfl; have hfz51_0 := blk_frozen BK142.out 0; have hfz51_1 := blk_frozen BK142.out 1; have hfz51_2 := blk_frozen BK142.out 2; have hfz51_3 := blk_frozen BK142.out 3; have hcz52_0 : w50.cell? ⟨gb151, 0, none⟩ = some (.int .i64 t147) := (blk_cell BK151.out 0).trans rfl; have hcz52_1 : w50.cell? ⟨gb151, 1, none⟩ = some (.int .i64 t148) := (blk_cell BK151.out 1).trans rfl; have hcz52_2 : w50.cell? ⟨gb151, 2, none⟩ = some (.int .i64 t149) := (blk_cell BK151.out 2).trans rfl; have hcz52_3 : w50.cell? ⟨gb151, 3, none⟩ = some (.int .i64 t150) := (blk_cell BK151.out 3).trans rfl; have hfz52_0 := blk_frozen BK151.out 0; have hfz52_1 := blk_frozen BK151.out 1; have hfz52_2 := blk_frozen BK151.out 2; have hfz52_3 := blk_frozen BK151.out 3) | ((with_reducible refine gate_dst (N := 64) rfl ?_); refine Kd.R_lit k26 _ 26 ?hg (N := 64) ?hd (xs := ([(⟨a0_0, a0_1, a0_2, t148⟩ : S26), (⟨a0_0, t148, t147, t150⟩ : S26), (⟨t149, t148, a0_2, t150⟩ : S26), (⟨a0_0, t150, a0_2, a0_3⟩ : S26)] : List (S26))) (inner := [.int .i64 a0_0, .int .i64 a0_1, .int .i64 a0_2, .int .i64 t148, .int .i64 a0_0, .int .i64 t148, .int .i64 t147, .int .i64 t150, .int .i64 t149, .int .i64 t148, .int .i64 a0_2, .int .i64 t150, .int .i64 a0_0, .int .i64 t150, .int .i64 a0_2, .int .i64 a0_3]) (ok := fun _ => True) (okp := fun _ => True) ?hr ?hp (fun _ hk => hk) trivial (Below.refl _ _) (Nat.le_refl _) (by simp) ?_; (case hd => rfl); (case hg => rfl); (case hr => first | (go_simp; done) | (go_simp; rfl)); (case hp => exact (Reps.c4 (show Kd.M k26 _ _ _ (⟨a0_0, a0_1, a0_2, t148⟩ : S26) [.int .i64 a0_0, .int .i64 a0_1, .int .i64 a0_2, .int .i64 t148] from (k26_mkM _ _ _ (⟨a0_0, a0_1, a0_2, t148⟩ : S26) )) (Reps.c4 (show Kd.M k26 _ _ _ (⟨a0_0, t148, t147, t150⟩ : S26) [.int .i64 a0_0, .int .i64 t148, .int .i64 t147, .int .i64 t150] from (k26_mkM _ _ _ (⟨a0_0, t148, t147, t150⟩ : S26) )) (Reps.c4 (show Kd.M k26 _ _ _ (⟨t149, t148, a0_2, t150⟩ : S26) [.int .i64 t149, .int .i64 t148, .int .i64 a0_2, .int .i64 t150] from (k26_mkM _ _ _ (⟨t149, t148, a0_2, t150⟩ : S26) )) (Reps.c4 (show Kd.M k26 _ _ _ (⟨a0_0, t150, a0_2, a0_3⟩ : S26) [.int .i64 a0_0, .int .i64 t150, .int .i64 a0_2, .int .i64 a0_3] from (k26_mkM _ _ _ (⟨a0_0, t150, a0_2, a0_3⟩ : S26) )) (Reps.none _ _)))))); intro v157 w53 ho54 hb hg_ hnew_; clear hg_ hnew_; (first | rw [← Ny156.out] at ho54 | (simp only [Int.reduceToNat] at ho54; rw [← Ny156.out] at ho54)); have n0_ := Aside0.mk (Kd.R_lower (Kd.R_newB (Kd.R_newB (Kd.R_newB ho54 (g := gb142) (o := .cells #[.int .i64 a0_0, .int .i64 a0_1, .int .i64 a0_2, .int .i64 a0_3] 26 (0, 0)) q136_) (g := gb143) (o := .cells #[.int .i64 a1_0, .int .i64 a1_1, .int .i64 a1_2, .int .i64 a1_3] 26 (0, 0)) q137_) (g := gb151) (o := .cells #[.int .i64 t147, .int .i64 t148, .int .i64 t149, .int .i64 t150] 26 (0, 0)) q138_) (below_size q71_)); have n1_ := Aside0.mk (blk_below (g := gb142) (o := .cells #[.int .i64 a0_0, .int .i64 a0_1, .int .i64 a0_2, .int .i64 a0_3] 26 (0, 0)) q136_ hb); have n2_ := Aside0.mk (blk_below (g := gb143) (o := .cells #[.int .i64 a1_0, .int .i64 a1_1, .int .i64 a1_2, .int .i64 a1_3] 26 (0, 0)) q137_ hb); have n3_ := Aside0.mk (blk_below (g := gb151) (o := .cells #[.int .i64 t147, .int .i64 t148, .int .i64 t149, .int .i64 t150] 26 (0, 0)) q138_ hb); have n4_ := Aside0.mk (below_step q71_ hb); clear BK142; clear BK143; clear BK151; clear HB; have HO158 := n0_; have BK142 := n1_; have BK143 := n2_; have BK151 := n3_; have HB := n4_; clear n0_ n1_ n2_ n3_ n4_; clear hb ho54; obtain ⟨Ao55, co55, eo55⟩ := Kd.R_slice HO158.out; subst eo55))
          go_loopg [6, 66] kj2 (fun kq v6 v66 w' => ∃ (x6_2 : List (S26)) (x66_2 : Int), v66 = .int .i64 x66_2 ∧ Aside0 (rect_Subtract.l0 kq x6_2 y156 (y156.length : Int) x66_2 = some r) ∧ Aside0 (kq ≤ kj2) ∧ Aside0 (Kd.R k26 26 w' w.heap.size (fun k_ => some k_ ≠ ((.slice Ao55 y156.length co55) : Value).ownBlock ∧ k_ ≠ gb142 ∧ k_ ≠ gb143 ∧ k_ ≠ gb151) v6 x6_2) ∧ Aside0 (Kd.R k26 26 w' w.heap.size (fun k_ => some k_ ≠ (v6 : Value).ownBlock ∧ k_ ≠ gb142 ∧ k_ ≠ gb143 ∧ k_ ≠ gb151) (.slice Ao55 y156.length co55) y156) ∧ Aside0 (w'.heap[gb142]? = some (.cells #[.int .i64 a0_0, .int .i64 a0_1, .int .i64 a0_2, .int .i64 a0_3] 26 (0, 0))) ∧ Aside0 (w'.heap[gb143]? = some (.cells #[.int .i64 a1_0, .int .i64 a1_1, .int .i64 a1_2, .int .i64 a1_3] 26 (0, 0))) ∧ Aside0 (w'.heap[gb151]? = some (.cells #[.int .i64 t147, .int .i64 t148, .int .i64 t149, .int .i64 t150] 26 (0, 0))) ∧ Aside0 (Below w.heap.size w w'))
          case atStart => exact ⟨(([] : List (S26))), (0), q180_, H', ⟨Nat.le_refl _⟩, ⟨q127_⟩, ⟨by (with_reducible repeat (first | apply Kd.R_alloc | apply Kd.R_drewN | apply Kd.R_drew)); exact Kd.R_mono HO158.out (fun _ hk => ⟨(by simp [Value.ownBlock]), ⟨hk.1.1.2, ⟨hk.1.2, hk.2⟩⟩⟩)⟩, ⟨q136_⟩, ⟨q137_⟩, ⟨q138_⟩, ⟨q71_⟩⟩
          case round =>
            clear H'
            try clear c1
            try clear c2
            try clear p2
            try clear c3
            try clear c4
            try clear c7
            try clear c9
            try clear c11
            try clear c13
            try clear c18
            try clear c23
            try clear c24
            try clear c25
            try clear c26
            try clear c29
            try clear c30
            try clear c35
            try clear c36
            try clear c42
            try clear c47
            try clear c48
            try clear hcz12_0
            try clear hcz12_1
            try clear hcz12_2
            try clear hcz12_3
            try clear hcz14_0
            try clear hcz14_1
            try clear hcz14_2
            try clear hcz14_3
            try clear hcz16_0
            try clear hcz16_1
            try clear hcz16_2
            try clear hcz16_3
            try clear hcz19_0
            try clear hcz19_1
            try clear hcz19_2
            try clear hcz19_3
            try clear hcz21_0
            try clear hcz21_1
            try clear hcz21_2
            try clear hcz21_3
            try clear hcz24_0
            try clear hcz24_1
            try clear hcz24_2
            try clear hcz24_3
            try clear hcz31_0
            try clear hcz31_1
            try clear hcz31_2
            try clear hcz31_3
            try clear hcz32_0
            try clear hcz32_1
            try clear hcz32_2
            try clear hcz32_3
            try clear hcz37_0
            try clear hcz37_1
            try clear hcz37_2
            try clear hcz37_3
            try clear hcz39_0
            try clear hcz39_1
            try clear hcz39_2
            try clear hcz39_3
            try clear hcz43_0
            try clear hcz43_1
            try clear hcz43_2
            try clear hcz43_3
            try clear hcz44_0
            try clear hcz44_1
            try clear hcz44_2
            try clear hcz44_3
            try clear hcz49_0
            try clear hcz49_1
            try clear hcz49_2
            try clear hcz49_3
            try clear hcz51_0
            try clear hcz51_1
            try clear hcz51_2
            try clear hcz51_3
            try clear hcz52_0
            try clear hcz52_1
            try clear hcz52_2
            try clear hcz52_3
            try clear hfz12_0
            try clear hfz12_1
            try clear hfz12_2
            try clear hfz12_3
            try clear hfz14_0
            try clear hfz14_1
            try clear hfz14_2
            try clear hfz14_3
            try clear hfz16_0
            try clear hfz16_1
            try clear hfz16_2
            try clear hfz16_3
            try clear hfz19_0
            try clear hfz19_1
            try clear hfz19_2
            try clear hfz19_3
            try clear hfz21_0
            try clear hfz21_1
            try clear hfz21_2
            try clear hfz21_3
            try clear hfz24_0
            try clear hfz24_1
            try clear hfz24_2
            try clear hfz24_3
            try clear hfz31_0
            try clear hfz31_1
            try clear hfz31_2
            try clear hfz31_3
            try clear hfz32_0
            try clear hfz32_1
            try clear hfz32_2
            try clear hfz32_3
            try clear hfz37_0
            try clear hfz37_1
            try clear hfz37_2
            try clear hfz37_3
            try clear hfz39_0
            try clear hfz39_1
            try clear hfz39_2
            try clear hfz39_3
            try clear hfz43_0
            try clear hfz43_1
            try clear hfz43_2
            try clear hfz43_3
            try clear hfz44_0
            try clear hfz44_1
            try clear hfz44_2
            try clear hfz44_3
            try clear hfz49_0
            try clear hfz49_1
            try clear hfz49_2
            try clear hfz49_3
            try clear hfz51_0
            try clear hfz51_1
            try clear hfz51_2
            try clear hfz51_3
            try clear hfz52_0
            try clear hfz52_1
            try clear hfz52_2
            try clear hfz52_3
            try clear p2
            obtain ⟨x6_2, x66_2, rfl, HA, HK2, HO_6, HO_64, BK142, BK143, BK151, HB⟩ := hrel
            cases gk with
            | zero => exact absurd HA.out (by simp [rect_Subtract.l0])
            | succ k2 =>
              have H := HA.out
              clear HA
              simp only [rect_Subtract.l0] at H
              by_cases c56 : x66_2 < (y156.length : Int)
              · rw [if_pos c56] at H
                have c56b0 : decide (x66_2 < (y156.length : Int)) = true := decide_eq_true c56
                clear c56
                by_cases c57 : 0 ≤ x66_2
                · rw [if_pos c57] at H
                  have c57b0 : decide (0 ≤ x66_2) = true := decide_eq_true c57
                  clear c57
                  by_cases c58 : x66_2 < (y156.length : Int)
                  · rw [if_pos c58] at H
                    have c58b0 : decide (x66_2 < (y156.length : Int)) = true := decide_eq_true c58
                    clear c58
                    by_cases c59 : ((rd_T26 y156 x66_2).f0) < ((rd_T26 y156 x66_2).f2)
                    · rw [if_pos c59] at H
                      have c59b0 : decide (((rd_T26 y156 x66_2).f0) < ((rd_T26 y156 x66_2).f2)) = true := decide_eq_true c59
                      clear c59
                      by_cases c60 : ((rd_T26 y156 x66_2).f1) < ((rd_T26 y156 x66_2).f3)
                      · rw [if_pos c60] at H
                        have c60b0 : decide (((rd_T26 y156 x66_2).f1) < ((rd_T26 y156 x66_2).f3)) = true := decide_eq_true c60
                        clear c60
                        by_cases c61 : x6_2.length < 4398046511104
                        · rw [if_pos c61] at H
                          have LMc61 := Aside0.mk c61
                          clear c61
                          obtain ⟨y161, hy161⟩ : ∃ y_ : List (S26), y_ = (x6_2 ++ [(⟨(rd_T26 y156 x66_2).f0, (rd_T26 y156 x66_2).f1, (rd_T26 y156 x66_2).f2, (rd_T26 y156 x66_2).f3⟩ : S26)]) := ⟨_, rfl⟩
                          replace H : (rect_Subtract.l0 k2 y161 y156 (y156.length : Int) (wrap64 (x66_2 + 1))) = some r := by first | (rw [hy161]; with_reducible exact H) | (have H2_ := (Option.bind_some _ _).symm.trans H; rw [hy161]; with_reducible exact H2_) | (have H2_ := (Option.bind_some _ _).symm.trans H; with_reducible exact H2_) | with_reducible exact H | (rw [hy161]; exact H) | exact H
                          have Ny161 := Aside0.mk hy161
                          clear hy161
                          have H' := Aside0.mk H
                          clear H
                          have p159 : 0 ≤ (x66_2 : Int) := of_decide_eq_true q179_
                          have q159 : x66_2 < (y156.length : Int) := of_decide_eq_true q179_
                          obtain ⟨ad159, e159, hx159_0, hx159_1, hx159_2, hx159_3⟩ := at_T26 (Kd.R_reads' HO_64.out).2.2 x66_2 p159 q159
                          cases e159
                          replace p159 := eq_true p159
                          replace q159 := eq_true q159
                          go_wp2_with (first | ((with_reducible refine gate_dst (N := 8) rfl ?_); refine box_event ?hg (N := 8) ?hd (cs := #[.int .i64 0, .int .i64 0, .int .i64 0, .int .i64 0]) (t := 26) ?hr ?_; (case hd => rfl); (case hg => rfl); (case hr => first | (go_simp; done) | (go_simp; rfl)); intro gb160 hg w62 hbox hb; have n0_ := Aside0.mk (Kd.R_below (Kd.R_elderB q175_ gb160 (Nat.le_of_eq hg.symm)) hb); have n1_ := Aside0.mk (Kd.R_below (Kd.R_elderB q169_ gb160 (Nat.le_of_eq hg.symm)) hb); have n2_ := Aside0.mk (blk_below (g := gb142) (o := .cells #[.int .i64 a0_0, .int .i64 a0_1, .int .i64 a0_2, .int .i64 a0_3] 26 (0, 0)) q136_ hb); have n3_ := Aside0.mk (blk_below (g := gb143) (o := .cells #[.int .i64 a1_0, .int .i64 a1_1, .int .i64 a1_2, .int .i64 a1_3] 26 (0, 0)) q137_ hb); have n4_ := Aside0.mk (blk_below (g := gb151) (o := .cells #[.int .i64 t147, .int .i64 t148, .int .i64 t149, .int .i64 t150] 26 (0, 0)) q138_ hb); have n5_ := Aside0.mk (below_step q71_ hb); have n6_ := Aside0.mk (hbox); have n7_ := Aside0.mk ((q51_ : w.heap.size ≤ gb160)); have n8_ := Aside0.mk ((q51_ : w.heap.size ≤ gb160)); have n9_ := Aside0.mk ((q30_ : gb142 ≠ gb160)); have n10_ := Aside0.mk ((q31_ : gb160 ≠ gb142)); have n11_ := Aside0.mk ((q32_ : gb143 ≠ gb160)); have n12_ := Aside0.mk ((q33_ : gb160 ≠ gb143)); have n13_ := Aside0.mk ((q34_ : gb151 ≠ gb160)); have n14_ := Aside0.mk ((q35_ : gb160 ≠ gb151)); clear HO_6; clear HO_64; clear BK142; clear BK143; clear BK151; clear HB; have HO_6 := n0_; have HO_64 := n1_; have BK142 := n2_; have BK143 := n3_; have BK151 := n4_; have HB := n5_; have BK160 := n6_; have GW160 := n7_; have GE160 := n8_; have NB142_160 := n9_; have NB160_142 := n10_; have NB143_160 := n11_; have NB160_143 := n12_; have NB151_160 := n13_; have NB160_151 := n14_; clear n0_ n1_ n2_ n3_ n4_ n5_ n6_ n7_ n8_ n9_ n10_ n11_ n12_ n13_ n14_; clear hb hbox hg; have hnb63 := NB160_142.out; have hnc63 := NB142_160.out; have hnb64 := NB160_143.out; have hnc64 := NB143_160.out; have hnb65 := NB160_151.out; have hnc65 := NB151_160.out; have hcz66_0 : w62.cell? ⟨gb160, 0, none⟩ = some (.int .i64 0) := (blk_cell BK160.out 0).trans rfl; have hcz66_1 : w62.cell? ⟨gb160, 1, none⟩ = some (.int .i64 0) := (blk_cell BK160.out 1).trans rfl; have hcz66_2 : w62.cell? ⟨gb160, 2, none⟩ = some (.int .i64 0) := (blk_cell BK160.out 2).trans rfl; have hcz66_3 : w62.cell? ⟨gb160, 3, none⟩ = some (.int .i64 0) := (blk_cell BK160.out 3).trans rfl; have hfz66_0 := blk_frozen BK160.out 0; have hfz66_1 := blk_frozen BK160.out 1; have hfz66_2 := blk_frozen BK160.out 2; have hfz66_3 := blk_frozen BK160.out 3) | ((with_reducible refine gate_builtin (b := .append) (xs := #[.tmp 82, .tmp 84]) rfl ?_); at_builtin; refine Kd.R_append k26 (w0 := w) w.heap.size rfl (.tmp 82) (.tmp 84) 30 26 (.agg #[(.int .i64 0), (.int .i64 0), (.int .i64 0), (.int .i64 0)]) 32 rfl Try.underlying30 info26 rfl (by decide) (by omega) u6 x6_2 (⟨(rd_T26 y156 x66_2).f0, (rd_T26 y156 x66_2).f1, (rd_T26 y156 x66_2).f2, (rd_T26 y156 x66_2).f3⟩ : S26) [.int .i64 ((rd_T26 y156 x66_2).f0), .int .i64 ((rd_T26 y156 x66_2).f1), .int .i64 ((rd_T26 y156 x66_2).f2), .int .i64 ((rd_T26 y156 x66_2).f3)] (fun k_ => some k_ ≠ (.slice (some ad159) y156.length co55 : Value).ownBlock ∧ k_ ≠ gb142 ∧ k_ ≠ gb143 ∧ k_ ≠ gb151 ∧ k_ ≠ gb160) (fun _ => False) rfl (by first | (go_simp; done) | (go_simp; rfl)) ?aP (fun _ hk => hk.elim) ?aF ?aO ?aB ?aS ?aL ?_; (case aP => exact k26_mkM _ _ _ (⟨(rd_T26 y156 x66_2).f0, (rd_T26 y156 x66_2).f1, (rd_T26 y156 x66_2).f2, (rd_T26 y156 x66_2).f3⟩ : S26)); (case aB => exact q54_); (case aF => exact (fun k_ hk => ⟨Kd.fresh' (Kd.R_lt (by (with_reducible repeat (first | apply Kd.R_alloc | apply Kd.R_drewN | apply Kd.R_drew)); exact (Kd.R_mono (Kd.R_far (p := ⟨gb160, 3, none⟩) (Kd.R_far (p := ⟨gb160, 2, none⟩) (Kd.R_far (p := ⟨gb160, 1, none⟩) (Kd.R_far (p := ⟨gb160, 0, none⟩) (Kd.R_mono HO_64.out (fun k_ hk => (⟨hk, hk.2⟩ : _ ∧ k_ ≠ gb160))) (fun _ hk => hk.2) (.int .i64 ((rd_T26 y156 x66_2).f0))) (fun _ hk => hk.2) (.int .i64 ((rd_T26 y156 x66_2).f1))) (fun _ hk => hk.2) (.int .i64 ((rd_T26 y156 x66_2).f2))) (fun _ hk => hk.2) (.int .i64 ((rd_T26 y156 x66_2).f3))) (fun _ h_ => h_.1)))) k_ hk, Kd.freshB (g := gb142) (o := .cells #[.int .i64 a0_0, .int .i64 a0_1, .int .i64 a0_2, .int .i64 a0_3] 26 (0, 0)) q9_ k_ hk, Kd.freshB (g := gb143) (o := .cells #[.int .i64 a1_0, .int .i64 a1_1, .int .i64 a1_2, .int .i64 a1_3] 26 (0, 0)) q10_ k_ hk, Kd.freshB (g := gb151) (o := .cells #[.int .i64 t147, .int .i64 t148, .int .i64 t149, .int .i64 t150] 26 (0, 0)) q11_ k_ hk, Kd.freshB (g := gb160) (o := .cells #[.int .i64 ((rd_T26 y156 x66_2).f0), .int .i64 ((rd_T26 y156 x66_2).f1), .int .i64 ((rd_T26 y156 x66_2).f2), .int .i64 ((rd_T26 y156 x66_2).f3)] 26 (0, 0)) (by (with_reducible repeat (first | refine blk_drewN ?_ _ | refine blk_drew ?_ | refine blk_alloc ?_ _)); refine blk_put (cs := #[.int .i64 ((rd_T26 y156 x66_2).f0), .int .i64 ((rd_T26 y156 x66_2).f1), .int .i64 ((rd_T26 y156 x66_2).f2), .int .i64 0]) ?_ 3 _ rfl; (with_reducible repeat (first | refine blk_drewN ?_ _ | refine blk_drew ?_ | refine blk_alloc ?_ _)); refine blk_put (cs := #[.int .i64 ((rd_T26 y156 x66_2).f0), .int .i64 ((rd_T26 y156 x66_2).f1), .int .i64 0, .int .i64 0]) ?_ 2 _ rfl; (with_reducible repeat (first | refine blk_drewN ?_ _ | refine blk_drew ?_ | refine blk_alloc ?_ _)); refine blk_put (cs := #[.int .i64 ((rd_T26 y156 x66_2).f0), .int .i64 0, .int .i64 0, .int .i64 0]) ?_ 1 _ rfl; (with_reducible repeat (first | refine blk_drewN ?_ _ | refine blk_drew ?_ | refine blk_alloc ?_ _)); refine blk_put (cs := #[.int .i64 0, .int .i64 0, .int .i64 0, .int .i64 0]) ?_ 0 _ rfl; (with_reducible repeat (first | refine blk_drewN ?_ _ | refine blk_drew ?_ | refine blk_alloc ?_ _)); exact BK160.out) k_ hk⟩)); (case aO => exact (by (with_reducible repeat (first | apply Kd.R_alloc | apply Kd.R_drewN | apply Kd.R_drew)); exact Kd.R_mono (Kd.R_far (p := ⟨gb160, 3, none⟩) (Kd.R_far (p := ⟨gb160, 2, none⟩) (Kd.R_far (p := ⟨gb160, 1, none⟩) (Kd.R_far (p := ⟨gb160, 0, none⟩) (Kd.R_mono HO_6.out (fun k_ hk => (⟨hk, hk.2⟩ : _ ∧ k_ ≠ gb160))) (fun _ hk => hk.2) (.int .i64 ((rd_T26 y156 x66_2).f0))) (fun _ hk => hk.2) (.int .i64 ((rd_T26 y156 x66_2).f1))) (fun _ hk => hk.2) (.int .i64 ((rd_T26 y156 x66_2).f2))) (fun _ hk => hk.2) (.int .i64 ((rd_T26 y156 x66_2).f3))) (fun _ hk => ⟨hk.1.1.1, ⟨hk.1.1.2.1, ⟨hk.1.1.2.2.1, ⟨hk.1.1.2.2.2, hk.1.2⟩⟩⟩⟩))); (case aS => exact (below_size q54_)); (case aL => have := LMc61.out; omega); intro v162 w67 ho hb hg hat; rw [← Ny161.out] at ho; have n0_ := Aside0.mk (Kd.R_after (ok := (fun k_ => k_ ≠ gb142 ∧ k_ ≠ gb143 ∧ k_ ≠ gb151 ∧ k_ ≠ gb160)) (by (with_reducible repeat (first | apply Kd.R_alloc | apply Kd.R_drewN | apply Kd.R_drew)); exact Kd.R_mono (Kd.R_far (p := ⟨gb160, 3, none⟩) (Kd.R_far (p := ⟨gb160, 2, none⟩) (Kd.R_far (p := ⟨gb160, 1, none⟩) (Kd.R_far (p := ⟨gb160, 0, none⟩) (Kd.R_mono HO_64.out (fun k_ hk => (⟨hk, hk.2⟩ : _ ∧ k_ ≠ gb160))) (fun _ hk => hk.2) (.int .i64 ((rd_T26 y156 x66_2).f0))) (fun _ hk => hk.2) (.int .i64 ((rd_T26 y156 x66_2).f1))) (fun _ hk => hk.2) (.int .i64 ((rd_T26 y156 x66_2).f2))) (fun _ hk => hk.2) (.int .i64 ((rd_T26 y156 x66_2).f3))) (fun _ hk => ⟨⟨hk.1.1.2.1, ⟨hk.1.1.2.2.1, ⟨hk.1.1.2.2.2, hk.1.2⟩⟩⟩, hk.1.1.1⟩)) hg hat); have n1_ := Aside0.mk (blk_grown (g := gb142) (o := .cells #[.int .i64 a0_0, .int .i64 a0_1, .int .i64 a0_2, .int .i64 a0_3] 26 (0, 0)) q9_ hg (Kd.R_away HO_6.out (fun _ hk => hk.1.2.1))); have n2_ := Aside0.mk (blk_grown (g := gb143) (o := .cells #[.int .i64 a1_0, .int .i64 a1_1, .int .i64 a1_2, .int .i64 a1_3] 26 (0, 0)) q10_ hg (Kd.R_away HO_6.out (fun _ hk => hk.1.2.2.1))); have n3_ := Aside0.mk (blk_grown (g := gb151) (o := .cells #[.int .i64 t147, .int .i64 t148, .int .i64 t149, .int .i64 t150] 26 (0, 0)) q11_ hg (Kd.R_away HO_6.out (fun _ hk => hk.1.2.2.2))); have n4_ := Aside0.mk (blk_grown (g := gb160) (o := .cells #[.int .i64 ((rd_T26 y156 x66_2).f0), .int .i64 ((rd_T26 y156 x66_2).f1), .int .i64 ((rd_T26 y156 x66_2).f2), .int .i64 ((rd_T26 y156 x66_2).f3)] 26 (0, 0)) (by (with_reducible repeat (first | refine blk_drewN ?_ _ | refine blk_drew ?_ | refine blk_alloc ?_ _)); refine blk_put (cs := #[.int .i64 ((rd_T26 y156 x66_2).f0), .int .i64 ((rd_T26 y156 x66_2).f1), .int .i64 ((rd_T26 y156 x66_2).f2), .int .i64 0]) ?_ 3 _ rfl; (with_reducible repeat (first | refine blk_drewN ?_ _ | refine blk_drew ?_ | refine blk_alloc ?_ _)); refine blk_put (cs := #[.int .i64 ((rd_T26 y156 x66_2).f0), .int .i64 ((rd_T26 y156 x66_2).f1), .int .i64 0, .int .i64 0]) ?_ 2 _ rfl; (with_reducible repeat (first | refine blk_drewN ?_ _ | refine blk_drew ?_ | refine blk_alloc ?_ _)); refine blk_put (cs := #[.int .i64 ((rd_T26 y156 x66_2).f0), .int .i64 0, .int .i64 0, .int .i64 0]) ?_ 1 _ rfl; (with_reducible repeat (first | refine blk_drewN ?_ _ | refine blk_drew ?_ | refine blk_alloc ?_ _)); refine blk_put (cs := #[.int .i64 0, .int .i64 0, .int .i64 0, .int .i64 0]) ?_ 0 _ rfl; (with_reducible repeat (first | refine blk_drewN ?_ _ | refine blk_drew ?_ | refine blk_alloc ?_ _)); exact BK160.out) hg (Kd.R_away HO_6.out (fun _ hk => hk.2))); have n5_ := Aside0.mk (hb); have n6_ := Aside0.mk (ho); clear HO_64; clear BK142; clear BK143; clear BK151; clear BK160; clear HB; clear HO_6; have HO_64 := n0_; have BK142 := n1_; have BK143 := n2_; have BK151 := n3_; have BK160 := n4_; have HB := n5_; have HO163 := n6_; clear n0_ n1_ n2_ n3_ n4_ n5_ n6_; clear ho hb hg hat))
                          go_roundg k2
                          case measure => have := HJ2.out; have := HK2.out; omega
                          case rel => exact ⟨(y161), (wrap64 (x66_2 + 1)), q180_, H', ⟨q181_⟩, ⟨by (with_reducible repeat (first | apply Kd.R_alloc | apply Kd.R_drewN | apply Kd.R_drew)); exact Kd.R_mono HO163.out (fun _ hk => ⟨hk.1, ⟨hk.2.1, ⟨hk.2.2.1, hk.2.2.2.1⟩⟩⟩)⟩, ⟨by (with_reducible repeat (first | apply Kd.R_alloc | apply Kd.R_drewN | apply Kd.R_drew)); exact Kd.R_mono HO_64.out (fun _ hk => ⟨hk.2, ⟨hk.1.1, ⟨hk.1.2.1, hk.1.2.2.1⟩⟩⟩)⟩, ⟨q136_⟩, ⟨q137_⟩, ⟨q138_⟩, ⟨q54_⟩⟩
                        · rw [if_neg c61] at H
                          exact absurd H (by simp)
                      · rw [if_neg c60] at H
                        have c60b0 : decide (((rd_T26 y156 x66_2).f1) < ((rd_T26 y156 x66_2).f3)) = false := decide_eq_false c60
                        clear c60
                        have H' := Aside0.mk H
                        clear H
                        have p159 : 0 ≤ (x66_2 : Int) := of_decide_eq_true q179_
                        have q159 : x66_2 < (y156.length : Int) := of_decide_eq_true q179_
                        obtain ⟨ad159, e159, hx159_0, hx159_1, hx159_2, hx159_3⟩ := at_T26 (Kd.R_reads' HO_64.out).2.2 x66_2 p159 q159
                        cases e159
                        replace p159 := eq_true p159
                        replace q159 := eq_true q159
                        go_wp2_with (first | ((with_reducible refine gate_dst (N := 8) rfl ?_); refine box_event ?hg (N := 8) ?hd (cs := #[.int .i64 0, .int .i64 0, .int .i64 0, .int .i64 0]) (t := 26) ?hr ?_; (case hd => rfl); (case hg => rfl); (case hr => first | (go_simp; done) | (go_simp; rfl)); intro gb160 hg w68 hbox hb; have n0_ := Aside0.mk (Kd.R_below (Kd.R_elderB q175_ gb160 (Nat.le_of_eq hg.symm)) hb); have n1_ := Aside0.mk (Kd.R_below (Kd.R_elderB q169_ gb160 (Nat.le_of_eq hg.symm)) hb); have n2_ := Aside0.mk (blk_below (g := gb142) (o := .cells #[.int .i64 a0_0, .int .i64 a0_1, .int .i64 a0_2, .int .i64 a0_3] 26 (0, 0)) q136_ hb); have n3_ := Aside0.mk (blk_below (g := gb143) (o := .cells #[.int .i64 a1_0, .int .i64 a1_1, .int .i64 a1_2, .int .i64 a1_3] 26 (0, 0)) q137_ hb); have n4_ := Aside0.mk (blk_below (g := gb151) (o := .cells #[.int .i64 t147, .int .i64 t148, .int .i64 t149, .int .i64 t150] 26 (0, 0)) q138_ hb); have n5_ := Aside0.mk (below_step q71_ hb); have n6_ := Aside0.mk (hbox); have n7_ := Aside0.mk ((q51_ : w.heap.size ≤ gb160)); have n8_ := Aside0.mk ((q51_ : w.heap.size ≤ gb160)); have n9_ := Aside0.mk ((q30_ : gb142 ≠ gb160)); have n10_ := Aside0.mk ((q31_ : gb160 ≠ gb142)); have n11_ := Aside0.mk ((q32_ : gb143 ≠ gb160)); have n12_ := Aside0.mk ((q33_ : gb160 ≠ gb143)); have n13_ := Aside0.mk ((q34_ : gb151 ≠ gb160)); have n14_ := Aside0.mk ((q35_ : gb160 ≠ gb151)); clear HO_6; clear HO_64; clear BK142; clear BK143; clear BK151; clear HB; have HO_6 := n0_; have HO_64 := n1_; have BK142 := n2_; have BK143 := n3_; have BK151 := n4_; have HB := n5_; have BK160 := n6_; have GW160 := n7_; have GE160 := n8_; have NB142_160 := n9_; have NB160_142 := n10_; have NB143_160 := n11_; have NB160_143 := n12_; have NB151_160 := n13_; have NB160_151 := n14_; clear n0_ n1_ n2_ n3_ n4_ n5_ n6_ n7_ n8_ n9_ n10_ n11_ n12_ n13_ n14_; clear hb hbox hg; have hnb69 := NB160_142.out; have hnc69 := NB142_160.out; have hnb70 := NB160_143.out; have hnc70 := NB143_160.out; have hnb71 := NB160_151.out; have hnc71 := NB151_160.out; have hcz72_0 : w68.cell? ⟨gb160, 0, none⟩ = some (.int .i64 0) := (blk_cell BK160.out 0).trans rfl; have hcz72_1 : w68.cell? ⟨gb160, 1, none⟩ = some (.int .i64 0) := (blk_cell BK160.out 1).trans rfl; have hcz72_2 : w68.cell? ⟨gb160, 2, none⟩ = some (.int .i64 0) := (blk_cell BK160.out 2).trans rfl; have hcz72_3 : w68.cell? ⟨gb160, 3, none⟩ = some (.int .i64 0) := (blk_cell BK160.out 3).trans rfl; have hfz72_0 := blk_frozen BK160.out 0; have hfz72_1 := blk_frozen BK160.out 1; have hfz72_2 := blk_frozen BK160.out 2; have hfz72_3 := blk_frozen BK160.out 3))
                        go_roundg k2
                        case measure => have := HJ2.out; have := HK2.out; omega
                        case rel => exact ⟨(x6_2), (wrap64 (x66_2 + 1)), q180_, H', ⟨q181_⟩, ⟨by (with_reducible repeat (first | apply Kd.R_alloc | apply Kd.R_drewN | apply Kd.R_drew)); exact Kd.R_mono (Kd.R_far (p := ⟨gb160, 3, none⟩) (Kd.R_far (p := ⟨gb160, 2, none⟩) (Kd.R_far (p := ⟨gb160, 1, none⟩) (Kd.R_far (p := ⟨gb160, 0, none⟩) (Kd.R_mono HO_6.out (fun k_ hk => (⟨hk, hk.2⟩ : _ ∧ k_ ≠ gb160))) (fun _ hk => hk.2) (.int .i64 ((rd_T26 y156 x66_2).f0))) (fun _ hk => hk.2) (.int .i64 ((rd_T26 y156 x66_2).f1))) (fun _ hk => hk.2) (.int .i64 ((rd_T26 y156 x66_2).f2))) (fun _ hk => hk.2) (.int .i64 ((rd_T26 y156 x66_2).f3))) (fun _ hk => ⟨hk.1.1.1, ⟨hk.1.1.2.1, ⟨hk.1.1.2.2.1, hk.1.1.2.2.2⟩⟩⟩)⟩, ⟨by (with_reducible repeat (first | apply Kd.R_alloc | apply Kd.R_drewN | apply Kd.R_drew)); exact Kd.R_mono (Kd.R_far (p := ⟨gb160, 3, none⟩) (Kd.R_far (p := ⟨gb160, 2, none⟩) (Kd.R_far (p := ⟨gb160, 1, none⟩) (Kd.R_far (p := ⟨gb160, 0, none⟩) (Kd.R_mono HO_64.out (fun k_ hk => (⟨hk, hk.2⟩ : _ ∧ k_ ≠ gb160))) (fun _ hk => hk.2) (.int .i64 ((rd_T26 y156 x66_2).f0))) (fun _ hk => hk.2) (.int .i64 ((rd_T26 y156 x66_2).f1))) (fun _ hk => hk.2) (.int .i64 ((rd_T26 y156 x66_2).f2))) (fun _ hk => hk.2) (.int .i64 ((rd_T26 y156 x66_2).f3))) (fun _ hk => ⟨hk.1.1.1, ⟨hk.1.1.2.1, ⟨hk.1.1.2.2.1, hk.1.1.2.2.2⟩⟩⟩)⟩, ⟨q9_⟩, ⟨q10_⟩, ⟨q11_⟩, ⟨q54_⟩⟩
                    · rw [if_neg c59] at H
                      have c59b0 : decide (((rd_T26 y156 x66_2).f0) < ((rd_T26 y156 x66_2).f2)) = false := decide_eq_false c59
                      clear c59
                      have H' := Aside0.mk H
                      clear H
                      have p159 : 0 ≤ (x66_2 : Int) := of_decide_eq_true q179_
                      have q159 : x66_2 < (y156.length : Int) := of_decide_eq_true q179_
                      obtain ⟨ad159, e159, hx159_0, hx159_1, hx159_2, hx159_3⟩ := at_T26 (Kd.R_reads' HO_64.out).2.2 x66_2 p159 q159
                      cases e159
                      replace p159 := eq_true p159
                      replace q159 := eq_true q159
                      go_wp2_with (first | ((with_reducible refine gate_dst (N := 8) rfl ?_); refine box_event ?hg (N := 8) ?hd (cs := #[.int .i64 0, .int .i64 0, .int .i64 0, .int .i64 0]) (t := 26) ?hr ?_; (case hd => rfl); (case hg => rfl); (case hr => first | (go_simp; done) | (go_simp; rfl)); intro gb160 hg w73 hbox hb; have n0_ := Aside0.mk (Kd.R_below (Kd.R_elderB q175_ gb160 (Nat.le_of_eq hg.symm)) hb); have n1_ := Aside0.mk (Kd.R_below (Kd.R_elderB q169_ gb160 (Nat.le_of_eq hg.symm)) hb); have n2_ := Aside0.mk (blk_below (g := gb142) (o := .cells #[.int .i64 a0_0, .int .i64 a0_1, .int .i64 a0_2, .int .i64 a0_3] 26 (0, 0)) q136_ hb); have n3_ := Aside0.mk (blk_below (g := gb143) (o := .cells #[.int .i64 a1_0, .int .i64 a1_1, .int .i64 a1_2, .int .i64 a1_3] 26 (0, 0)) q137_ hb); have n4_ := Aside0.mk (blk_below (g := gb151) (o := .cells #[.int .i64 t147, .int .i64 t148, .int .i64 t149, .int .i64 t150] 26 (0, 0)) q138_ hb); have n5_ := Aside0.mk (below_step q71_ hb); have n6_ := Aside0.mk (hbox); have n7_ := Aside0.mk ((q51_ : w.heap.size ≤ gb160)); have n8_ := Aside0.mk ((q51_ : w.heap.size ≤ gb160)); have n9_ := Aside0.mk ((q30_ : gb142 ≠ gb160)); have n10_ := Aside0.mk ((q31_ : gb160 ≠ gb142)); have n11_ := Aside0.mk ((q32_ : gb143 ≠ gb160)); have n12_ := Aside0.mk ((q33_ : gb160 ≠ gb143)); have n13_ := Aside0.mk ((q34_ : gb151 ≠ gb160)); have n14_ := Aside0.mk ((q35_ : gb160 ≠ gb151)); clear HO_6; clear HO_64; clear BK142; clear BK143; clear BK151; clear HB; have HO_6 := n0_; have HO_64 := n1_; have BK142 := n2_; have BK143 := n3_; have BK151 := n4_; have HB := n5_; have BK160 := n6_; have GW160 := n7_; have GE160 := n8_; have NB142_160 := n9_; have NB160_142 := n10_; have NB143_160 := n11_; have NB160_143 := n12_; have NB151_160 := n13_; have NB160_151 := n14_; clear n0_ n1_ n2_ n3_ n4_ n5_ n6_ n7_ n8_ n9_ n10_ n11_ n12_ n13_ n14_; clear hb hbox hg; have hnb74 := NB160_142.out; have hnc74 := NB142_160.out; have hnb75 := NB160_143.out; have hnc75 := NB143_160.out; have hnb76 := NB160_151.out; have hnc76 := NB151_160.out; have hcz77_0 : w73.cell? ⟨gb160, 0, none⟩ = some (.int .i64 0) := (blk_cell BK160.out 0).trans rfl; have hcz77_1 : w73.cell? ⟨gb160, 1, none⟩ = some (.int .i64 0) := (blk_cell BK160.out 1).trans rfl; have hcz77_2 : w73.cell? ⟨gb160, 2, none⟩ = some (.int .i64 0) := (blk_cell BK160.out 2).trans rfl; have hcz77_3 : w73.cell? ⟨gb160, 3, none⟩ = some (.int .i64 0) := (blk_cell BK160.out 3).trans rfl; have hfz77_0 := blk_frozen BK160.out 0; have hfz77_1 := blk_frozen BK160.out 1; have hfz77_2 := blk_frozen BK160.out 2; have hfz77_3 := blk_frozen BK160.out 3))
                      go_roundg k2
                      case measure => have := HJ2.out; have := HK2.out; omega
                      case rel => exact ⟨(x6_2), (wrap64 (x66_2 + 1)), q180_, H', ⟨q181_⟩, ⟨by (with_reducible repeat (first | apply Kd.R_alloc | apply Kd.R_drewN | apply Kd.R_drew)); exact Kd.R_mono (Kd.R_far (p := ⟨gb160, 3, none⟩) (Kd.R_far (p := ⟨gb160, 2, none⟩) (Kd.R_far (p := ⟨gb160, 1, none⟩) (Kd.R_far (p := ⟨gb160, 0, none⟩) (Kd.R_mono HO_6.out (fun k_ hk => (⟨hk, hk.2⟩ : _ ∧ k_ ≠ gb160))) (fun _ hk => hk.2) (.int .i64 ((rd_T26 y156 x66_2).f0))) (fun _ hk => hk.2) (.int .i64 ((rd_T26 y156 x66_2).f1))) (fun _ hk => hk.2) (.int .i64 ((rd_T26 y156 x66_2).f2))) (fun _ hk => hk.2) (.int .i64 ((rd_T26 y156 x66_2).f3))) (fun _ hk => ⟨hk.1.1.1, ⟨hk.1.1.2.1, ⟨hk.1.1.2.2.1, hk.1.1.2.2.2⟩⟩⟩)⟩, ⟨by (with_reducible repeat (first | apply Kd.R_alloc | apply Kd.R_drewN | apply Kd.R_drew)); exact Kd.R_mono (Kd.R_far (p := ⟨gb160, 3, none⟩) (Kd.R_far (p := ⟨gb160, 2, none⟩) (Kd.R_far (p := ⟨gb160, 1, none⟩) (Kd.R_far (p := ⟨gb160, 0, none⟩) (Kd.R_mono HO_64.out (fun k_ hk => (⟨hk, hk.2⟩ : _ ∧ k_ ≠ gb160))) (fun _ hk => hk.2) (.int .i64 ((rd_T26 y156 x66_2).f0))) (fun _ hk => hk.2) (.int .i64 ((rd_T26 y156 x66_2).f1))) (fun _ hk => hk.2) (.int .i64 ((rd_T26 y156 x66_2).f2))) (fun _ hk => hk.2) (.int .i64 ((rd_T26 y156 x66_2).f3))) (fun _ hk => ⟨hk.1.1.1, ⟨hk.1.1.2.1, ⟨hk.1.1.2.2.1, hk.1.1.2.2.2⟩⟩⟩)⟩, ⟨q9_⟩, ⟨q10_⟩, ⟨q11_⟩, ⟨q54_⟩⟩
                  · rw [if_neg c58] at H
                    exact absurd H (by simp)
                · rw [if_neg c57] at H
                  exact absurd H (by simp)
              · rw [if_neg c56] at H
                have c56b0 : decide (x66_2 < (y156.length : Int)) = false := decide_eq_false c56
                clear c56
                obtain rfl := Option.some.inj H
                go_wp2
                go_ret
                exact ⟨_, q177_, by (with_reducible repeat (first | apply Kd.R_alloc | apply Kd.R_drewN | apply Kd.R_drew)); exact Kd.R_mono HO_6.out (fun _ hk => trivial), q71_⟩


def rect_Area.f (a0_0 : Int) (a0_1 : Int) (a0_2 : Int) (a0_3 : Int) : Option (Int) := (rect_Valid.f a0_0 a0_1 a0_2 a0_3).bind fun t165 => (if t165 = true then (some (wrap64 ((wrap64 (a0_2 - a0_0)) * (wrap64 (a0_3 - a0_1))))) else (some 0))
set_option maxHeartbeats 8000000 in
set_option maxRecDepth 100000 in
theorem rect_Area.calls (a0_0 : Int) (a0_1 : Int) (a0_2 : Int) (a0_3 : Int) (r : Int) (w : World) (h : rect_Area.f a0_0 a0_1 a0_2 a0_3 = some r) :
    Calls Try.prog 12 #[.agg #[.int .i64 a0_0, .int .i64 a0_1, .int .i64 a0_2, .int .i64 a0_3]] w fun e w' => e = .returned (.int .i64 r) ∧ Below w.heap.size w w' := by
  have hu26 := Try.underlying26
  have HB := Aside0.mk (Below.refl w.heap.size w)
  have H : ((rect_Valid.f a0_0 a0_1 a0_2 a0_3).bind fun t165 => (if t165 = true then (some (wrap64 ((wrap64 (a0_2 - a0_0)) * (wrap64 (a0_3 - a0_1))))) else (some 0))) = some r := h
  clear h
  replace H := Option.bind_eq_some_iff.mp H
  obtain ⟨t165, A20, H⟩ := H
  replace H : (if t165 = true then (some (wrap64 ((wrap64 (a0_2 - a0_0)) * (wrap64 (a0_3 - a0_1))))) else (some 0)) = some r := H
  have A2 := Aside0.mk A20
  clear A20
  by_cases c3 : t165 = true
  · subst c3
    have H1 : (some (wrap64 ((wrap64 (a0_2 - a0_0)) * (wrap64 (a0_3 - a0_1))))) = some r := by rw [if_pos rfl] at H; exact H
    clear H
    have H := H1
    clear H1
    obtain rfl := Option.some.inj H
    go_enter Try.func12, Try.ntmps12
    go_wp2_with (first | ((with_reducible refine gate_dst (N := 1) rfl ?_); refine box_event ?hg (N := 1) ?hd (cs := #[.int .i64 a0_0, .int .i64 a0_1, .int .i64 a0_2, .int .i64 a0_3]) (t := 26) ?hr ?_; (case hd => rfl); (case hg => rfl); (case hr => first | (go_simp; done) | (go_simp; rfl)); intro gb164 hg w4 hbox hb; have n0_ := Aside0.mk (below_step q129_ hb); have n1_ := Aside0.mk (hbox); have n2_ := Aside0.mk ((q104_ : w.heap.size ≤ gb164)); have n3_ := Aside0.mk ((q104_ : w.heap.size ≤ gb164)); clear HB; have HB := n0_; have BK164 := n1_; have GW164 := n2_; have GE164 := n3_; clear n0_ n1_ n2_ n3_; clear hb hbox hg; have hcz5_0 : w4.cell? ⟨gb164, 0, none⟩ = some (.int .i64 a0_0) := (blk_cell BK164.out 0).trans rfl; have hcz5_1 : w4.cell? ⟨gb164, 1, none⟩ = some (.int .i64 a0_1) := (blk_cell BK164.out 1).trans rfl; have hcz5_2 : w4.cell? ⟨gb164, 2, none⟩ = some (.int .i64 a0_2) := (blk_cell BK164.out 2).trans rfl; have hcz5_3 : w4.cell? ⟨gb164, 3, none⟩ = some (.int .i64 a0_3) := (blk_cell BK164.out 3).trans rfl; have hfz5_0 := blk_frozen BK164.out 0; have hfz5_1 := blk_frozen BK164.out 1; have hfz5_2 := blk_frozen BK164.out 2; have hfz5_3 := blk_frozen BK164.out 3) | ((with_reducible refine gate_callee (f := 24) rfl ?_); refine goesL_ (some 4) rfl rfl Try.func24 (by kernel_rfl) rfl #[.agg #[.int .i64 a0_0, .int .i64 a0_1, .int .i64 a0_2, .int .i64 a0_3]] rfl q128_ ?_; (with_reducible refine (rect_Valid.calls a0_0 a0_1 a0_2 a0_3 true _ A2.out).mono ?_); rintro e w6 ⟨rfl, hb⟩; refine ⟨_, rfl, ?_⟩; have n0_ := Aside0.mk (blk_below (g := gb164) (o := .cells #[.int .i64 a0_0, .int .i64 a0_1, .int .i64 a0_2, .int .i64 a0_3] 26 (0, 0)) (by (with_reducible repeat (first | refine blk_drewN ?_ _ | refine blk_drew ?_ | refine blk_alloc ?_ _)); exact BK164.out) hb); have n1_ := Aside0.mk (below_step q108_ hb); clear BK164; clear HB; have BK164 := n0_; have HB := n1_; clear n0_ n1_; (try clear hb); (try clear hb2); (try clear hk); (try clear hi); have hcz7_0 : w6.cell? ⟨gb164, 0, none⟩ = some (.int .i64 a0_0) := (blk_cell BK164.out 0).trans rfl; have hcz7_1 : w6.cell? ⟨gb164, 1, none⟩ = some (.int .i64 a0_1) := (blk_cell BK164.out 1).trans rfl; have hcz7_2 : w6.cell? ⟨gb164, 2, none⟩ = some (.int .i64 a0_2) := (blk_cell BK164.out 2).trans rfl; have hcz7_3 : w6.cell? ⟨gb164, 3, none⟩ = some (.int .i64 a0_3) := (blk_cell BK164.out 3).trans rfl; have hfz7_0 := blk_frozen BK164.out 0; have hfz7_1 := blk_frozen BK164.out 1; have hfz7_2 := blk_frozen BK164.out 2; have hfz7_3 := blk_frozen BK164.out 3))
    go_ret
    exact ⟨q177_, q108_⟩
  · replace c3 := Bool.eq_false_iff.mpr c3
    subst c3
    have H1 : (some 0) = some r := by rw [if_neg (show ¬ (false = true) by decide)] at H; exact H
    clear H
    have H := H1
    clear H1
    obtain rfl := Option.some.inj H
    go_enter Try.func12, Try.ntmps12
    go_wp2_with (first | ((with_reducible refine gate_dst (N := 1) rfl ?_); refine box_event ?hg (N := 1) ?hd (cs := #[.int .i64 a0_0, .int .i64 a0_1, .int .i64 a0_2, .int .i64 a0_3]) (t := 26) ?hr ?_; (case hd => rfl); (case hg => rfl); (case hr => first | (go_simp; done) | (go_simp; rfl)); intro gb164 hg w8 hbox hb; have n0_ := Aside0.mk (below_step q129_ hb); have n1_ := Aside0.mk (hbox); have n2_ := Aside0.mk ((q104_ : w.heap.size ≤ gb164)); have n3_ := Aside0.mk ((q104_ : w.heap.size ≤ gb164)); clear HB; have HB := n0_; have BK164 := n1_; have GW164 := n2_; have GE164 := n3_; clear n0_ n1_ n2_ n3_; clear hb hbox hg; have hcz9_0 : w8.cell? ⟨gb164, 0, none⟩ = some (.int .i64 a0_0) := (blk_cell BK164.out 0).trans rfl; have hcz9_1 : w8.cell? ⟨gb164, 1, none⟩ = some (.int .i64 a0_1) := (blk_cell BK164.out 1).trans rfl; have hcz9_2 : w8.cell? ⟨gb164, 2, none⟩ = some (.int .i64 a0_2) := (blk_cell BK164.out 2).trans rfl; have hcz9_3 : w8.cell? ⟨gb164, 3, none⟩ = some (.int .i64 a0_3) := (blk_cell BK164.out 3).trans rfl; have hfz9_0 := blk_frozen BK164.out 0; have hfz9_1 := blk_frozen BK164.out 1; have hfz9_2 := blk_frozen BK164.out 2; have hfz9_3 := blk_frozen BK164.out 3) | ((with_reducible refine gate_callee (f := 24) rfl ?_); refine goesL_ (some 4) rfl rfl Try.func24 (by kernel_rfl) rfl #[.agg #[.int .i64 a0_0, .int .i64 a0_1, .int .i64 a0_2, .int .i64 a0_3]] rfl q128_ ?_; (with_reducible refine (rect_Valid.calls a0_0 a0_1 a0_2 a0_3 false _ A2.out).mono ?_); rintro e w10 ⟨rfl, hb⟩; refine ⟨_, rfl, ?_⟩; have n0_ := Aside0.mk (blk_below (g := gb164) (o := .cells #[.int .i64 a0_0, .int .i64 a0_1, .int .i64 a0_2, .int .i64 a0_3] 26 (0, 0)) (by (with_reducible repeat (first | refine blk_drewN ?_ _ | refine blk_drew ?_ | refine blk_alloc ?_ _)); exact BK164.out) hb); have n1_ := Aside0.mk (below_step q108_ hb); clear BK164; clear HB; have BK164 := n0_; have HB := n1_; clear n0_ n1_; (try clear hb); (try clear hb2); (try clear hk); (try clear hi)))
    go_ret
    exact ⟨q177_, q108_⟩


def tilefarmlaw2_sane.f (k : Nat)  : Option (Bool) := (rect_Subtract.f k 0 0 4 4 1 1 2 2).bind fun t167 => ((rect_Intersect.f k 0 0 4 4 2 1 9 3).bind fun bt170 => (if (bt170.1 == 2 && (bt170.2.1 == 1 && (bt170.2.2.1 == 4 && (bt170.2.2.2 == 3)))) = true then (if (t167.length : Int) = 4 then (if 1 < (t167.length : Int) then (if (((rd_T26 t167 1).f0) == 0 && (((rd_T26 t167 1).f1) == 1 && (((rd_T26 t167 1).f2) == 1 && (((rd_T26 t167 1).f3) == 2)))) = true then ((rect_Area.f 0 0 4 4).bind fun t175 => (if t175 = 16 then ((rect_Valid.f 0 0 4 4).bind fun t176 => (if t176 = true then ((rect_Empty.f 0 0 0 0).bind fun t177 => (some t177)) else (some false))) else (some false))) else (some false)) else (none)) else (some false)) else (some false)))
theorem tilefarmlaw2_sane.mono : ∀ k, LeO (tilefarmlaw2_sane.f k ) (tilefarmlaw2_sane.f (k + 1) ) := by
  intro  k
  unfold tilefarmlaw2_sane.f
  repeat' first
      | (with_reducible exact rect_Intersect.mono _ _ _ _ _ _ _ _ _)
      | (with_reducible exact rect_Subtract.mono _ _ _ _ _ _ _ _ _)
      | (with_reducible exact LeO.refl _)
      | (with_reducible exact LeO.none _)
      | (with_reducible refine LeO.ite ?_ ?_)
      | (with_reducible refine LeO.bind ?_ (fun _ => ?_))
      | exact rect_Intersect.mono _ _ _ _ _ _ _ _ _
      | exact rect_Subtract.mono _ _ _ _ _ _ _ _ _
      | exact LeO.none _
      | refine LeO.ite ?_ ?_
      | refine LeO.bind ?_ (fun _ => ?_)
set_option maxHeartbeats 8000000 in
set_option maxRecDepth 100000 in
theorem tilefarmlaw2_sane.calls (k : Nat)  (r : Bool) (w : World) (h : tilefarmlaw2_sane.f k  = some r) :
    Calls Try.prog 10 #[] w fun e w' => e = .returned (.bool r) ∧ Below w.heap.size w w' := by
  have hu26 := Try.underlying26
  have HB := Aside0.mk (Below.refl w.heap.size w)
  have H : ((rect_Subtract.f k 0 0 4 4 1 1 2 2).bind fun t167 => ((rect_Intersect.f k 0 0 4 4 2 1 9 3).bind fun bt170 => (if (bt170.1 == 2 && (bt170.2.1 == 1 && (bt170.2.2.1 == 4 && (bt170.2.2.2 == 3)))) = true then (if (t167.length : Int) = 4 then (if 1 < (t167.length : Int) then (if (((rd_T26 t167 1).f0) == 0 && (((rd_T26 t167 1).f1) == 1 && (((rd_T26 t167 1).f2) == 1 && (((rd_T26 t167 1).f3) == 2)))) = true then ((rect_Area.f 0 0 4 4).bind fun t175 => (if t175 = 16 then ((rect_Valid.f 0 0 4 4).bind fun t176 => (if t176 = true then ((rect_Empty.f 0 0 0 0).bind fun t177 => (some t177)) else (some false))) else (some false))) else (some false)) else (none)) else (some false)) else (some false)))) = some r := h
  clear h
  replace H := Option.bind_eq_some_iff.mp H
  obtain ⟨t167, A10, H⟩ := H
  replace H : ((rect_Intersect.f k 0 0 4 4 2 1 9 3).bind fun bt170 => (if (bt170.1 == 2 && (bt170.2.1 == 1 && (bt170.2.2.1 == 4 && (bt170.2.2.2 == 3)))) = true then (if (t167.length : Int) = 4 then (if 1 < (t167.length : Int) then (if (((rd_T26 t167 1).f0) == 0 && (((rd_T26 t167 1).f1) == 1 && (((rd_T26 t167 1).f2) == 1 && (((rd_T26 t167 1).f3) == 2)))) = true then ((rect_Area.f 0 0 4 4).bind fun t175 => (if t175 = 16 then ((rect_Valid.f 0 0 4 4).bind fun t176 => (if t176 = true then ((rect_Empty.f 0 0 0 0).bind fun t177 => (some t177)) else (some false))) else (some false))) else (some false)) else (none)) else (some false)) else (some false))) = some r := H
  have A1 := Aside0.mk A10
  clear A10
  replace H := Option.bind_eq_some_iff.mp H
  obtain ⟨⟨t170, t171, t172, t173⟩, A20, H⟩ := H
  replace H : (if (t170 == 2 && (t171 == 1 && (t172 == 4 && (t173 == 3)))) = true then (if (t167.length : Int) = 4 then (if 1 < (t167.length : Int) then (if (((rd_T26 t167 1).f0) == 0 && (((rd_T26 t167 1).f1) == 1 && (((rd_T26 t167 1).f2) == 1 && (((rd_T26 t167 1).f3) == 2)))) = true then ((rect_Area.f 0 0 4 4).bind fun t175 => (if t175 = 16 then ((rect_Valid.f 0 0 4 4).bind fun t176 => (if t176 = true then ((rect_Empty.f 0 0 0 0).bind fun t177 => (some t177)) else (some false))) else (some false))) else (some false)) else (none)) else (some false)) else (some false)) = some r := H
  have A2 := Aside0.mk A20
  clear A20
  by_cases c3 : (t170 == 2 && (t171 == 1 && (t172 == 4 && (t173 == 3)))) = true
  · rw [if_pos c3] at H
    have c3b0 : (t170 == 2 && (t171 == 1 && (t172 == 4 && (t173 == 3)))) = true := c3
    (try (have c3b1 : decide (t170 = 2 && (t171 == 1 && (t172 == 4 && (t173 == 3)))) = true := by simpa using c3))
    (try (have c3b2 : (t170 == 2 && (t171 == 1 && (t172 == 4 && (t173 == 3)))) = true := by simpa using c3))
    clear c3
    by_cases c4 : (t167.length : Int) = 4
    · rw [if_pos c4] at H
      have c4b0 : ((t167.length : Int) == 4) = true := beq_iff_eq.mpr c4
      have c4b1 : ((t167.length : Int) != 4) = false := bne_eq_false_iff_eq.mpr c4
      clear c4
      by_cases c5 : 1 < (t167.length : Int)
      · rw [if_pos c5] at H
        have c5b0 : decide (1 < (t167.length : Int)) = true := decide_eq_true c5
        have c5b1 : decide (1 < t167.length) = true := decide_eq_true (by omega)
        clear c5
        by_cases c6 : (((rd_T26 t167 1).f0) == 0 && (((rd_T26 t167 1).f1) == 1 && (((rd_T26 t167 1).f2) == 1 && (((rd_T26 t167 1).f3) == 2)))) = true
        · rw [if_pos c6] at H
          have c6b0 : (((rd_T26 t167 1).f0) == 0 && (((rd_T26 t167 1).f1) == 1 && (((rd_T26 t167 1).f2) == 1 && (((rd_T26 t167 1).f3) == 2)))) = true := c6
          (try (have c6b1 : decide (((rd_T26 t167 1).f0) = 0 && (((rd_T26 t167 1).f1) == 1 && (((rd_T26 t167 1).f2) == 1 && (((rd_T26 t167 1).f3) == 2)))) = true := by simpa using c6))
          (try (have c6b2 : (((rd_T26 t167 1).f0) == 0 && (((rd_T26 t167 1).f1) == 1 && (((rd_T26 t167 1).f2) == 1 && (((rd_T26 t167 1).f3) == 2)))) = true := by simpa using c6))
          clear c6
          replace H := Option.bind_eq_some_iff.mp H
          obtain ⟨t175, A70, H⟩ := H
          replace H : (if t175 = 16 then ((rect_Valid.f 0 0 4 4).bind fun t176 => (if t176 = true then ((rect_Empty.f 0 0 0 0).bind fun t177 => (some t177)) else (some false))) else (some false)) = some r := H
          have A7 := Aside0.mk A70
          clear A70
          by_cases c8 : t175 = 16
          · rw [if_pos c8] at H
            have c8b0 : (t175 == 16) = true := beq_iff_eq.mpr c8
            have c8b1 : (t175 != 16) = false := bne_eq_false_iff_eq.mpr c8
            clear c8
            replace H := Option.bind_eq_some_iff.mp H
            obtain ⟨t176, A90, H⟩ := H
            replace H : (if t176 = true then ((rect_Empty.f 0 0 0 0).bind fun t177 => (some t177)) else (some false)) = some r := H
            have A9 := Aside0.mk A90
            clear A90
            by_cases c10 : t176 = true
            · subst c10
              have H1 : ((rect_Empty.f 0 0 0 0).bind fun t177 => (some t177)) = some r := by rw [if_pos rfl] at H; exact H
              clear H
              have H := H1
              clear H1
              replace H := Option.bind_eq_some_iff.mp H
              obtain ⟨t177, A110, H⟩ := H
              replace H : (some t177) = some r := H
              have A11 := Aside0.mk A110
              clear A110
              obtain rfl := Option.some.inj H
              go_enter Try.func10, Try.ntmps10
              go_wp2_with (first | ((with_reducible refine gate_dst (N := 1) rfl ?_); (try (refine gate_guard (by rfl) ?_; dsimp only)); refine box_event ?hg (N := 1) ?hd (cs := #[.int .i64 0, .int .i64 0, .int .i64 0, .int .i64 0]) (t := 26) ?hr ?_; (case hd => rfl); (case hg => rfl); (case hr => first | (go_simp; done) | (go_simp; rfl)); intro gb166 hg w12 hbox hb; have n0_ := Aside0.mk (below_step q129_ hb); have n1_ := Aside0.mk (hbox); have n2_ := Aside0.mk ((q104_ : w.heap.size ≤ gb166)); have n3_ := Aside0.mk ((q104_ : w.heap.size ≤ gb166)); clear HB; have HB := n0_; have BK166 := n1_; have GW166 := n2_; have GE166 := n3_; clear n0_ n1_ n2_ n3_; clear hb hbox hg; have hcz13_0 : w12.cell? ⟨gb166, 0, none⟩ = some (.int .i64 0) := (blk_cell BK166.out 0).trans rfl; have hcz13_1 : w12.cell? ⟨gb166, 1, none⟩ = some (.int .i64 0) := (blk_cell BK166.out 1).trans rfl; have hcz13_2 : w12.cell? ⟨gb166, 2, none⟩ = some (.int .i64 0) := (blk_cell BK166.out 2).trans rfl; have hcz13_3 : w12.cell? ⟨gb166, 3, none⟩ = some (.int .i64 0) := (blk_cell BK166.out 3).trans rfl; have hfz13_0 := blk_frozen BK166.out 0; have hfz13_1 := blk_frozen BK166.out 1; have hfz13_2 := blk_frozen BK166.out 2; have hfz13_3 := blk_frozen BK166.out 3) | ((with_reducible refine gate_callee (f := 11) rfl ?_); refine goesL_ (some 6) rfl rfl Try.func11 (by kernel_rfl) rfl #[.agg #[.int .i64 0, .int .i64 0, .int .i64 4, .int .i64 4], .agg #[.int .i64 1, .int .i64 1, .int .i64 2, .int .i64 2]] rfl q128_ ?_; (with_reducible refine (rect_Subtract.calls k 0 0 4 4 1 1 2 2 t167 _ A1.out).mono ?_); rintro e w14 ⟨v168, rfl, ho0, hb⟩; refine ⟨_, rfl, ?_⟩; have n0_ := Aside0.mk (Kd.R_lower (Kd.R_newB ho0 (g := gb166) (o := .cells #[.int .i64 0, .int .i64 0, .int .i64 4, .int .i64 4] 26 (0, 0)) q6_) (below_size q109_)); have n1_ := Aside0.mk (blk_below (g := gb166) (o := .cells #[.int .i64 0, .int .i64 0, .int .i64 4, .int .i64 4] 26 (0, 0)) q6_ hb); have n2_ := Aside0.mk (below_step q109_ hb); clear BK166; clear HB; have HO169 := n0_; have BK166 := n1_; have HB := n2_; clear n0_ n1_ n2_; (try clear hb); (try clear hb2); (try clear hk); (try clear hi); (try clear ho0); have hcz15_0 : w14.cell? ⟨gb166, 0, none⟩ = some (.int .i64 0) := (blk_cell BK166.out 0).trans rfl; have hcz15_1 : w14.cell? ⟨gb166, 1, none⟩ = some (.int .i64 0) := (blk_cell BK166.out 1).trans rfl; have hcz15_2 : w14.cell? ⟨gb166, 2, none⟩ = some (.int .i64 4) := (blk_cell BK166.out 2).trans rfl; have hcz15_3 : w14.cell? ⟨gb166, 3, none⟩ = some (.int .i64 4) := (blk_cell BK166.out 3).trans rfl; have hfz15_0 := blk_frozen BK166.out 0; have hfz15_1 := blk_frozen BK166.out 1; have hfz15_2 := blk_frozen BK166.out 2; have hfz15_3 := blk_frozen BK166.out 3) | ((with_reducible refine gate_callee (f := 13) rfl ?_); refine goesL_ (some 9) rfl rfl Try.func13 (by kernel_rfl) rfl #[.agg #[.int .i64 0, .int .i64 0, .int .i64 4, .int .i64 4], .agg #[.int .i64 2, .int .i64 1, .int .i64 9, .int .i64 3]] rfl q128_ ?_; (with_reducible refine (rect_Intersect.calls k 0 0 4 4 2 1 9 3 t170 t171 t172 t173 _ A2.out).mono ?_); rintro e w16 ⟨rfl, hb⟩; refine ⟨_, rfl, ?_⟩; have n0_ := Aside0.mk (Kd.R_below q170_ hb); have n1_ := Aside0.mk (blk_below (g := gb166) (o := .cells #[.int .i64 0, .int .i64 0, .int .i64 4, .int .i64 4] 26 (0, 0)) q139_ hb); have n2_ := Aside0.mk (below_step q109_ hb); clear HO169; clear BK166; clear HB; have HO169 := n0_; have BK166 := n1_; have HB := n2_; clear n0_ n1_ n2_; (try clear hb); (try clear hb2); (try clear hk); (try clear hi); obtain ⟨Ao17, co17, eo17⟩ := Kd.R_slice HO169.out; subst eo17; have p174 : 0 ≤ (1 : Int) := (by omega); have q174 : 1 < (t167.length : Int) := of_decide_eq_true q179_; obtain ⟨ad174, e174, hx174_0, hx174_1, hx174_2, hx174_3⟩ := at_T26 (Kd.R_reads' HO169.out).2.2 1 p174 q174; cases e174; (try simp only [show (1 : Int).toNat = 1 from rfl, Nat.reduceMul, Nat.reduceEqDiff, Go.Addr.add, ↓reduceIte] at hx174_0); (try simp only [show (1 : Int).toNat = 1 from rfl, Nat.reduceMul, Nat.reduceEqDiff, Go.Addr.add, ↓reduceIte] at hx174_1); (try simp only [show (1 : Int).toNat = 1 from rfl, Nat.reduceMul, Nat.reduceEqDiff, Go.Addr.add, ↓reduceIte] at hx174_2); (try simp only [show (1 : Int).toNat = 1 from rfl, Nat.reduceMul, Nat.reduceEqDiff, Go.Addr.add, ↓reduceIte] at hx174_3); have qi174 : (1 < t167.length) = True := eq_true (by omega); (try rw [show ((1 : Int)).toNat = 1 from rfl] at hx174_0); (try rw [show 1 * 4 = 4 from rfl] at hx174_0); (try rw [show ((1 : Int)).toNat = 1 from rfl] at hx174_1); (try rw [show 1 * 4 = 4 from rfl] at hx174_1); (try rw [show ((1 : Int)).toNat = 1 from rfl] at hx174_2); (try rw [show 1 * 4 = 4 from rfl] at hx174_2); (try rw [show ((1 : Int)).toNat = 1 from rfl] at hx174_3); (try rw [show 1 * 4 = 4 from rfl] at hx174_3); replace p174 := eq_true p174; replace q174 := eq_true q174; have hcz18_0 : w16.cell? ⟨gb166, 0, none⟩ = some (.int .i64 0) := (blk_cell BK166.out 0).trans rfl; have hcz18_1 : w16.cell? ⟨gb166, 1, none⟩ = some (.int .i64 0) := (blk_cell BK166.out 1).trans rfl; have hcz18_2 : w16.cell? ⟨gb166, 2, none⟩ = some (.int .i64 4) := (blk_cell BK166.out 2).trans rfl; have hcz18_3 : w16.cell? ⟨gb166, 3, none⟩ = some (.int .i64 4) := (blk_cell BK166.out 3).trans rfl; have hfz18_0 := blk_frozen BK166.out 0; have hfz18_1 := blk_frozen BK166.out 1; have hfz18_2 := blk_frozen BK166.out 2; have hfz18_3 := blk_frozen BK166.out 3) | (go_at_call 12; (with_reducible refine (rect_Area.calls 0 0 4 4 t175 _ A7.out).mono ?_); rintro e w19 ⟨rfl, hb⟩; have n0_ := Aside0.mk (Kd.R_below q170_ hb); have n1_ := Aside0.mk (blk_below (g := gb166) (o := .cells #[.int .i64 0, .int .i64 0, .int .i64 4, .int .i64 4] 26 (0, 0)) q139_ hb); have n2_ := Aside0.mk (below_step q109_ hb); clear HO169; clear BK166; clear HB; have HO169 := n0_; have BK166 := n1_; have HB := n2_; clear n0_ n1_ n2_; (try clear hb); (try clear hb2); (try clear hk); (try clear hi); have hcz20_0 : w19.cell? ⟨gb166, 0, none⟩ = some (.int .i64 0) := (blk_cell BK166.out 0).trans rfl; have hcz20_1 : w19.cell? ⟨gb166, 1, none⟩ = some (.int .i64 0) := (blk_cell BK166.out 1).trans rfl; have hcz20_2 : w19.cell? ⟨gb166, 2, none⟩ = some (.int .i64 4) := (blk_cell BK166.out 2).trans rfl; have hcz20_3 : w19.cell? ⟨gb166, 3, none⟩ = some (.int .i64 4) := (blk_cell BK166.out 3).trans rfl; have hfz20_0 := blk_frozen BK166.out 0; have hfz20_1 := blk_frozen BK166.out 1; have hfz20_2 := blk_frozen BK166.out 2; have hfz20_3 := blk_frozen BK166.out 3) | (go_at_call 24; (with_reducible refine (rect_Valid.calls 0 0 4 4 true _ A9.out).mono ?_); rintro e w21 ⟨rfl, hb⟩; have n0_ := Aside0.mk (Kd.R_below q170_ hb); have n1_ := Aside0.mk (blk_below (g := gb166) (o := .cells #[.int .i64 0, .int .i64 0, .int .i64 4, .int .i64 4] 26 (0, 0)) q139_ hb); have n2_ := Aside0.mk (below_step q109_ hb); clear HO169; clear BK166; clear HB; have HO169 := n0_; have BK166 := n1_; have HB := n2_; clear n0_ n1_ n2_; (try clear hb); (try clear hb2); (try clear hk); (try clear hi)) | (go_at_call 25; (with_reducible refine (rect_Empty.calls 0 0 0 0 t177 _ A11.out).mono ?_); rintro e w22 ⟨rfl, hb⟩; have n0_ := Aside0.mk (Kd.R_below q170_ hb); have n1_ := Aside0.mk (blk_below (g := gb166) (o := .cells #[.int .i64 0, .int .i64 0, .int .i64 4, .int .i64 4] 26 (0, 0)) q139_ hb); have n2_ := Aside0.mk (below_step q109_ hb); clear HO169; clear BK166; clear HB; have HO169 := n0_; have BK166 := n1_; have HB := n2_; clear n0_ n1_ n2_; (try clear hb); (try clear hb2); (try clear hk); (try clear hi)))
              go_ret
              exact ⟨q177_, q109_⟩
            · replace c10 := Bool.eq_false_iff.mpr c10
              subst c10
              have H1 : (some false) = some r := by rw [if_neg (show ¬ (false = true) by decide)] at H; exact H
              clear H
              have H := H1
              clear H1
              obtain rfl := Option.some.inj H
              go_enter Try.func10, Try.ntmps10
              go_wp2_with (first | ((with_reducible refine gate_dst (N := 1) rfl ?_); (try (refine gate_guard (by rfl) ?_; dsimp only)); refine box_event ?hg (N := 1) ?hd (cs := #[.int .i64 0, .int .i64 0, .int .i64 0, .int .i64 0]) (t := 26) ?hr ?_; (case hd => rfl); (case hg => rfl); (case hr => first | (go_simp; done) | (go_simp; rfl)); intro gb166 hg w23 hbox hb; have n0_ := Aside0.mk (below_step q129_ hb); have n1_ := Aside0.mk (hbox); have n2_ := Aside0.mk ((q104_ : w.heap.size ≤ gb166)); have n3_ := Aside0.mk ((q104_ : w.heap.size ≤ gb166)); clear HB; have HB := n0_; have BK166 := n1_; have GW166 := n2_; have GE166 := n3_; clear n0_ n1_ n2_ n3_; clear hb hbox hg; have hcz24_0 : w23.cell? ⟨gb166, 0, none⟩ = some (.int .i64 0) := (blk_cell BK166.out 0).trans rfl; have hcz24_1 : w23.cell? ⟨gb166, 1, none⟩ = some (.int .i64 0) := (blk_cell BK166.out 1).trans rfl; have hcz24_2 : w23.cell? ⟨gb166, 2, none⟩ = some (.int .i64 0) := (blk_cell BK166.out 2).trans rfl; have hcz24_3 : w23.cell? ⟨gb166, 3, none⟩ = some (.int .i64 0) := (blk_cell BK166.out 3).trans rfl; have hfz24_0 := blk_frozen BK166.out 0; have hfz24_1 := blk_frozen BK166.out 1; have hfz24_2 := blk_frozen BK166.out 2; have hfz24_3 := blk_frozen BK166.out 3) | ((with_reducible refine gate_callee (f := 11) rfl ?_); refine goesL_ (some 6) rfl rfl Try.func11 (by kernel_rfl) rfl #[.agg #[.int .i64 0, .int .i64 0, .int .i64 4, .int .i64 4], .agg #[.int .i64 1, .int .i64 1, .int .i64 2, .int .i64 2]] rfl q128_ ?_; (with_reducible refine (rect_Subtract.calls k 0 0 4 4 1 1 2 2 t167 _ A1.out).mono ?_); rintro e w25 ⟨v168, rfl, ho0, hb⟩; refine ⟨_, rfl, ?_⟩; have n0_ := Aside0.mk (Kd.R_lower (Kd.R_newB ho0 (g := gb166) (o := .cells #[.int .i64 0, .int .i64 0, .int .i64 4, .int .i64 4] 26 (0, 0)) q6_) (below_size q109_)); have n1_ := Aside0.mk (blk_below (g := gb166) (o := .cells #[.int .i64 0, .int .i64 0, .int .i64 4, .int .i64 4] 26 (0, 0)) q6_ hb); have n2_ := Aside0.mk (below_step q109_ hb); clear BK166; clear HB; have HO169 := n0_; have BK166 := n1_; have HB := n2_; clear n0_ n1_ n2_; (try clear hb); (try clear hb2); (try clear hk); (try clear hi); (try clear ho0); have hcz26_0 : w25.cell? ⟨gb166, 0, none⟩ = some (.int .i64 0) := (blk_cell BK166.out 0).trans rfl; have hcz26_1 : w25.cell? ⟨gb166, 1, none⟩ = some (.int .i64 0) := (blk_cell BK166.out 1).trans rfl; have hcz26_2 : w25.cell? ⟨gb166, 2, none⟩ = some (.int .i64 4) := (blk_cell BK166.out 2).trans rfl; have hcz26_3 : w25.cell? ⟨gb166, 3, none⟩ = some (.int .i64 4) := (blk_cell BK166.out 3).trans rfl; have hfz26_0 := blk_frozen BK166.out 0; have hfz26_1 := blk_frozen BK166.out 1; have hfz26_2 := blk_frozen BK166.out 2; have hfz26_3 := blk_frozen BK166.out 3) | ((with_reducible refine gate_callee (f := 13) rfl ?_); refine goesL_ (some 9) rfl rfl Try.func13 (by kernel_rfl) rfl #[.agg #[.int .i64 0, .int .i64 0, .int .i64 4, .int .i64 4], .agg #[.int .i64 2, .int .i64 1, .int .i64 9, .int .i64 3]] rfl q128_ ?_; (with_reducible refine (rect_Intersect.calls k 0 0 4 4 2 1 9 3 t170 t171 t172 t173 _ A2.out).mono ?_); rintro e w27 ⟨rfl, hb⟩; refine ⟨_, rfl, ?_⟩; have n0_ := Aside0.mk (Kd.R_below q170_ hb); have n1_ := Aside0.mk (blk_below (g := gb166) (o := .cells #[.int .i64 0, .int .i64 0, .int .i64 4, .int .i64 4] 26 (0, 0)) q139_ hb); have n2_ := Aside0.mk (below_step q109_ hb); clear HO169; clear BK166; clear HB; have HO169 := n0_; have BK166 := n1_; have HB := n2_; clear n0_ n1_ n2_; (try clear hb); (try clear hb2); (try clear hk); (try clear hi); obtain ⟨Ao28, co28, eo28⟩ := Kd.R_slice HO169.out; subst eo28; have p174 : 0 ≤ (1 : Int) := (by omega); have q174 : 1 < (t167.length : Int) := of_decide_eq_true q179_; obtain ⟨ad174, e174, hx174_0, hx174_1, hx174_2, hx174_3⟩ := at_T26 (Kd.R_reads' HO169.out).2.2 1 p174 q174; cases e174; (try simp only [show (1 : Int).toNat = 1 from rfl, Nat.reduceMul, Nat.reduceEqDiff, Go.Addr.add, ↓reduceIte] at hx174_0); (try simp only [show (1 : Int).toNat = 1 from rfl, Nat.reduceMul, Nat.reduceEqDiff, Go.Addr.add, ↓reduceIte] at hx174_1); (try simp only [show (1 : Int).toNat = 1 from rfl, Nat.reduceMul, Nat.reduceEqDiff, Go.Addr.add, ↓reduceIte] at hx174_2); (try simp only [show (1 : Int).toNat = 1 from rfl, Nat.reduceMul, Nat.reduceEqDiff, Go.Addr.add, ↓reduceIte] at hx174_3); have qi174 : (1 < t167.length) = True := eq_true (by omega); (try rw [show ((1 : Int)).toNat = 1 from rfl] at hx174_0); (try rw [show 1 * 4 = 4 from rfl] at hx174_0); (try rw [show ((1 : Int)).toNat = 1 from rfl] at hx174_1); (try rw [show 1 * 4 = 4 from rfl] at hx174_1); (try rw [show ((1 : Int)).toNat = 1 from rfl] at hx174_2); (try rw [show 1 * 4 = 4 from rfl] at hx174_2); (try rw [show ((1 : Int)).toNat = 1 from rfl] at hx174_3); (try rw [show 1 * 4 = 4 from rfl] at hx174_3); replace p174 := eq_true p174; replace q174 := eq_true q174; have hcz29_0 : w27.cell? ⟨gb166, 0, none⟩ = some (.int .i64 0) := (blk_cell BK166.out 0).trans rfl; have hcz29_1 : w27.cell? ⟨gb166, 1, none⟩ = some (.int .i64 0) := (blk_cell BK166.out 1).trans rfl; have hcz29_2 : w27.cell? ⟨gb166, 2, none⟩ = some (.int .i64 4) := (blk_cell BK166.out 2).trans rfl; have hcz29_3 : w27.cell? ⟨gb166, 3, none⟩ = some (.int .i64 4) := (blk_cell BK166.out 3).trans rfl; have hfz29_0 := blk_frozen BK166.out 0; have hfz29_1 := blk_frozen BK166.out 1; have hfz29_2 := blk_frozen BK166.out 2; have hfz29_3 := blk_frozen BK166.out 3) | (go_at_call 12; (with_reducible refine (rect_Area.calls 0 0 4 4 t175 _ A7.out).mono ?_); rintro e w30 ⟨rfl, hb⟩; have n0_ := Aside0.mk (Kd.R_below q170_ hb); have n1_ := Aside0.mk (blk_below (g := gb166) (o := .cells #[.int .i64 0, .int .i64 0, .int .i64 4, .int .i64 4] 26 (0, 0)) q139_ hb); have n2_ := Aside0.mk (below_step q109_ hb); clear HO169; clear BK166; clear HB; have HO169 := n0_; have BK166 := n1_; have HB := n2_; clear n0_ n1_ n2_; (try clear hb); (try clear hb2); (try clear hk); (try clear hi); have hcz31_0 : w30.cell? ⟨gb166, 0, none⟩ = some (.int .i64 0) := (blk_cell BK166.out 0).trans rfl; have hcz31_1 : w30.cell? ⟨gb166, 1, none⟩ = some (.int .i64 0) := (blk_cell BK166.out 1).trans rfl; have hcz31_2 : w30.cell? ⟨gb166, 2, none⟩ = some (.int .i64 4) := (blk_cell BK166.out 2).trans rfl; have hcz31_3 : w30.cell? ⟨gb166, 3, none⟩ = some (.int .i64 4) := (blk_cell BK166.out 3).trans rfl; have hfz31_0 := blk_frozen BK166.out 0; have hfz31_1 := blk_frozen BK166.out 1; have hfz31_2 := blk_frozen BK166.out 2; have hfz31_3 := blk_frozen BK166.out 3) | (go_at_call 24; (with_reducible refine (rect_Valid.calls 0 0 4 4 false _ A9.out).mono ?_); rintro e w32 ⟨rfl, hb⟩; have n0_ := Aside0.mk (Kd.R_below q170_ hb); have n1_ := Aside0.mk (blk_below (g := gb166) (o := .cells #[.int .i64 0, .int .i64 0, .int .i64 4, .int .i64 4] 26 (0, 0)) q139_ hb); have n2_ := Aside0.mk (below_step q109_ hb); clear HO169; clear BK166; clear HB; have HO169 := n0_; have BK166 := n1_; have HB := n2_; clear n0_ n1_ n2_; (try clear hb); (try clear hb2); (try clear hk); (try clear hi)))
              go_ret
              exact ⟨q177_, q109_⟩
          · rw [if_neg c8] at H
            have c8b0 : (t175 == 16) = false := beq_eq_false_iff_ne.mpr c8
            have c8b1 : (t175 != 16) = true := bne_iff_ne.mpr c8
            obtain rfl := Option.some.inj H
            go_enter Try.func10, Try.ntmps10
            go_wp2_with (first | ((with_reducible refine gate_dst (N := 1) rfl ?_); (try (refine gate_guard (by rfl) ?_; dsimp only)); refine box_event ?hg (N := 1) ?hd (cs := #[.int .i64 0, .int .i64 0, .int .i64 0, .int .i64 0]) (t := 26) ?hr ?_; (case hd => rfl); (case hg => rfl); (case hr => first | (go_simp; done) | (go_simp; rfl)); intro gb166 hg w33 hbox hb; have n0_ := Aside0.mk (below_step q129_ hb); have n1_ := Aside0.mk (hbox); have n2_ := Aside0.mk ((q104_ : w.heap.size ≤ gb166)); have n3_ := Aside0.mk ((q104_ : w.heap.size ≤ gb166)); clear HB; have HB := n0_; have BK166 := n1_; have GW166 := n2_; have GE166 := n3_; clear n0_ n1_ n2_ n3_; clear hb hbox hg; have hcz34_0 : w33.cell? ⟨gb166, 0, none⟩ = some (.int .i64 0) := (blk_cell BK166.out 0).trans rfl; have hcz34_1 : w33.cell? ⟨gb166, 1, none⟩ = some (.int .i64 0) := (blk_cell BK166.out 1).trans rfl; have hcz34_2 : w33.cell? ⟨gb166, 2, none⟩ = some (.int .i64 0) := (blk_cell BK166.out 2).trans rfl; have hcz34_3 : w33.cell? ⟨gb166, 3, none⟩ = some (.int .i64 0) := (blk_cell BK166.out 3).trans rfl; have hfz34_0 := blk_frozen BK166.out 0; have hfz34_1 := blk_frozen BK166.out 1; have hfz34_2 := blk_frozen BK166.out 2; have hfz34_3 := blk_frozen BK166.out 3) | ((with_reducible refine gate_callee (f := 11) rfl ?_); refine goesL_ (some 6) rfl rfl Try.func11 (by kernel_rfl) rfl #[.agg #[.int .i64 0, .int .i64 0, .int .i64 4, .int .i64 4], .agg #[.int .i64 1, .int .i64 1, .int .i64 2, .int .i64 2]] rfl q128_ ?_; (with_reducible refine (rect_Subtract.calls k 0 0 4 4 1 1 2 2 t167 _ A1.out).mono ?_); rintro e w35 ⟨v168, rfl, ho0, hb⟩; refine ⟨_, rfl, ?_⟩; have n0_ := Aside0.mk (Kd.R_lower (Kd.R_newB ho0 (g := gb166) (o := .cells #[.int .i64 0, .int .i64 0, .int .i64 4, .int .i64 4] 26 (0, 0)) q6_) (below_size q109_)); have n1_ := Aside0.mk (blk_below (g := gb166) (o := .cells #[.int .i64 0, .int .i64 0, .int .i64 4, .int .i64 4] 26 (0, 0)) q6_ hb); have n2_ := Aside0.mk (below_step q109_ hb); clear BK166; clear HB; have HO169 := n0_; have BK166 := n1_; have HB := n2_; clear n0_ n1_ n2_; (try clear hb); (try clear hb2); (try clear hk); (try clear hi); (try clear ho0); have hcz36_0 : w35.cell? ⟨gb166, 0, none⟩ = some (.int .i64 0) := (blk_cell BK166.out 0).trans rfl; have hcz36_1 : w35.cell? ⟨gb166, 1, none⟩ = some (.int .i64 0) := (blk_cell BK166.out 1).trans rfl; have hcz36_2 : w35.cell? ⟨gb166, 2, none⟩ = some (.int .i64 4) := (blk_cell BK166.out 2).trans rfl; have hcz36_3 : w35.cell? ⟨gb166, 3, none⟩ = some (.int .i64 4) := (blk_cell BK166.out 3).trans rfl; have hfz36_0 := blk_frozen BK166.out 0; have hfz36_1 := blk_frozen BK166.out 1; have hfz36_2 := blk_frozen BK166.out 2; have hfz36_3 := blk_frozen BK166.out 3) | ((with_reducible refine gate_callee (f := 13) rfl ?_); refine goesL_ (some 9) rfl rfl Try.func13 (by kernel_rfl) rfl #[.agg #[.int .i64 0, .int .i64 0, .int .i64 4, .int .i64 4], .agg #[.int .i64 2, .int .i64 1, .int .i64 9, .int .i64 3]] rfl q128_ ?_; (with_reducible refine (rect_Intersect.calls k 0 0 4 4 2 1 9 3 t170 t171 t172 t173 _ A2.out).mono ?_); rintro e w37 ⟨rfl, hb⟩; refine ⟨_, rfl, ?_⟩; have n0_ := Aside0.mk (Kd.R_below q170_ hb); have n1_ := Aside0.mk (blk_below (g := gb166) (o := .cells #[.int .i64 0, .int .i64 0, .int .i64 4, .int .i64 4] 26 (0, 0)) q139_ hb); have n2_ := Aside0.mk (below_step q109_ hb); clear HO169; clear BK166; clear HB; have HO169 := n0_; have BK166 := n1_; have HB := n2_; clear n0_ n1_ n2_; (try clear hb); (try clear hb2); (try clear hk); (try clear hi); obtain ⟨Ao38, co38, eo38⟩ := Kd.R_slice HO169.out; subst eo38; have p174 : 0 ≤ (1 : Int) := (by omega); have q174 : 1 < (t167.length : Int) := of_decide_eq_true q179_; obtain ⟨ad174, e174, hx174_0, hx174_1, hx174_2, hx174_3⟩ := at_T26 (Kd.R_reads' HO169.out).2.2 1 p174 q174; cases e174; (try simp only [show (1 : Int).toNat = 1 from rfl, Nat.reduceMul, Nat.reduceEqDiff, Go.Addr.add, ↓reduceIte] at hx174_0); (try simp only [show (1 : Int).toNat = 1 from rfl, Nat.reduceMul, Nat.reduceEqDiff, Go.Addr.add, ↓reduceIte] at hx174_1); (try simp only [show (1 : Int).toNat = 1 from rfl, Nat.reduceMul, Nat.reduceEqDiff, Go.Addr.add, ↓reduceIte] at hx174_2); (try simp only [show (1 : Int).toNat = 1 from rfl, Nat.reduceMul, Nat.reduceEqDiff, Go.Addr.add, ↓reduceIte] at hx174_3); have qi174 : (1 < t167.length) = True := eq_true (by omega); (try rw [show ((1 : Int)).toNat = 1 from rfl] at hx174_0); (try rw [show 1 * 4 = 4 from rfl] at hx174_0); (try rw [show ((1 : Int)).toNat = 1 from rfl] at hx174_1); (try rw [show 1 * 4 = 4 from rfl] at hx174_1); (try rw [show ((1 : Int)).toNat = 1 from rfl] at hx174_2); (try rw [show 1 * 4 = 4 from rfl] at hx174_2); (try rw [show ((1 : Int)).toNat = 1 from rfl] at hx174_3); (try rw [show 1 * 4 = 4 from rfl] at hx174_3); replace p174 := eq_true p174; replace q174 := eq_true q174; have hcz39_0 : w37.cell? ⟨gb166, 0, none⟩ = some (.int .i64 0) := (blk_cell BK166.out 0).trans rfl; have hcz39_1 : w37.cell? ⟨gb166, 1, none⟩ = some (.int .i64 0) := (blk_cell BK166.out 1).trans rfl; have hcz39_2 : w37.cell? ⟨gb166, 2, none⟩ = some (.int .i64 4) := (blk_cell BK166.out 2).trans rfl; have hcz39_3 : w37.cell? ⟨gb166, 3, none⟩ = some (.int .i64 4) := (blk_cell BK166.out 3).trans rfl; have hfz39_0 := blk_frozen BK166.out 0; have hfz39_1 := blk_frozen BK166.out 1; have hfz39_2 := blk_frozen BK166.out 2; have hfz39_3 := blk_frozen BK166.out 3) | (go_at_call 12; (with_reducible refine (rect_Area.calls 0 0 4 4 t175 _ A7.out).mono ?_); rintro e w40 ⟨rfl, hb⟩; have n0_ := Aside0.mk (Kd.R_below q170_ hb); have n1_ := Aside0.mk (blk_below (g := gb166) (o := .cells #[.int .i64 0, .int .i64 0, .int .i64 4, .int .i64 4] 26 (0, 0)) q139_ hb); have n2_ := Aside0.mk (below_step q109_ hb); clear HO169; clear BK166; clear HB; have HO169 := n0_; have BK166 := n1_; have HB := n2_; clear n0_ n1_ n2_; (try clear hb); (try clear hb2); (try clear hk); (try clear hi)))
            go_ret
            exact ⟨q177_, q109_⟩
        · rw [if_neg c6] at H
          have c6b0 : (((rd_T26 t167 1).f0) == 0 && (((rd_T26 t167 1).f1) == 1 && (((rd_T26 t167 1).f2) == 1 && (((rd_T26 t167 1).f3) == 2)))) = false := by simpa using c6
          (try (have c6b1 : decide (((rd_T26 t167 1).f0) = 0 && (((rd_T26 t167 1).f1) == 1 && (((rd_T26 t167 1).f2) == 1 && (((rd_T26 t167 1).f3) == 2)))) = false := by simpa using c6))
          (try (have c6b2 : (((rd_T26 t167 1).f0) == 0 && (((rd_T26 t167 1).f1) == 1 && (((rd_T26 t167 1).f2) == 1 && (((rd_T26 t167 1).f3) == 2)))) = false := by simpa using c6))
          (try (have c6b3 : ¬ (((rd_T26 t167 1).f0) = 0 && (((rd_T26 t167 1).f1) == 1 && (((rd_T26 t167 1).f2) == 1 && (((rd_T26 t167 1).f3) == 2)))) := by simpa using c6))
          clear c6
          obtain rfl := Option.some.inj H
          go_enter Try.func10, Try.ntmps10
          go_wp2_with (first | ((with_reducible refine gate_dst (N := 1) rfl ?_); (try (refine gate_guard (by rfl) ?_; dsimp only)); refine box_event ?hg (N := 1) ?hd (cs := #[.int .i64 0, .int .i64 0, .int .i64 0, .int .i64 0]) (t := 26) ?hr ?_; (case hd => rfl); (case hg => rfl); (case hr => first | (go_simp; done) | (go_simp; rfl)); intro gb166 hg w41 hbox hb; have n0_ := Aside0.mk (below_step q129_ hb); have n1_ := Aside0.mk (hbox); have n2_ := Aside0.mk ((q104_ : w.heap.size ≤ gb166)); have n3_ := Aside0.mk ((q104_ : w.heap.size ≤ gb166)); clear HB; have HB := n0_; have BK166 := n1_; have GW166 := n2_; have GE166 := n3_; clear n0_ n1_ n2_ n3_; clear hb hbox hg; have hcz42_0 : w41.cell? ⟨gb166, 0, none⟩ = some (.int .i64 0) := (blk_cell BK166.out 0).trans rfl; have hcz42_1 : w41.cell? ⟨gb166, 1, none⟩ = some (.int .i64 0) := (blk_cell BK166.out 1).trans rfl; have hcz42_2 : w41.cell? ⟨gb166, 2, none⟩ = some (.int .i64 0) := (blk_cell BK166.out 2).trans rfl; have hcz42_3 : w41.cell? ⟨gb166, 3, none⟩ = some (.int .i64 0) := (blk_cell BK166.out 3).trans rfl; have hfz42_0 := blk_frozen BK166.out 0; have hfz42_1 := blk_frozen BK166.out 1; have hfz42_2 := blk_frozen BK166.out 2; have hfz42_3 := blk_frozen BK166.out 3) | ((with_reducible refine gate_callee (f := 11) rfl ?_); refine goesL_ (some 6) rfl rfl Try.func11 (by kernel_rfl) rfl #[.agg #[.int .i64 0, .int .i64 0, .int .i64 4, .int .i64 4], .agg #[.int .i64 1, .int .i64 1, .int .i64 2, .int .i64 2]] rfl q128_ ?_; (with_reducible refine (rect_Subtract.calls k 0 0 4 4 1 1 2 2 t167 _ A1.out).mono ?_); rintro e w43 ⟨v168, rfl, ho0, hb⟩; refine ⟨_, rfl, ?_⟩; have n0_ := Aside0.mk (Kd.R_lower (Kd.R_newB ho0 (g := gb166) (o := .cells #[.int .i64 0, .int .i64 0, .int .i64 4, .int .i64 4] 26 (0, 0)) q6_) (below_size q109_)); have n1_ := Aside0.mk (blk_below (g := gb166) (o := .cells #[.int .i64 0, .int .i64 0, .int .i64 4, .int .i64 4] 26 (0, 0)) q6_ hb); have n2_ := Aside0.mk (below_step q109_ hb); clear BK166; clear HB; have HO169 := n0_; have BK166 := n1_; have HB := n2_; clear n0_ n1_ n2_; (try clear hb); (try clear hb2); (try clear hk); (try clear hi); (try clear ho0); have hcz44_0 : w43.cell? ⟨gb166, 0, none⟩ = some (.int .i64 0) := (blk_cell BK166.out 0).trans rfl; have hcz44_1 : w43.cell? ⟨gb166, 1, none⟩ = some (.int .i64 0) := (blk_cell BK166.out 1).trans rfl; have hcz44_2 : w43.cell? ⟨gb166, 2, none⟩ = some (.int .i64 4) := (blk_cell BK166.out 2).trans rfl; have hcz44_3 : w43.cell? ⟨gb166, 3, none⟩ = some (.int .i64 4) := (blk_cell BK166.out 3).trans rfl; have hfz44_0 := blk_frozen BK166.out 0; have hfz44_1 := blk_frozen BK166.out 1; have hfz44_2 := blk_frozen BK166.out 2; have hfz44_3 := blk_frozen BK166.out 3) | ((with_reducible refine gate_callee (f := 13) rfl ?_); refine goesL_ (some 9) rfl rfl Try.func13 (by kernel_rfl) rfl #[.agg #[.int .i64 0, .int .i64 0, .int .i64 4, .int .i64 4], .agg #[.int .i64 2, .int .i64 1, .int .i64 9, .int .i64 3]] rfl q128_ ?_; (with_reducible refine (rect_Intersect.calls k 0 0 4 4 2 1 9 3 t170 t171 t172 t173 _ A2.out).mono ?_); rintro e w45 ⟨rfl, hb⟩; refine ⟨_, rfl, ?_⟩; have n0_ := Aside0.mk (Kd.R_below q170_ hb); have n1_ := Aside0.mk (blk_below (g := gb166) (o := .cells #[.int .i64 0, .int .i64 0, .int .i64 4, .int .i64 4] 26 (0, 0)) q139_ hb); have n2_ := Aside0.mk (below_step q109_ hb); clear HO169; clear BK166; clear HB; have HO169 := n0_; have BK166 := n1_; have HB := n2_; clear n0_ n1_ n2_; (try clear hb); (try clear hb2); (try clear hk); (try clear hi); obtain ⟨Ao46, co46, eo46⟩ := Kd.R_slice HO169.out; subst eo46; have p174 : 0 ≤ (1 : Int) := (by omega); have q174 : 1 < (t167.length : Int) := of_decide_eq_true q179_; obtain ⟨ad174, e174, hx174_0, hx174_1, hx174_2, hx174_3⟩ := at_T26 (Kd.R_reads' HO169.out).2.2 1 p174 q174; cases e174; (try simp only [show (1 : Int).toNat = 1 from rfl, Nat.reduceMul, Nat.reduceEqDiff, Go.Addr.add, ↓reduceIte] at hx174_0); (try simp only [show (1 : Int).toNat = 1 from rfl, Nat.reduceMul, Nat.reduceEqDiff, Go.Addr.add, ↓reduceIte] at hx174_1); (try simp only [show (1 : Int).toNat = 1 from rfl, Nat.reduceMul, Nat.reduceEqDiff, Go.Addr.add, ↓reduceIte] at hx174_2); (try simp only [show (1 : Int).toNat = 1 from rfl, Nat.reduceMul, Nat.reduceEqDiff, Go.Addr.add, ↓reduceIte] at hx174_3); have qi174 : (1 < t167.length) = True := eq_true (by omega); (try rw [show ((1 : Int)).toNat = 1 from rfl] at hx174_0); (try rw [show 1 * 4 = 4 from rfl] at hx174_0); (try rw [show ((1 : Int)).toNat = 1 from rfl] at hx174_1); (try rw [show 1 * 4 = 4 from rfl] at hx174_1); (try rw [show ((1 : Int)).toNat = 1 from rfl] at hx174_2); (try rw [show 1 * 4 = 4 from rfl] at hx174_2); (try rw [show ((1 : Int)).toNat = 1 from rfl] at hx174_3); (try rw [show 1 * 4 = 4 from rfl] at hx174_3); replace p174 := eq_true p174; replace q174 := eq_true q174))
          go_ret
          exact ⟨q177_, q109_⟩
      · rw [if_neg c5] at H
        exact absurd H (by simp)
    · rw [if_neg c4] at H
      have c4b0 : ((t167.length : Int) == 4) = false := beq_eq_false_iff_ne.mpr c4
      have c4b1 : ((t167.length : Int) != 4) = true := bne_iff_ne.mpr c4
      obtain rfl := Option.some.inj H
      go_enter Try.func10, Try.ntmps10
      go_wp2_with (first | ((with_reducible refine gate_dst (N := 1) rfl ?_); (try (refine gate_guard (by rfl) ?_; dsimp only)); refine box_event ?hg (N := 1) ?hd (cs := #[.int .i64 0, .int .i64 0, .int .i64 0, .int .i64 0]) (t := 26) ?hr ?_; (case hd => rfl); (case hg => rfl); (case hr => first | (go_simp; done) | (go_simp; rfl)); intro gb166 hg w47 hbox hb; have n0_ := Aside0.mk (below_step q129_ hb); have n1_ := Aside0.mk (hbox); have n2_ := Aside0.mk ((q104_ : w.heap.size ≤ gb166)); have n3_ := Aside0.mk ((q104_ : w.heap.size ≤ gb166)); clear HB; have HB := n0_; have BK166 := n1_; have GW166 := n2_; have GE166 := n3_; clear n0_ n1_ n2_ n3_; clear hb hbox hg; have hcz48_0 : w47.cell? ⟨gb166, 0, none⟩ = some (.int .i64 0) := (blk_cell BK166.out 0).trans rfl; have hcz48_1 : w47.cell? ⟨gb166, 1, none⟩ = some (.int .i64 0) := (blk_cell BK166.out 1).trans rfl; have hcz48_2 : w47.cell? ⟨gb166, 2, none⟩ = some (.int .i64 0) := (blk_cell BK166.out 2).trans rfl; have hcz48_3 : w47.cell? ⟨gb166, 3, none⟩ = some (.int .i64 0) := (blk_cell BK166.out 3).trans rfl; have hfz48_0 := blk_frozen BK166.out 0; have hfz48_1 := blk_frozen BK166.out 1; have hfz48_2 := blk_frozen BK166.out 2; have hfz48_3 := blk_frozen BK166.out 3) | ((with_reducible refine gate_callee (f := 11) rfl ?_); refine goesL_ (some 6) rfl rfl Try.func11 (by kernel_rfl) rfl #[.agg #[.int .i64 0, .int .i64 0, .int .i64 4, .int .i64 4], .agg #[.int .i64 1, .int .i64 1, .int .i64 2, .int .i64 2]] rfl q128_ ?_; (with_reducible refine (rect_Subtract.calls k 0 0 4 4 1 1 2 2 t167 _ A1.out).mono ?_); rintro e w49 ⟨v168, rfl, ho0, hb⟩; refine ⟨_, rfl, ?_⟩; have n0_ := Aside0.mk (Kd.R_lower (Kd.R_newB ho0 (g := gb166) (o := .cells #[.int .i64 0, .int .i64 0, .int .i64 4, .int .i64 4] 26 (0, 0)) q6_) (below_size q109_)); have n1_ := Aside0.mk (blk_below (g := gb166) (o := .cells #[.int .i64 0, .int .i64 0, .int .i64 4, .int .i64 4] 26 (0, 0)) q6_ hb); have n2_ := Aside0.mk (below_step q109_ hb); clear BK166; clear HB; have HO169 := n0_; have BK166 := n1_; have HB := n2_; clear n0_ n1_ n2_; (try clear hb); (try clear hb2); (try clear hk); (try clear hi); (try clear ho0); have hcz50_0 : w49.cell? ⟨gb166, 0, none⟩ = some (.int .i64 0) := (blk_cell BK166.out 0).trans rfl; have hcz50_1 : w49.cell? ⟨gb166, 1, none⟩ = some (.int .i64 0) := (blk_cell BK166.out 1).trans rfl; have hcz50_2 : w49.cell? ⟨gb166, 2, none⟩ = some (.int .i64 4) := (blk_cell BK166.out 2).trans rfl; have hcz50_3 : w49.cell? ⟨gb166, 3, none⟩ = some (.int .i64 4) := (blk_cell BK166.out 3).trans rfl; have hfz50_0 := blk_frozen BK166.out 0; have hfz50_1 := blk_frozen BK166.out 1; have hfz50_2 := blk_frozen BK166.out 2; have hfz50_3 := blk_frozen BK166.out 3) | ((with_reducible refine gate_callee (f := 13) rfl ?_); refine goesL_ (some 9) rfl rfl Try.func13 (by kernel_rfl) rfl #[.agg #[.int .i64 0, .int .i64 0, .int .i64 4, .int .i64 4], .agg #[.int .i64 2, .int .i64 1, .int .i64 9, .int .i64 3]] rfl q128_ ?_; (with_reducible refine (rect_Intersect.calls k 0 0 4 4 2 1 9 3 t170 t171 t172 t173 _ A2.out).mono ?_); rintro e w51 ⟨rfl, hb⟩; refine ⟨_, rfl, ?_⟩; have n0_ := Aside0.mk (Kd.R_below q170_ hb); have n1_ := Aside0.mk (blk_below (g := gb166) (o := .cells #[.int .i64 0, .int .i64 0, .int .i64 4, .int .i64 4] 26 (0, 0)) q139_ hb); have n2_ := Aside0.mk (below_step q109_ hb); clear HO169; clear BK166; clear HB; have HO169 := n0_; have BK166 := n1_; have HB := n2_; clear n0_ n1_ n2_; (try clear hb); (try clear hb2); (try clear hk); (try clear hi); obtain ⟨Ao52, co52, eo52⟩ := Kd.R_slice HO169.out; subst eo52))
      go_ret
      exact ⟨q177_, q109_⟩
  · rw [if_neg c3] at H
    have c3b0 : (t170 == 2 && (t171 == 1 && (t172 == 4 && (t173 == 3)))) = false := by simpa using c3
    (try (have c3b1 : decide (t170 = 2 && (t171 == 1 && (t172 == 4 && (t173 == 3)))) = false := by simpa using c3))
    (try (have c3b2 : (t170 == 2 && (t171 == 1 && (t172 == 4 && (t173 == 3)))) = false := by simpa using c3))
    (try (have c3b3 : ¬ (t170 = 2 && (t171 == 1 && (t172 == 4 && (t173 == 3)))) := by simpa using c3))
    clear c3
    obtain rfl := Option.some.inj H
    go_enter Try.func10, Try.ntmps10
    go_wp2_with (first | ((with_reducible refine gate_dst (N := 1) rfl ?_); (try (refine gate_guard (by rfl) ?_; dsimp only)); refine box_event ?hg (N := 1) ?hd (cs := #[.int .i64 0, .int .i64 0, .int .i64 0, .int .i64 0]) (t := 26) ?hr ?_; (case hd => rfl); (case hg => rfl); (case hr => first | (go_simp; done) | (go_simp; rfl)); intro gb166 hg w53 hbox hb; have n0_ := Aside0.mk (below_step q129_ hb); have n1_ := Aside0.mk (hbox); have n2_ := Aside0.mk ((q104_ : w.heap.size ≤ gb166)); have n3_ := Aside0.mk ((q104_ : w.heap.size ≤ gb166)); clear HB; have HB := n0_; have BK166 := n1_; have GW166 := n2_; have GE166 := n3_; clear n0_ n1_ n2_ n3_; clear hb hbox hg; have hcz54_0 : w53.cell? ⟨gb166, 0, none⟩ = some (.int .i64 0) := (blk_cell BK166.out 0).trans rfl; have hcz54_1 : w53.cell? ⟨gb166, 1, none⟩ = some (.int .i64 0) := (blk_cell BK166.out 1).trans rfl; have hcz54_2 : w53.cell? ⟨gb166, 2, none⟩ = some (.int .i64 0) := (blk_cell BK166.out 2).trans rfl; have hcz54_3 : w53.cell? ⟨gb166, 3, none⟩ = some (.int .i64 0) := (blk_cell BK166.out 3).trans rfl; have hfz54_0 := blk_frozen BK166.out 0; have hfz54_1 := blk_frozen BK166.out 1; have hfz54_2 := blk_frozen BK166.out 2; have hfz54_3 := blk_frozen BK166.out 3) | ((with_reducible refine gate_callee (f := 11) rfl ?_); refine goesL_ (some 6) rfl rfl Try.func11 (by kernel_rfl) rfl #[.agg #[.int .i64 0, .int .i64 0, .int .i64 4, .int .i64 4], .agg #[.int .i64 1, .int .i64 1, .int .i64 2, .int .i64 2]] rfl q128_ ?_; (with_reducible refine (rect_Subtract.calls k 0 0 4 4 1 1 2 2 t167 _ A1.out).mono ?_); rintro e w55 ⟨v168, rfl, ho0, hb⟩; refine ⟨_, rfl, ?_⟩; have n0_ := Aside0.mk (Kd.R_lower (Kd.R_newB ho0 (g := gb166) (o := .cells #[.int .i64 0, .int .i64 0, .int .i64 4, .int .i64 4] 26 (0, 0)) q6_) (below_size q109_)); have n1_ := Aside0.mk (blk_below (g := gb166) (o := .cells #[.int .i64 0, .int .i64 0, .int .i64 4, .int .i64 4] 26 (0, 0)) q6_ hb); have n2_ := Aside0.mk (below_step q109_ hb); clear BK166; clear HB; have HO169 := n0_; have BK166 := n1_; have HB := n2_; clear n0_ n1_ n2_; (try clear hb); (try clear hb2); (try clear hk); (try clear hi); (try clear ho0); have hcz56_0 : w55.cell? ⟨gb166, 0, none⟩ = some (.int .i64 0) := (blk_cell BK166.out 0).trans rfl; have hcz56_1 : w55.cell? ⟨gb166, 1, none⟩ = some (.int .i64 0) := (blk_cell BK166.out 1).trans rfl; have hcz56_2 : w55.cell? ⟨gb166, 2, none⟩ = some (.int .i64 4) := (blk_cell BK166.out 2).trans rfl; have hcz56_3 : w55.cell? ⟨gb166, 3, none⟩ = some (.int .i64 4) := (blk_cell BK166.out 3).trans rfl; have hfz56_0 := blk_frozen BK166.out 0; have hfz56_1 := blk_frozen BK166.out 1; have hfz56_2 := blk_frozen BK166.out 2; have hfz56_3 := blk_frozen BK166.out 3) | ((with_reducible refine gate_callee (f := 13) rfl ?_); refine goesL_ (some 9) rfl rfl Try.func13 (by kernel_rfl) rfl #[.agg #[.int .i64 0, .int .i64 0, .int .i64 4, .int .i64 4], .agg #[.int .i64 2, .int .i64 1, .int .i64 9, .int .i64 3]] rfl q128_ ?_; (with_reducible refine (rect_Intersect.calls k 0 0 4 4 2 1 9 3 t170 t171 t172 t173 _ A2.out).mono ?_); rintro e w57 ⟨rfl, hb⟩; refine ⟨_, rfl, ?_⟩; have n0_ := Aside0.mk (Kd.R_below q170_ hb); have n1_ := Aside0.mk (blk_below (g := gb166) (o := .cells #[.int .i64 0, .int .i64 0, .int .i64 4, .int .i64 4] 26 (0, 0)) q139_ hb); have n2_ := Aside0.mk (below_step q109_ hb); clear HO169; clear BK166; clear HB; have HO169 := n0_; have BK166 := n1_; have HB := n2_; clear n0_ n1_ n2_; (try clear hb); (try clear hb2); (try clear hk); (try clear hi)))
    go_ret
    exact ⟨q177_, q109_⟩


def tilefarmref2_coord.f (a0 : Int) : Option (Bool) := if a0 ≥ (-1048576) then (some (decide (a0 ≤ 1048576))) else (some false)
set_option maxHeartbeats 8000000 in
set_option maxRecDepth 100000 in
theorem tilefarmref2_coord.calls (a0 : Int) (r : Bool) (w : World) (h : tilefarmref2_coord.f a0 = some r) :
    Calls Try.prog 23 #[.int .i64 a0] w fun e w' => e = .returned (.bool r) ∧ Drawn0 w w' := by
  have H : (if a0 ≥ (-1048576) then (some (decide (a0 ≤ 1048576))) else (some false)) = some r := h
  clear h
  by_cases c2 : a0 ≥ (-1048576)
  · rw [if_pos c2] at H
    have c2b0 : decide ((-1048576) ≤ a0) = true := decide_eq_true c2
    clear c2
    obtain rfl := Option.some.inj H
    go_enter Try.func23, Try.ntmps23
    go_wp2
    go_ret
    exact ⟨q180_, q178_⟩
  · rw [if_neg c2] at H
    have c2b0 : decide ((-1048576) ≤ a0) = false := decide_eq_false c2
    clear c2
    obtain rfl := Option.some.inj H
    go_enter Try.func23, Try.ntmps23
    go_wp2
    go_ret
    exact ⟨q180_, q178_⟩


def tilefarmref2_Valid.f (a0_0 : Int) (a0_1 : Int) (a0_2 : Int) (a0_3 : Int) : Option (Bool) := if (a0_0 == 0 && (a0_1 == 0 && (a0_2 == 0 && (a0_3 == 0)))) = true then (some true) else ((tilefarmref2_coord.f a0_0).bind fun t179 => (if t179 = true then ((tilefarmref2_coord.f a0_1).bind fun t180 => (if t180 = true then ((tilefarmref2_coord.f a0_2).bind fun t181 => (if t181 = true then ((tilefarmref2_coord.f a0_3).bind fun t182 => (if t182 = true then (if a0_0 < a0_2 then (some (decide (a0_1 < a0_3))) else (some false)) else (some false))) else (some false))) else (some false))) else (some false)))
set_option maxHeartbeats 8000000 in
set_option maxRecDepth 100000 in
theorem tilefarmref2_Valid.calls (a0_0 : Int) (a0_1 : Int) (a0_2 : Int) (a0_3 : Int) (r : Bool) (w : World) (h : tilefarmref2_Valid.f a0_0 a0_1 a0_2 a0_3 = some r) :
    Calls Try.prog 9 #[.agg #[.int .i64 a0_0, .int .i64 a0_1, .int .i64 a0_2, .int .i64 a0_3]] w fun e w' => e = .returned (.bool r) ∧ Below w.heap.size w w' := by
  have hu26 := Try.underlying26
  have HB := Aside0.mk (Below.refl w.heap.size w)
  have H : (if (a0_0 == 0 && (a0_1 == 0 && (a0_2 == 0 && (a0_3 == 0)))) = true then (some true) else ((tilefarmref2_coord.f a0_0).bind fun t179 => (if t179 = true then ((tilefarmref2_coord.f a0_1).bind fun t180 => (if t180 = true then ((tilefarmref2_coord.f a0_2).bind fun t181 => (if t181 = true then ((tilefarmref2_coord.f a0_3).bind fun t182 => (if t182 = true then (if a0_0 < a0_2 then (some (decide (a0_1 < a0_3))) else (some false)) else (some false))) else (some false))) else (some false))) else (some false)))) = some r := h
  clear h
  by_cases c2 : (a0_0 == 0 && (a0_1 == 0 && (a0_2 == 0 && (a0_3 == 0)))) = true
  · rw [if_pos c2] at H
    have c2b0 : (a0_0 == 0 && (a0_1 == 0 && (a0_2 == 0 && (a0_3 == 0)))) = true := c2
    (try (have c2b1 : decide (a0_0 = 0 && (a0_1 == 0 && (a0_2 == 0 && (a0_3 == 0)))) = true := by simpa using c2))
    (try (have c2b2 : (a0_0 == 0 && (a0_1 == 0 && (a0_2 == 0 && (a0_3 == 0)))) = true := by simpa using c2))
    clear c2
    obtain rfl := Option.some.inj H
    go_enter Try.func9, Try.ntmps9
    go_wp2_with (first | ((with_reducible refine gate_dst (N := 1) rfl ?_); refine box_event ?hg (N := 1) ?hd (cs := #[.int .i64 a0_0, .int .i64 a0_1, .int .i64 a0_2, .int .i64 a0_3]) (t := 26) ?hr ?_; (case hd => rfl); (case hg => rfl); (case hr => first | (go_simp; done) | (go_simp; rfl)); intro gb178 hg w3 hbox hb; have n0_ := Aside0.mk (below_step q129_ hb); have n1_ := Aside0.mk (hbox); have n2_ := Aside0.mk ((q104_ : w.heap.size ≤ gb178)); have n3_ := Aside0.mk ((q104_ : w.heap.size ≤ gb178)); clear HB; have HB := n0_; have BK178 := n1_; have GW178 := n2_; have GE178 := n3_; clear n0_ n1_ n2_ n3_; clear hb hbox hg; have hcz4_0 : w3.cell? ⟨gb178, 0, none⟩ = some (.int .i64 a0_0) := (blk_cell BK178.out 0).trans rfl; have hcz4_1 : w3.cell? ⟨gb178, 1, none⟩ = some (.int .i64 a0_1) := (blk_cell BK178.out 1).trans rfl; have hcz4_2 : w3.cell? ⟨gb178, 2, none⟩ = some (.int .i64 a0_2) := (blk_cell BK178.out 2).trans rfl; have hcz4_3 : w3.cell? ⟨gb178, 3, none⟩ = some (.int .i64 a0_3) := (blk_cell BK178.out 3).trans rfl; have hfz4_0 := blk_frozen BK178.out 0; have hfz4_1 := blk_frozen BK178.out 1; have hfz4_2 := blk_frozen BK178.out 2; have hfz4_3 := blk_frozen BK178.out 3))
    go_ret
    exact ⟨q177_, q110_⟩
  · rw [if_neg c2] at H
    have c2b0 : (a0_0 == 0 && (a0_1 == 0 && (a0_2 == 0 && (a0_3 == 0)))) = false := by simpa using c2
    (try (have c2b1 : decide (a0_0 = 0 && (a0_1 == 0 && (a0_2 == 0 && (a0_3 == 0)))) = false := by simpa using c2))
    (try (have c2b2 : (a0_0 == 0 && (a0_1 == 0 && (a0_2 == 0 && (a0_3 == 0)))) = false := by simpa using c2))
    (try (have c2b3 : ¬ (a0_0 = 0 && (a0_1 == 0 && (a0_2 == 0 && (a0_3 == 0)))) := by simpa using c2))
    clear c2
    replace H := Option.bind_eq_some_iff.mp H
    obtain ⟨t179, A50, H⟩ := H
    replace H : (if t179 = true then ((tilefarmref2_coord.f a0_1).bind fun t180 => (if t180 = true then ((tilefarmref2_coord.f a0_2).bind fun t181 => (if t181 = true then ((tilefarmref2_coord.f a0_3).bind fun t182 => (if t182 = true then (if a0_0 < a0_2 then (some (decide (a0_1 < a0_3))) else (some false)) else (some false))) else (some false))) else (some false))) else (some false)) = some r := H
    have A5 := Aside0.mk A50
    clear A50
    by_cases c6 : t179 = true
    · subst c6
      have H1 : ((tilefarmref2_coord.f a0_1).bind fun t180 => (if t180 = true then ((tilefarmref2_coord.f a0_2).bind fun t181 => (if t181 = true then ((tilefarmref2_coord.f a0_3).bind fun t182 => (if t182 = true then (if a0_0 < a0_2 then (some (decide (a0_1 < a0_3))) else (some false)) else (some false))) else (some false))) else (some false))) = some r := by rw [if_pos rfl] at H; exact H
      clear H
      have H := H1
      clear H1
      replace H := Option.bind_eq_some_iff.mp H
      obtain ⟨t180, A70, H⟩ := H
      replace H : (if t180 = true then ((tilefarmref2_coord.f a0_2).bind fun t181 => (if t181 = true then ((tilefarmref2_coord.f a0_3).bind fun t182 => (if t182 = true then (if a0_0 < a0_2 then (some (decide (a0_1 < a0_3))) else (some false)) else (some false))) else (some false))) else (some false)) = some r := H
      have A7 := Aside0.mk A70
      clear A70
      by_cases c8 : t180 = true
      · subst c8
        have H1 : ((tilefarmref2_coord.f a0_2).bind fun t181 => (if t181 = true then ((tilefarmref2_coord.f a0_3).bind fun t182 => (if t182 = true then (if a0_0 < a0_2 then (some (decide (a0_1 < a0_3))) else (some false)) else (some false))) else (some false))) = some r := by rw [if_pos rfl] at H; exact H
        clear H
        have H := H1
        clear H1
        replace H := Option.bind_eq_some_iff.mp H
        obtain ⟨t181, A90, H⟩ := H
        replace H : (if t181 = true then ((tilefarmref2_coord.f a0_3).bind fun t182 => (if t182 = true then (if a0_0 < a0_2 then (some (decide (a0_1 < a0_3))) else (some false)) else (some false))) else (some false)) = some r := H
        have A9 := Aside0.mk A90
        clear A90
        by_cases c10 : t181 = true
        · subst c10
          have H1 : ((tilefarmref2_coord.f a0_3).bind fun t182 => (if t182 = true then (if a0_0 < a0_2 then (some (decide (a0_1 < a0_3))) else (some false)) else (some false))) = some r := by rw [if_pos rfl] at H; exact H
          clear H
          have H := H1
          clear H1
          replace H := Option.bind_eq_some_iff.mp H
          obtain ⟨t182, A110, H⟩ := H
          replace H : (if t182 = true then (if a0_0 < a0_2 then (some (decide (a0_1 < a0_3))) else (some false)) else (some false)) = some r := H
          have A11 := Aside0.mk A110
          clear A110
          by_cases c12 : t182 = true
          · subst c12
            have H1 : (if a0_0 < a0_2 then (some (decide (a0_1 < a0_3))) else (some false)) = some r := by rw [if_pos rfl] at H; exact H
            clear H
            have H := H1
            clear H1
            by_cases c13 : a0_0 < a0_2
            · rw [if_pos c13] at H
              have c13b0 : decide (a0_0 < a0_2) = true := decide_eq_true c13
              clear c13
              obtain rfl := Option.some.inj H
              go_enter Try.func9, Try.ntmps9
              go_wp2_with (first | ((with_reducible refine gate_dst (N := 1) rfl ?_); refine box_event ?hg (N := 1) ?hd (cs := #[.int .i64 a0_0, .int .i64 a0_1, .int .i64 a0_2, .int .i64 a0_3]) (t := 26) ?hr ?_; (case hd => rfl); (case hg => rfl); (case hr => first | (go_simp; done) | (go_simp; rfl)); intro gb178 hg w14 hbox hb; have n0_ := Aside0.mk (below_step q129_ hb); have n1_ := Aside0.mk (hbox); have n2_ := Aside0.mk ((q104_ : w.heap.size ≤ gb178)); have n3_ := Aside0.mk ((q104_ : w.heap.size ≤ gb178)); clear HB; have HB := n0_; have BK178 := n1_; have GW178 := n2_; have GE178 := n3_; clear n0_ n1_ n2_ n3_; clear hb hbox hg; have hcz15_0 : w14.cell? ⟨gb178, 0, none⟩ = some (.int .i64 a0_0) := (blk_cell BK178.out 0).trans rfl; have hcz15_1 : w14.cell? ⟨gb178, 1, none⟩ = some (.int .i64 a0_1) := (blk_cell BK178.out 1).trans rfl; have hcz15_2 : w14.cell? ⟨gb178, 2, none⟩ = some (.int .i64 a0_2) := (blk_cell BK178.out 2).trans rfl; have hcz15_3 : w14.cell? ⟨gb178, 3, none⟩ = some (.int .i64 a0_3) := (blk_cell BK178.out 3).trans rfl; have hfz15_0 := blk_frozen BK178.out 0; have hfz15_1 := blk_frozen BK178.out 1; have hfz15_2 := blk_frozen BK178.out 2; have hfz15_3 := blk_frozen BK178.out 3) | (go_at_call 23; (with_reducible refine (tilefarmref2_coord.calls a0_0 true _ A5.out).mono ?_); rintro e w' ⟨rfl, ⟨nd, rfl⟩⟩) | (go_at_call 23; (with_reducible refine (tilefarmref2_coord.calls a0_1 true _ A7.out).mono ?_); rintro e w' ⟨rfl, ⟨nd, rfl⟩⟩) | (go_at_call 23; (with_reducible refine (tilefarmref2_coord.calls a0_2 true _ A9.out).mono ?_); rintro e w' ⟨rfl, ⟨nd, rfl⟩⟩) | (go_at_call 23; (with_reducible refine (tilefarmref2_coord.calls a0_3 true _ A11.out).mono ?_); rintro e w' ⟨rfl, ⟨nd, rfl⟩⟩))
              go_ret
              exact ⟨q177_, q110_⟩
            · rw [if_neg c13] at H
              have c13b0 : decide (a0_0 < a0_2) = false := decide_eq_false c13
              clear c13
              obtain rfl := Option.some.inj H
              go_enter Try.func9, Try.ntmps9
              go_wp2_with (first | ((with_reducible refine gate_dst (N := 1) rfl ?_); refine box_event ?hg (N := 1) ?hd (cs := #[.int .i64 a0_0, .int .i64 a0_1, .int .i64 a0_2, .int .i64 a0_3]) (t := 26) ?hr ?_; (case hd => rfl); (case hg => rfl); (case hr => first | (go_simp; done) | (go_simp; rfl)); intro gb178 hg w16 hbox hb; have n0_ := Aside0.mk (below_step q129_ hb); have n1_ := Aside0.mk (hbox); have n2_ := Aside0.mk ((q104_ : w.heap.size ≤ gb178)); have n3_ := Aside0.mk ((q104_ : w.heap.size ≤ gb178)); clear HB; have HB := n0_; have BK178 := n1_; have GW178 := n2_; have GE178 := n3_; clear n0_ n1_ n2_ n3_; clear hb hbox hg; have hcz17_0 : w16.cell? ⟨gb178, 0, none⟩ = some (.int .i64 a0_0) := (blk_cell BK178.out 0).trans rfl; have hcz17_1 : w16.cell? ⟨gb178, 1, none⟩ = some (.int .i64 a0_1) := (blk_cell BK178.out 1).trans rfl; have hcz17_2 : w16.cell? ⟨gb178, 2, none⟩ = some (.int .i64 a0_2) := (blk_cell BK178.out 2).trans rfl; have hcz17_3 : w16.cell? ⟨gb178, 3, none⟩ = some (.int .i64 a0_3) := (blk_cell BK178.out 3).trans rfl; have hfz17_0 := blk_frozen BK178.out 0; have hfz17_1 := blk_frozen BK178.out 1; have hfz17_2 := blk_frozen BK178.out 2; have hfz17_3 := blk_frozen BK178.out 3) | (go_at_call 23; (with_reducible refine (tilefarmref2_coord.calls a0_0 true _ A5.out).mono ?_); rintro e w' ⟨rfl, ⟨nd, rfl⟩⟩) | (go_at_call 23; (with_reducible refine (tilefarmref2_coord.calls a0_1 true _ A7.out).mono ?_); rintro e w' ⟨rfl, ⟨nd, rfl⟩⟩) | (go_at_call 23; (with_reducible refine (tilefarmref2_coord.calls a0_2 true _ A9.out).mono ?_); rintro e w' ⟨rfl, ⟨nd, rfl⟩⟩) | (go_at_call 23; (with_reducible refine (tilefarmref2_coord.calls a0_3 true _ A11.out).mono ?_); rintro e w' ⟨rfl, ⟨nd, rfl⟩⟩))
              go_ret
              exact ⟨q177_, q110_⟩
          · replace c12 := Bool.eq_false_iff.mpr c12
            subst c12
            have H1 : (some false) = some r := by rw [if_neg (show ¬ (false = true) by decide)] at H; exact H
            clear H
            have H := H1
            clear H1
            obtain rfl := Option.some.inj H
            go_enter Try.func9, Try.ntmps9
            go_wp2_with (first | ((with_reducible refine gate_dst (N := 1) rfl ?_); refine box_event ?hg (N := 1) ?hd (cs := #[.int .i64 a0_0, .int .i64 a0_1, .int .i64 a0_2, .int .i64 a0_3]) (t := 26) ?hr ?_; (case hd => rfl); (case hg => rfl); (case hr => first | (go_simp; done) | (go_simp; rfl)); intro gb178 hg w18 hbox hb; have n0_ := Aside0.mk (below_step q129_ hb); have n1_ := Aside0.mk (hbox); have n2_ := Aside0.mk ((q104_ : w.heap.size ≤ gb178)); have n3_ := Aside0.mk ((q104_ : w.heap.size ≤ gb178)); clear HB; have HB := n0_; have BK178 := n1_; have GW178 := n2_; have GE178 := n3_; clear n0_ n1_ n2_ n3_; clear hb hbox hg; have hcz19_0 : w18.cell? ⟨gb178, 0, none⟩ = some (.int .i64 a0_0) := (blk_cell BK178.out 0).trans rfl; have hcz19_1 : w18.cell? ⟨gb178, 1, none⟩ = some (.int .i64 a0_1) := (blk_cell BK178.out 1).trans rfl; have hcz19_2 : w18.cell? ⟨gb178, 2, none⟩ = some (.int .i64 a0_2) := (blk_cell BK178.out 2).trans rfl; have hcz19_3 : w18.cell? ⟨gb178, 3, none⟩ = some (.int .i64 a0_3) := (blk_cell BK178.out 3).trans rfl; have hfz19_0 := blk_frozen BK178.out 0; have hfz19_1 := blk_frozen BK178.out 1; have hfz19_2 := blk_frozen BK178.out 2; have hfz19_3 := blk_frozen BK178.out 3) | (go_at_call 23; (with_reducible refine (tilefarmref2_coord.calls a0_0 true _ A5.out).mono ?_); rintro e w' ⟨rfl, ⟨nd, rfl⟩⟩) | (go_at_call 23; (with_reducible refine (tilefarmref2_coord.calls a0_1 true _ A7.out).mono ?_); rintro e w' ⟨rfl, ⟨nd, rfl⟩⟩) | (go_at_call 23; (with_reducible refine (tilefarmref2_coord.calls a0_2 true _ A9.out).mono ?_); rintro e w' ⟨rfl, ⟨nd, rfl⟩⟩) | (go_at_call 23; (with_reducible refine (tilefarmref2_coord.calls a0_3 false _ A11.out).mono ?_); rintro e w' ⟨rfl, ⟨nd, rfl⟩⟩))
            go_ret
            exact ⟨q177_, q110_⟩
        · replace c10 := Bool.eq_false_iff.mpr c10
          subst c10
          have H1 : (some false) = some r := by rw [if_neg (show ¬ (false = true) by decide)] at H; exact H
          clear H
          have H := H1
          clear H1
          obtain rfl := Option.some.inj H
          go_enter Try.func9, Try.ntmps9
          go_wp2_with (first | ((with_reducible refine gate_dst (N := 1) rfl ?_); refine box_event ?hg (N := 1) ?hd (cs := #[.int .i64 a0_0, .int .i64 a0_1, .int .i64 a0_2, .int .i64 a0_3]) (t := 26) ?hr ?_; (case hd => rfl); (case hg => rfl); (case hr => first | (go_simp; done) | (go_simp; rfl)); intro gb178 hg w20 hbox hb; have n0_ := Aside0.mk (below_step q129_ hb); have n1_ := Aside0.mk (hbox); have n2_ := Aside0.mk ((q104_ : w.heap.size ≤ gb178)); have n3_ := Aside0.mk ((q104_ : w.heap.size ≤ gb178)); clear HB; have HB := n0_; have BK178 := n1_; have GW178 := n2_; have GE178 := n3_; clear n0_ n1_ n2_ n3_; clear hb hbox hg; have hcz21_0 : w20.cell? ⟨gb178, 0, none⟩ = some (.int .i64 a0_0) := (blk_cell BK178.out 0).trans rfl; have hcz21_1 : w20.cell? ⟨gb178, 1, none⟩ = some (.int .i64 a0_1) := (blk_cell BK178.out 1).trans rfl; have hcz21_2 : w20.cell? ⟨gb178, 2, none⟩ = some (.int .i64 a0_2) := (blk_cell BK178.out 2).trans rfl; have hcz21_3 : w20.cell? ⟨gb178, 3, none⟩ = some (.int .i64 a0_3) := (blk_cell BK178.out 3).trans rfl; have hfz21_0 := blk_frozen BK178.out 0; have hfz21_1 := blk_frozen BK178.out 1; have hfz21_2 := blk_frozen BK178.out 2; have hfz21_3 := blk_frozen BK178.out 3) | (go_at_call 23; (with_reducible refine (tilefarmref2_coord.calls a0_0 true _ A5.out).mono ?_); rintro e w' ⟨rfl, ⟨nd, rfl⟩⟩) | (go_at_call 23; (with_reducible refine (tilefarmref2_coord.calls a0_1 true _ A7.out).mono ?_); rintro e w' ⟨rfl, ⟨nd, rfl⟩⟩) | (go_at_call 23; (with_reducible refine (tilefarmref2_coord.calls a0_2 false _ A9.out).mono ?_); rintro e w' ⟨rfl, ⟨nd, rfl⟩⟩))
          go_ret
          exact ⟨q177_, q110_⟩
      · replace c8 := Bool.eq_false_iff.mpr c8
        subst c8
        have H1 : (some false) = some r := by rw [if_neg (show ¬ (false = true) by decide)] at H; exact H
        clear H
        have H := H1
        clear H1
        obtain rfl := Option.some.inj H
        go_enter Try.func9, Try.ntmps9
        go_wp2_with (first | ((with_reducible refine gate_dst (N := 1) rfl ?_); refine box_event ?hg (N := 1) ?hd (cs := #[.int .i64 a0_0, .int .i64 a0_1, .int .i64 a0_2, .int .i64 a0_3]) (t := 26) ?hr ?_; (case hd => rfl); (case hg => rfl); (case hr => first | (go_simp; done) | (go_simp; rfl)); intro gb178 hg w22 hbox hb; have n0_ := Aside0.mk (below_step q129_ hb); have n1_ := Aside0.mk (hbox); have n2_ := Aside0.mk ((q104_ : w.heap.size ≤ gb178)); have n3_ := Aside0.mk ((q104_ : w.heap.size ≤ gb178)); clear HB; have HB := n0_; have BK178 := n1_; have GW178 := n2_; have GE178 := n3_; clear n0_ n1_ n2_ n3_; clear hb hbox hg; have hcz23_0 : w22.cell? ⟨gb178, 0, none⟩ = some (.int .i64 a0_0) := (blk_cell BK178.out 0).trans rfl; have hcz23_1 : w22.cell? ⟨gb178, 1, none⟩ = some (.int .i64 a0_1) := (blk_cell BK178.out 1).trans rfl; have hcz23_2 : w22.cell? ⟨gb178, 2, none⟩ = some (.int .i64 a0_2) := (blk_cell BK178.out 2).trans rfl; have hcz23_3 : w22.cell? ⟨gb178, 3, none⟩ = some (.int .i64 a0_3) := (blk_cell BK178.out 3).trans rfl; have hfz23_0 := blk_frozen BK178.out 0; have hfz23_1 := blk_frozen BK178.out 1; have hfz23_2 := blk_frozen BK178.out 2; have hfz23_3 := blk_frozen BK178.out 3) | (go_at_call 23; (with_reducible refine (tilefarmref2_coord.calls a0_0 true _ A5.out).mono ?_); rintro e w' ⟨rfl, ⟨nd, rfl⟩⟩) | (go_at_call 23; (with_reducible refine (tilefarmref2_coord.calls a0_1 false _ A7.out).mono ?_); rintro e w' ⟨rfl, ⟨nd, rfl⟩⟩))
        go_ret
        exact ⟨q177_, q110_⟩
    · replace c6 := Bool.eq_false_iff.mpr c6
      subst c6
      have H1 : (some false) = some r := by rw [if_neg (show ¬ (false = true) by decide)] at H; exact H
      clear H
      have H := H1
      clear H1
      obtain rfl := Option.some.inj H
      go_enter Try.func9, Try.ntmps9
      go_wp2_with (first | ((with_reducible refine gate_dst (N := 1) rfl ?_); refine box_event ?hg (N := 1) ?hd (cs := #[.int .i64 a0_0, .int .i64 a0_1, .int .i64 a0_2, .int .i64 a0_3]) (t := 26) ?hr ?_; (case hd => rfl); (case hg => rfl); (case hr => first | (go_simp; done) | (go_simp; rfl)); intro gb178 hg w24 hbox hb; have n0_ := Aside0.mk (below_step q129_ hb); have n1_ := Aside0.mk (hbox); have n2_ := Aside0.mk ((q104_ : w.heap.size ≤ gb178)); have n3_ := Aside0.mk ((q104_ : w.heap.size ≤ gb178)); clear HB; have HB := n0_; have BK178 := n1_; have GW178 := n2_; have GE178 := n3_; clear n0_ n1_ n2_ n3_; clear hb hbox hg; have hcz25_0 : w24.cell? ⟨gb178, 0, none⟩ = some (.int .i64 a0_0) := (blk_cell BK178.out 0).trans rfl; have hcz25_1 : w24.cell? ⟨gb178, 1, none⟩ = some (.int .i64 a0_1) := (blk_cell BK178.out 1).trans rfl; have hcz25_2 : w24.cell? ⟨gb178, 2, none⟩ = some (.int .i64 a0_2) := (blk_cell BK178.out 2).trans rfl; have hcz25_3 : w24.cell? ⟨gb178, 3, none⟩ = some (.int .i64 a0_3) := (blk_cell BK178.out 3).trans rfl; have hfz25_0 := blk_frozen BK178.out 0; have hfz25_1 := blk_frozen BK178.out 1; have hfz25_2 := blk_frozen BK178.out 2; have hfz25_3 := blk_frozen BK178.out 3) | (go_at_call 23; (with_reducible refine (tilefarmref2_coord.calls a0_0 false _ A5.out).mono ?_); rintro e w' ⟨rfl, ⟨nd, rfl⟩⟩))
      go_ret
      exact ⟨q177_, q110_⟩

end Go.Proofs.Ytdkmgcckcimhfaa.PRectComputes
