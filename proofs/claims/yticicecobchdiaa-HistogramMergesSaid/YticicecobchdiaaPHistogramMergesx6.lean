-- Written by a program of the session (wip/tools/myprint.py) over the kit's printer; checked by Lean.
import Derived.Test.YticicecobchdiaaPHistogramMergesx0
import Derived.Test.YticicecobchdiaaPHistogramMergesx2
import Derived.Test.YticicecobchdiaaPHistogramMergesx5
namespace Go.Proofs.Yticicecobchdiaa.PHistogramMerges
open Go.RowKit Go.Proofs.YticicecobchdiaaW.PrintWords Go.Proofs.YticicecobchdiaaW.PrintLast Go.Proofs.YticicecobchdiaaW.PrintMore
attribute [local go_sem] max2_int min2_int max_two min_two max_three min_three max_four min_four   -- for this text's walks alone
set_option linter.unusedVariables false
set_option linter.unusedSimpArgs false

/-! ### histogram_Merge: function 25 -/
mutual
def histogram_Merge.l0 : Nat → List (List Int) → Int → List (List Int) → Int → Int → Option (List Int × Int)
  | 0, _, _, _, _, _ => none
  | k + 1, x0, x4, x22, x23, x24 => if x24 < x23 then (if 0 ≤ x24 then (if x24 < (x22.length : Int) then (if ((rd_L1 x22 x24).length : Int) = x4 then ((histogram_between.f x4 1 128).bind fun t156 => (if t156 = true then (histogram_Merge.l0 k x0 x4 x22 x23 (wrap64 (x24 + 1))) else (some (([] : List Int), 8)))) else (some (([] : List Int), 8))) else (none)) else (none)) else (if 0 ≤ x4 then (if (x4 : Int).toNat ≤ 35184372088832 then (histogram_Merge.l1 k (List.replicate (x4 : Int).toNat 0) x0 (x0.length : Int) 0) else (none)) else (none))
def histogram_Merge.l1 : Nat → List Int → List (List Int) → Int → Int → Option (List Int × Int)
  | 0, _, _, _, _ => none
  | k + 1, x7, x40, x41, x42 => if x42 < x41 then (if 0 ≤ x42 then (if x42 < (x40.length : Int) then (histogram_Merge.l2 k x7 x40 x41 x42 (rd_L1 x40 x42) ((rd_L1 x40 x42).length : Int) 0) else (none)) else (none)) else (histogram_Merge.l3 k x7 x7 (x7.length : Int) 0)
def histogram_Merge.l2 : Nat → List Int → List (List Int) → Int → Int → List Int → Int → Int → Option (List Int × Int)
  | 0, _, _, _, _, _, _, _ => none
  | k + 1, x7, x40, x41, x42, x46, x47, x48 => if x48 < x47 then (if 0 ≤ x48 then (if x48 < (x46.length : Int) then ((histogram_between.f (rd x46 x48) 0 4096).bind fun t162 => (if t162 = true then (if x48 < (x7.length : Int) then (histogram_Merge.l2 k (x7.set (x48 : Int).toNat (wrap64 ((rd x7 x48) + (rd x46 x48)))) x40 x41 x42 x46 x47 (wrap64 (x48 + 1))) else (none)) else (some (([] : List Int), 2)))) else (none)) else (none)) else (histogram_Merge.l1 k x7 x40 x41 (wrap64 (x42 + 1)))
def histogram_Merge.l3 : Nat → List Int → List Int → Int → Int → Option (List Int × Int)
  | 0, _, _, _, _ => none
  | k + 1, x7, x65, x66, x67 => if x67 < x66 then (if 0 ≤ x67 then (if x67 < (x65.length : Int) then (if (rd x65 x67) > 4096 then (some (([] : List Int), 3)) else (histogram_Merge.l3 k x7 x65 x66 (wrap64 (x67 + 1)))) else (none)) else (none)) else (some (x7, 0))
end
def histogram_Merge.f (k : Nat) (l0 : List (List Int)) : Option (List Int × Int) := (histogram_between.f (l0.length : Int) 1 4096).bind fun t153 => (if t153 = true then (if 0 < (l0.length : Int) then (histogram_Merge.l0 k l0 ((rd_L1 l0 0).length : Int) l0 (l0.length : Int) 0) else (none)) else (some (([] : List Int), 5)))
theorem histogram_Merge.mono_l : ∀ k, (∀ y0 y1 y2 y3 y4, LeO (histogram_Merge.l0 k y0 y1 y2 y3 y4) (histogram_Merge.l0 (k + 1) y0 y1 y2 y3 y4)) ∧ (∀ y0 y1 y2 y3, LeO (histogram_Merge.l1 k y0 y1 y2 y3) (histogram_Merge.l1 (k + 1) y0 y1 y2 y3)) ∧ (∀ y0 y1 y2 y3 y4 y5 y6, LeO (histogram_Merge.l2 k y0 y1 y2 y3 y4 y5 y6) (histogram_Merge.l2 (k + 1) y0 y1 y2 y3 y4 y5 y6)) ∧ (∀ y0 y1 y2 y3, LeO (histogram_Merge.l3 k y0 y1 y2 y3) (histogram_Merge.l3 (k + 1) y0 y1 y2 y3))
  | 0 => ⟨fun _ _ _ _ _ r h => by simp [histogram_Merge.l0] at h, fun _ _ _ _ r h => by simp [histogram_Merge.l1] at h, fun _ _ _ _ _ _ _ r h => by simp [histogram_Merge.l2] at h, fun _ _ _ _ r h => by simp [histogram_Merge.l3] at h⟩
  | k + 1 => by
    obtain ⟨ih0, ih1, ih2, ih3⟩ := histogram_Merge.mono_l k
    refine ⟨?_, ?_, ?_, ?_⟩
    · intro y0 y1 y2 y3 y4
      unfold histogram_Merge.l0
      repeat' first
      | (with_reducible exact ih0 _ _ _ _ _)
      | (with_reducible exact ih1 _ _ _ _)
      | (with_reducible exact ih2 _ _ _ _ _ _ _)
      | (with_reducible exact ih3 _ _ _ _)
      | (with_reducible exact LeO.refl _)
      | (with_reducible exact LeO.none _)
      | (with_reducible refine LeO.ite ?_ ?_)
      | (with_reducible refine LeO.bind ?_ (fun _ => ?_))
      | exact ih0 _ _ _ _ _
      | exact ih1 _ _ _ _
      | exact ih2 _ _ _ _ _ _ _
      | exact ih3 _ _ _ _
      | exact LeO.none _
      | refine LeO.ite ?_ ?_
      | refine LeO.bind ?_ (fun _ => ?_)
    · intro y0 y1 y2 y3
      unfold histogram_Merge.l1
      repeat' first
      | (with_reducible exact ih0 _ _ _ _ _)
      | (with_reducible exact ih1 _ _ _ _)
      | (with_reducible exact ih2 _ _ _ _ _ _ _)
      | (with_reducible exact ih3 _ _ _ _)
      | (with_reducible exact LeO.refl _)
      | (with_reducible exact LeO.none _)
      | (with_reducible refine LeO.ite ?_ ?_)
      | (with_reducible refine LeO.bind ?_ (fun _ => ?_))
      | exact ih0 _ _ _ _ _
      | exact ih1 _ _ _ _
      | exact ih2 _ _ _ _ _ _ _
      | exact ih3 _ _ _ _
      | exact LeO.none _
      | refine LeO.ite ?_ ?_
      | refine LeO.bind ?_ (fun _ => ?_)
    · intro y0 y1 y2 y3 y4 y5 y6
      unfold histogram_Merge.l2
      repeat' first
      | (with_reducible exact ih0 _ _ _ _ _)
      | (with_reducible exact ih1 _ _ _ _)
      | (with_reducible exact ih2 _ _ _ _ _ _ _)
      | (with_reducible exact ih3 _ _ _ _)
      | (with_reducible exact LeO.refl _)
      | (with_reducible exact LeO.none _)
      | (with_reducible refine LeO.ite ?_ ?_)
      | (with_reducible refine LeO.bind ?_ (fun _ => ?_))
      | exact ih0 _ _ _ _ _
      | exact ih1 _ _ _ _
      | exact ih2 _ _ _ _ _ _ _
      | exact ih3 _ _ _ _
      | exact LeO.none _
      | refine LeO.ite ?_ ?_
      | refine LeO.bind ?_ (fun _ => ?_)
    · intro y0 y1 y2 y3
      unfold histogram_Merge.l3
      repeat' first
      | (with_reducible exact ih0 _ _ _ _ _)
      | (with_reducible exact ih1 _ _ _ _)
      | (with_reducible exact ih2 _ _ _ _ _ _ _)
      | (with_reducible exact ih3 _ _ _ _)
      | (with_reducible exact LeO.refl _)
      | (with_reducible exact LeO.none _)
      | (with_reducible refine LeO.ite ?_ ?_)
      | (with_reducible refine LeO.bind ?_ (fun _ => ?_))
      | exact ih0 _ _ _ _ _
      | exact ih1 _ _ _ _
      | exact ih2 _ _ _ _ _ _ _
      | exact ih3 _ _ _ _
      | exact LeO.none _
      | refine LeO.ite ?_ ?_
      | refine LeO.bind ?_ (fun _ => ?_)
theorem histogram_Merge.mono : ∀ a0 k, LeO (histogram_Merge.f k a0) (histogram_Merge.f (k + 1) a0) := by
  intro a0 k
  obtain ⟨ih0, ih1, ih2, ih3⟩ := histogram_Merge.mono_l k
  unfold histogram_Merge.f
  repeat' first
      | (with_reducible exact ih0 _ _ _ _ _)
      | (with_reducible exact ih1 _ _ _ _)
      | (with_reducible exact ih2 _ _ _ _ _ _ _)
      | (with_reducible exact ih3 _ _ _ _)
      | (with_reducible exact LeO.refl _)
      | (with_reducible exact LeO.none _)
      | (with_reducible refine LeO.ite ?_ ?_)
      | (with_reducible refine LeO.bind ?_ (fun _ => ?_))
      | exact ih0 _ _ _ _ _
      | exact ih1 _ _ _ _
      | exact ih2 _ _ _ _ _ _ _
      | exact ih3 _ _ _ _
      | exact LeO.none _
      | refine LeO.ite ?_ ?_
      | refine LeO.bind ?_ (fun _ => ?_)
set_option maxHeartbeats 8000000 in
set_option maxRecDepth 100000 in
theorem histogram_Merge.calls (k : Nat) (A0 : Option Addr) (c0 : Nat) (l0 : List (List Int)) (r1 : List Int) (r2 : Int) (w : World) (hr0 : Kd.C (Kd.slice 3 (Kd.int .i64)) w A0 l0.length l0) (hc0 : l0.length ≤ c0) (h : histogram_Merge.f k l0 = some (r1, r2)) :
    Calls Try.prog 25 #[.slice A0 l0.length c0] w fun e w' => ∃ v0_ : Value, e = .returned (.tuple #[v0_, .int .i64 r2]) ∧ Kd.R (Kd.int .i64) 3 w' w.heap.size (fun _ => True) v0_ r1 ∧ Below w.heap.size w w' := by
  have HR0 := Aside0.mk hr0
  have HC0 := Aside0.mk hc0
  clear hr0 hc0
  have HB := Aside0.mk (Below.refl w.heap.size w)
  have H : ((histogram_between.f (l0.length : Int) 1 4096).bind fun t153 => (if t153 = true then (if 0 < (l0.length : Int) then (histogram_Merge.l0 k l0 ((rd_L1 l0 0).length : Int) l0 (l0.length : Int) 0) else (none)) else (some (([] : List Int), 5)))) = some (r1, r2) := h
  clear h
  replace H := Option.bind_eq_some_iff.mp H
  obtain ⟨t153, A20, H⟩ := H
  replace H : (if t153 = true then (if 0 < (l0.length : Int) then (histogram_Merge.l0 k l0 ((rd_L1 l0 0).length : Int) l0 (l0.length : Int) 0) else (none)) else (some (([] : List Int), 5))) = some (r1, r2) := H
  have A2 := Aside0.mk A20
  clear A20
  by_cases c3 : t153 = true
  · subst c3
    have H1 : (if 0 < (l0.length : Int) then (histogram_Merge.l0 k l0 ((rd_L1 l0 0).length : Int) l0 (l0.length : Int) 0) else (none)) = some (r1, r2) := by rw [if_pos rfl] at H; exact H
    clear H
    have H := H1
    clear H1
    by_cases c4 : 0 < (l0.length : Int)
    · rw [if_pos c4] at H
      have c4b0 : decide (0 < (l0.length : Int)) = true := decide_eq_true c4
      have c4b1 : decide (0 < l0.length) = true := decide_eq_true (by omega)
      clear c4
      have H' := Aside0.mk H
      clear H
      go_enter Try.func25, Try.ntmps25
      go_wp2_with (first | ((with_reducible refine gate_callee (f := 30) rfl ?_); refine goesL_ (some 16) rfl rfl Try.func30 (by kernel_rfl) rfl #[.int .i64 (l0.length : Int), .int .i64 1, .int .i64 4096] rfl (by (try simp only [List.map_toArray, List.map_cons, List.map_nil]); first | done | rfl | (simp only [List.length_drop, List.length_take]; rfl)) ?_; (with_reducible refine (histogram_between.calls (l0.length : Int) 1 4096 true _ A2.out).mono ?_); rintro e w' ⟨rfl, ⟨nd, rfl⟩⟩; refine ⟨_, rfl, ?_⟩; have p154 : 0 ≤ (0 : Int) := (by omega); have q154 : 0 < (l0.length : Int) := of_decide_eq_true (by first | (with_reducible assumption) | assumption); obtain ⟨ad154, A154_0, c154_0, e154, hx154_0, hl154_0, hi154_0⟩ := at_L1 HR0.out 0 p154 q154; cases e154; have qi154 : (0 < l0.length) = True := eq_true (by omega); (try rw [show ((0 : Int)).toNat = 0 from rfl] at hx154_0); (try rw [Addr.add_zero'] at hx154_0); have HR154_0 := Aside0.mk hi154_0; have HC154_0 := Aside0.mk hl154_0; clear hi154_0 hl154_0; replace p154 := eq_true p154; replace q154 := eq_true q154))
      go_loopg [24] k (fun kq v24 w' => ∃ (x24_1 : Int), v24 = .int .i64 x24_1 ∧ Aside0 (histogram_Merge.l0 kq l0 ((rd_L1 l0 0).length : Int) l0 (l0.length : Int) x24_1 = some (r1, r2)) ∧ Aside0 (kq ≤ k) ∧ Aside0 (Below w.heap.size w w'))
      case atStart => exact ⟨(0), (by first | rfl | (simp; done) | (simp [*]; done)), H', ⟨Nat.le_refl _⟩, ⟨by repeat (first | (with_reducible first | exact HB.out | apply below_alloc | apply pw_below_drewN | apply below_drew1) | exact HB.out)⟩⟩
      case round =>
        clear H'
        try clear c1
        try clear p1
        try clear q1
        try clear hx1
        try clear qi1
        try clear c2
        try clear p2
        try clear c3
        try clear c4
        try clear c4b0
        try clear c4b1
        try clear hx154_0
        try clear p154
        try clear q154
        obtain ⟨x24_1, rfl, HA, HK1, HB⟩ := hrel
        cases gk with
        | zero => exact absurd HA.out (by simp [histogram_Merge.l0])
        | succ k1 =>
          have H := HA.out
          clear HA
          simp only [histogram_Merge.l0] at H
          by_cases c5 : x24_1 < (l0.length : Int)
          · rw [if_pos c5] at H
            have c5b0 : decide (x24_1 < (l0.length : Int)) = true := decide_eq_true c5
            clear c5
            by_cases c6 : 0 ≤ x24_1
            · rw [if_pos c6] at H
              have c6b0 : decide (0 ≤ x24_1) = true := decide_eq_true c6
              clear c6
              by_cases c7 : x24_1 < (l0.length : Int)
              · rw [if_pos c7] at H
                have c7b0 : decide (x24_1 < (l0.length : Int)) = true := decide_eq_true c7
                clear c7
                by_cases c8 : ((rd_L1 l0 x24_1).length : Int) = ((rd_L1 l0 0).length : Int)
                · rw [if_pos c8] at H
                  have c8b0 : (((rd_L1 l0 x24_1).length : Int) == ((rd_L1 l0 0).length : Int)) = true := beq_iff_eq.mpr c8
                  have c8b1 : (((rd_L1 l0 x24_1).length : Int) != ((rd_L1 l0 0).length : Int)) = false := bne_eq_false_iff_eq.mpr c8
                  have c8b2 : ((rd_L1 l0 x24_1).length == (rd_L1 l0 0).length) = true := by first | simpa using c8 | (simp at c8 ⊢; omega)
                  clear c8
                  replace H := Option.bind_eq_some_iff.mp H
                  obtain ⟨t156, A90, H⟩ := H
                  replace H : (if t156 = true then (histogram_Merge.l0 k1 l0 ((rd_L1 l0 0).length : Int) l0 (l0.length : Int) (wrap64 (x24_1 + 1))) else (some (([] : List Int), 8))) = some (r1, r2) := H
                  have A9 := Aside0.mk A90
                  clear A90
                  by_cases c10 : t156 = true
                  · subst c10
                    have H1 : (histogram_Merge.l0 k1 l0 ((rd_L1 l0 0).length : Int) l0 (l0.length : Int) (wrap64 (x24_1 + 1))) = some (r1, r2) := by rw [if_pos rfl] at H; exact H
                    clear H
                    have H := H1
                    clear H1
                    have H' := Aside0.mk H
                    clear H
                    have p155 : 0 ≤ (x24_1 : Int) := of_decide_eq_true (by first | (with_reducible assumption) | assumption)
                    have q155 : x24_1 < (l0.length : Int) := of_decide_eq_true (by first | (with_reducible assumption) | assumption)
                    obtain ⟨ad155, A155_0, c155_0, e155, hx155_0, hl155_0, hi155_0⟩ := at_L1 HR0.out x24_1 p155 q155
                    obtain rfl : ad154 = ad155 := (by injection e155)
                    replace hx155_0 := (HB.out.cell (World.block_lt_of_cell? w _ hx155_0)).trans hx155_0
                    have HR155_0 := Aside0.mk hi155_0
                    have HC155_0 := Aside0.mk hl155_0
                    clear hi155_0 hl155_0
                    replace p155 := eq_true p155
                    replace q155 := eq_true q155
                    go_wp2_with (first | (go_at_call 30; (with_reducible refine (histogram_between.calls ((rd_L1 l0 0).length : Int) 1 128 true _ A9.out).mono ?_); rintro e w' ⟨rfl, ⟨nd, rfl⟩⟩))
                    go_roundg k1
                    case measure => have := HK1.out; omega
                    case rel => exact ⟨(wrap64 (x24_1 + 1)), (by first | rfl | (simp; done) | (simp [*]; done)), H', ⟨by have := HK1.out; omega⟩, ⟨by repeat (first | (with_reducible first | exact HB.out | apply below_alloc | apply pw_below_drewN | apply below_drew1) | exact HB.out)⟩⟩
                  · replace c10 := Bool.eq_false_iff.mpr c10
                    subst c10
                    have H1 : (some (([] : List Int), 8)) = some (r1, r2) := by rw [if_neg (show ¬ (false = true) by decide)] at H; exact H
                    clear H
                    have H := H1
                    clear H1
                    simp only [Option.some.injEq, Prod.mk.injEq] at H
                    obtain ⟨rfl, rfl⟩ := H
                    have p155 : 0 ≤ (x24_1 : Int) := of_decide_eq_true (by first | (with_reducible assumption) | assumption)
                    have q155 : x24_1 < (l0.length : Int) := of_decide_eq_true (by first | (with_reducible assumption) | assumption)
                    obtain ⟨ad155, A155_0, c155_0, e155, hx155_0, hl155_0, hi155_0⟩ := at_L1 HR0.out x24_1 p155 q155
                    obtain rfl : ad154 = ad155 := (by injection e155)
                    replace hx155_0 := (HB.out.cell (World.block_lt_of_cell? w _ hx155_0)).trans hx155_0
                    have HR155_0 := Aside0.mk hi155_0
                    have HC155_0 := Aside0.mk hl155_0
                    clear hi155_0 hl155_0
                    replace p155 := eq_true p155
                    replace q155 := eq_true q155
                    go_wp2_with (first | (go_at_call 30; (with_reducible refine (histogram_between.calls ((rd_L1 l0 0).length : Int) 1 128 false _ A9.out).mono ?_); rintro e w' ⟨rfl, ⟨nd, rfl⟩⟩))
                    go_ret2
                    exact ⟨_, by first | rfl | (simp [errW_none, errW_some] <;> rfl) | (simp [*, errW_none, errW_some] <;> rfl), by first | exact Kd.R_nil _ _ _ _ _ | exact Kd.N_nil _ _ _ _ _ | exact Kd.V_nil _ _ _ _ _ | exact Kd.Q_nil _ _ _ _ _ | exact Kd.S_nil _ _ _ _ _, by repeat (first | (with_reducible first | exact HB.out | apply below_alloc | apply pw_below_drewN | apply below_drew1) | exact HB.out)⟩
                · rw [if_neg c8] at H
                  have c8b0 : (((rd_L1 l0 x24_1).length : Int) == ((rd_L1 l0 0).length : Int)) = false := beq_eq_false_iff_ne.mpr c8
                  have c8b1 : (((rd_L1 l0 x24_1).length : Int) != ((rd_L1 l0 0).length : Int)) = true := bne_iff_ne.mpr c8
                  have c8b2 : ((rd_L1 l0 x24_1).length == (rd_L1 l0 0).length) = false := by first | simpa using c8 | (simp at c8 ⊢; omega)
                  simp only [Option.some.injEq, Prod.mk.injEq] at H
                  obtain ⟨rfl, rfl⟩ := H
                  have p155 : 0 ≤ (x24_1 : Int) := of_decide_eq_true (by first | (with_reducible assumption) | assumption)
                  have q155 : x24_1 < (l0.length : Int) := of_decide_eq_true (by first | (with_reducible assumption) | assumption)
                  obtain ⟨ad155, A155_0, c155_0, e155, hx155_0, hl155_0, hi155_0⟩ := at_L1 HR0.out x24_1 p155 q155
                  obtain rfl : ad154 = ad155 := (by injection e155)
                  replace hx155_0 := (HB.out.cell (World.block_lt_of_cell? w _ hx155_0)).trans hx155_0
                  have HR155_0 := Aside0.mk hi155_0
                  have HC155_0 := Aside0.mk hl155_0
                  clear hi155_0 hl155_0
                  replace p155 := eq_true p155
                  replace q155 := eq_true q155
                  go_wp2
                  go_ret2
                  exact ⟨_, by first | rfl | (simp [errW_none, errW_some] <;> rfl) | (simp [*, errW_none, errW_some] <;> rfl), by first | exact Kd.R_nil _ _ _ _ _ | exact Kd.N_nil _ _ _ _ _ | exact Kd.V_nil _ _ _ _ _ | exact Kd.Q_nil _ _ _ _ _ | exact Kd.S_nil _ _ _ _ _, by repeat (first | (with_reducible first | exact HB.out | apply below_alloc | apply pw_below_drewN | apply below_drew1) | exact HB.out)⟩
              · rw [if_neg c7] at H
                exact absurd H (by simp)
            · rw [if_neg c6] at H
              exact absurd H (by simp)
          · rw [if_neg c5] at H
            have c5b0 : decide (x24_1 < (l0.length : Int)) = false := decide_eq_false c5
            clear c5
            by_cases c11 : 0 ≤ ((rd_L1 l0 0).length : Int)
            · rw [if_pos c11] at H
              have c11b0 := eq_true c11
              have c11b1 : decide (0 ≤ ((rd_L1 l0 0).length : Int)) = true := decide_eq_true c11
              clear c11
              by_cases c12 : (((rd_L1 l0 0).length : Int) : Int).toNat ≤ 35184372088832
              · rw [if_pos c12] at H
                have c12b0 := eq_true c12
                have c12b1 : decide ((((rd_L1 l0 0).length : Int) : Int).toNat ≤ 35184372088832) = true := decide_eq_true c12
                clear c12
                obtain ⟨y157, hy157⟩ : ∃ y_ : List Int, y_ = (List.replicate (((rd_L1 l0 0).length : Int) : Int).toNat 0) := ⟨_, rfl⟩
                replace H : (histogram_Merge.l1 k1 y157 l0 (l0.length : Int) 0) = some (r1, r2) := by first | (rw [hy157]; with_reducible exact H) | (have H2_ := (Option.bind_some _ _).symm.trans H; rw [hy157]; with_reducible exact H2_) | (have H2_ := (Option.bind_some _ _).symm.trans H; with_reducible exact H2_) | with_reducible exact H | (rw [hy157]; exact H) | exact H
                have Ny157 := Aside0.mk hy157
                clear hy157
                have H' := Aside0.mk H
                clear H
                go_wp2_with (first | ((with_reducible refine gate_dst (N := 39) rfl ?_); refine Kd.R_make (Kd.int .i64) _ 3 rfl (N := 39) rfl 22 _ _ rfl ((rd_L1 l0 0).length : Int) rfl rfl Try.underlying22 (.int .i64 0) 8 info3 rfl (by decide) (by omega) 0 (ok := fun _ => True) (okp := fun _ => True) rfl (fun _ hk => hk) trivial (of_decide_eq_true (by first | (with_reducible assumption) | assumption)) (Nat.le_trans (Nat.mul_le_mul_right _ (of_decide_eq_true (by first | (with_reducible assumption) | assumption) : ((rd_L1 l0 0).length : Int).toNat ≤ 35184372088832)) (by omega)) (Below.refl _ _) (Nat.le_refl _) ?_; intro v158 w13 ho14 hb hg_ hnew_; clear hg_ hnew_; (first | rw [← Ny157.out] at ho14 | (simp only [Int.reduceToNat] at ho14; rw [← Ny157.out] at ho14)); have n0_ := Aside0.mk (Kd.R_lower ho14 (below_size (by repeat (first | (with_reducible first | exact HB.out | apply below_alloc | apply pw_below_drewN | apply below_drew1) | exact HB.out)))); have n1_ := Aside0.mk (below_step (by repeat (first | (with_reducible first | exact HB.out | apply below_alloc | apply pw_below_drewN | apply below_drew1) | exact HB.out)) hb); clear HB; have HO159 := n0_; have HB := n1_; clear n0_ n1_; clear hb ho14))
                go_loopg [42] k1 (fun kq v42 w' => ∃ (x7_2 : List Int) (x42_2 : Int), v42 = .int .i64 x42_2 ∧ Aside0 (histogram_Merge.l1 kq x7_2 l0 (l0.length : Int) x42_2 = some (r1, r2)) ∧ Aside0 (kq ≤ k1) ∧ Aside0 (Kd.R (Kd.int .i64) 3 w' w.heap.size (fun _ => True) v158 x7_2) ∧ Aside0 (Below w.heap.size w w'))
                case atStart => exact ⟨(y157), (0), (by first | rfl | (simp; done) | (simp [*]; done)), H', ⟨Nat.le_refl _⟩, ⟨by (with_reducible repeat (first | apply Kd.R_alloc | apply Kd.R_drewN | apply Kd.R_drew)); exact HO159.out⟩, ⟨by repeat (first | (with_reducible first | exact HB.out | apply below_alloc | apply pw_below_drewN | apply below_drew1) | exact HB.out)⟩⟩
                case round =>
                  clear H'
                  try clear c1
                  try clear p1
                  try clear q1
                  try clear hx1
                  try clear qi1
                  try clear c2
                  try clear p2
                  try clear c3
                  try clear c4
                  try clear c4b0
                  try clear c4b1
                  try clear c5
                  try clear c5b0
                  try clear c6
                  try clear c6b0
                  try clear p6
                  try clear c7
                  try clear c7b0
                  try clear c8
                  try clear c8b0
                  try clear c8b1
                  try clear c8b2
                  try clear c10
                  try clear c11
                  try clear c11b0
                  try clear c11b1
                  try clear c12
                  try clear c12b0
                  try clear c12b1
                  try clear hx154_0
                  try clear hx155_0
                  try clear p1
                  try clear p154
                  try clear p155
                  try clear p2
                  try clear q1
                  try clear q154
                  try clear q155
                  obtain ⟨x7_2, x42_2, rfl, HA, HK2, HO_7, HB⟩ := hrel
                  cases gk with
                  | zero => exact absurd HA.out (by simp [histogram_Merge.l1])
                  | succ k2 =>
                    have H := HA.out
                    clear HA
                    simp only [histogram_Merge.l1] at H
                    by_cases c15 : x42_2 < (l0.length : Int)
                    · rw [if_pos c15] at H
                      have c15b0 : decide (x42_2 < (l0.length : Int)) = true := decide_eq_true c15
                      clear c15
                      by_cases c16 : 0 ≤ x42_2
                      · rw [if_pos c16] at H
                        have c16b0 : decide (0 ≤ x42_2) = true := decide_eq_true c16
                        clear c16
                        by_cases c17 : x42_2 < (l0.length : Int)
                        · rw [if_pos c17] at H
                          have c17b0 : decide (x42_2 < (l0.length : Int)) = true := decide_eq_true c17
                          clear c17
                          have H' := Aside0.mk H
                          clear H
                          have p160 : 0 ≤ (x42_2 : Int) := of_decide_eq_true (by first | (with_reducible assumption) | assumption)
                          have q160 : x42_2 < (l0.length : Int) := of_decide_eq_true (by first | (with_reducible assumption) | assumption)
                          obtain ⟨ad160, A160_0, c160_0, e160, hx160_0, hl160_0, hi160_0⟩ := at_L1 HR0.out x42_2 p160 q160
                          obtain rfl : ad154 = ad160 := (by injection e160)
                          replace hx160_0 := (HB.out.cell (World.block_lt_of_cell? w _ hx160_0)).trans hx160_0
                          have HR160_0 := Aside0.mk hi160_0
                          have HC160_0 := Aside0.mk hl160_0
                          clear hi160_0 hl160_0
                          replace p160 := eq_true p160
                          replace q160 := eq_true q160
                          go_wp2
                          go_loopg [48] k2 (fun kq v48 w' => ∃ (x7_3 : List Int) (x48_3 : Int), v48 = .int .i64 x48_3 ∧ Aside0 (histogram_Merge.l2 kq x7_3 l0 (l0.length : Int) x42_2 (rd_L1 l0 x42_2) ((rd_L1 l0 x42_2).length : Int) x48_3 = some (r1, r2)) ∧ Aside0 (kq ≤ k2) ∧ Aside0 (Kd.R (Kd.int .i64) 3 w' w.heap.size (fun _ => True) v158 x7_3) ∧ Aside0 (Below w.heap.size w w'))
                          case atStart => exact ⟨(x7_2), (0), (by first | rfl | (simp; done) | (simp [*]; done)), H', ⟨Nat.le_refl _⟩, ⟨by (with_reducible repeat (first | apply Kd.R_alloc | apply Kd.R_drewN | apply Kd.R_drew)); exact HO_7.out⟩, ⟨by repeat (first | (with_reducible first | exact HB.out | apply below_alloc | apply pw_below_drewN | apply below_drew1) | exact HB.out)⟩⟩
                          case round =>
                            clear H'
                            try clear c1
                            try clear p1
                            try clear q1
                            try clear hx1
                            try clear qi1
                            try clear c2
                            try clear p2
                            try clear c3
                            try clear c4
                            try clear c4b0
                            try clear c4b1
                            try clear c5
                            try clear c5b0
                            try clear c6
                            try clear c6b0
                            try clear p6
                            try clear c7
                            try clear c7b0
                            try clear c8
                            try clear c8b0
                            try clear c8b1
                            try clear c8b2
                            try clear c10
                            try clear c11
                            try clear c11b0
                            try clear c11b1
                            try clear c12
                            try clear c12b0
                            try clear c12b1
                            try clear c15
                            try clear c15b0
                            try clear p15
                            try clear q15
                            try clear hx15
                            try clear qi15
                            try clear c16
                            try clear c16b0
                            try clear p16
                            try clear q16
                            try clear hx16
                            try clear c17
                            try clear c17b0
                            try clear hx154_0
                            try clear hx155_0
                            try clear hx160_0
                            try clear p1
                            try clear p154
                            try clear p155
                            try clear p160
                            try clear p2
                            try clear p6
                            try clear q1
                            try clear q154
                            try clear q155
                            try clear q160
                            obtain ⟨x7_3, x48_3, rfl, HA, HK3, HO_7, HB⟩ := hrel
                            cases gk with
                            | zero => exact absurd HA.out (by simp [histogram_Merge.l2])
                            | succ k3 =>
                              have H := HA.out
                              clear HA
                              simp only [histogram_Merge.l2] at H
                              by_cases c18 : x48_3 < ((rd_L1 l0 x42_2).length : Int)
                              · rw [if_pos c18] at H
                                have c18b0 : decide (x48_3 < ((rd_L1 l0 x42_2).length : Int)) = true := decide_eq_true c18
                                clear c18
                                by_cases c19 : 0 ≤ x48_3
                                · rw [if_pos c19] at H
                                  have c19b0 : decide (0 ≤ x48_3) = true := decide_eq_true c19
                                  clear c19
                                  by_cases c20 : x48_3 < ((rd_L1 l0 x42_2).length : Int)
                                  · rw [if_pos c20] at H
                                    have c20b0 : decide (x48_3 < ((rd_L1 l0 x42_2).length : Int)) = true := decide_eq_true c20
                                    clear c20
                                    replace H := Option.bind_eq_some_iff.mp H
                                    obtain ⟨t162, A210, H⟩ := H
                                    replace H : (if t162 = true then (if x48_3 < (x7_3.length : Int) then (histogram_Merge.l2 k3 (x7_3.set (x48_3 : Int).toNat (wrap64 ((rd x7_3 x48_3) + (rd (rd_L1 l0 x42_2) x48_3)))) l0 (l0.length : Int) x42_2 (rd_L1 l0 x42_2) ((rd_L1 l0 x42_2).length : Int) (wrap64 (x48_3 + 1))) else (none)) else (some (([] : List Int), 2))) = some (r1, r2) := H
                                    have A21 := Aside0.mk A210
                                    clear A210
                                    by_cases c22 : t162 = true
                                    · subst c22
                                      have H1 : (if x48_3 < (x7_3.length : Int) then (histogram_Merge.l2 k3 (x7_3.set (x48_3 : Int).toNat (wrap64 ((rd x7_3 x48_3) + (rd (rd_L1 l0 x42_2) x48_3)))) l0 (l0.length : Int) x42_2 (rd_L1 l0 x42_2) ((rd_L1 l0 x42_2).length : Int) (wrap64 (x48_3 + 1))) else (none)) = some (r1, r2) := by rw [if_pos rfl] at H; exact H
                                      clear H
                                      have H := H1
                                      clear H1
                                      by_cases c23 : x48_3 < (x7_3.length : Int)
                                      · rw [if_pos c23] at H
                                        have c23b0 : decide (x48_3 < (x7_3.length : Int)) = true := decide_eq_true c23
                                        clear c23
                                        obtain ⟨y164, hy164⟩ : ∃ y_ : List Int, y_ = (x7_3.set (x48_3 : Int).toNat (wrap64 ((rd x7_3 x48_3) + (rd (rd_L1 l0 x42_2) x48_3)))) := ⟨_, rfl⟩
                                        replace H : (histogram_Merge.l2 k3 y164 l0 (l0.length : Int) x42_2 (rd_L1 l0 x42_2) ((rd_L1 l0 x42_2).length : Int) (wrap64 (x48_3 + 1))) = some (r1, r2) := by first | (rw [hy164]; with_reducible exact H) | (have H2_ := (Option.bind_some _ _).symm.trans H; rw [hy164]; with_reducible exact H2_) | (have H2_ := (Option.bind_some _ _).symm.trans H; with_reducible exact H2_) | with_reducible exact H | (rw [hy164]; exact H) | exact H
                                        have Ny164 := Aside0.mk hy164
                                        clear hy164
                                        have H' := Aside0.mk H
                                        clear H
                                        have p161 : 0 ≤ (x48_3 : Int) := of_decide_eq_true (by first | (with_reducible assumption) | assumption)
                                        have q161 : x48_3 < ((rd_L1 l0 x42_2).length : Int) := of_decide_eq_true (by first | (with_reducible assumption) | assumption)
                                        obtain ⟨ad161, e161, hx161_0⟩ := Kd.at_int HR160_0.out x48_3 p161 q161
                                        cases e161
                                        replace hx161_0 := (HB.out.cell (World.block_lt_of_cell? w _ hx161_0)).trans hx161_0
                                        replace p161 := eq_true p161
                                        replace q161 := eq_true q161
                                        go_wp2_with (first | ((with_reducible refine gate_callee (f := 30) rfl ?_); refine goesL_ (some 54) rfl rfl Try.func30 (by kernel_rfl) rfl #[.int .i64 (rd (rd_L1 l0 x42_2) x48_3), .int .i64 0, .int .i64 4096] rfl (by (try simp only [List.map_toArray, List.map_cons, List.map_nil]); first | done | rfl | (simp only [List.length_drop, List.length_take]; rfl)) ?_; (with_reducible refine (histogram_between.calls (rd (rd_L1 l0 x42_2) x48_3) 0 4096 true _ A21.out).mono ?_); rintro e w' ⟨rfl, ⟨nd, rfl⟩⟩; refine ⟨_, rfl, ?_⟩; (try (rw [drewN_self wr]; generalize hq_ : World.drewN wr _ = wr; have n0_ : Aside0 (Kd.R (Kd.int .i64) 3 wr w.heap.size (fun _ => True) v158 x7_3) := ⟨by rw [← hq_]; exact (by (with_reducible repeat (first | apply Kd.R_alloc | apply Kd.R_drewN | apply Kd.R_drew)); exact HO_7.out)⟩; have n1_ : Aside0 (Below w.heap.size w wr) := ⟨by rw [← hq_]; exact (by repeat (first | (with_reducible first | exact HB.out | apply below_alloc | apply pw_below_drewN | apply below_drew1) | exact HB.out))⟩; clear HO_7 HB hq_; have HO_7 := n0_; have HB := n1_; clear n0_ n1_)); obtain ⟨Ao25, co25, eo25⟩ := Kd.R_slice HO_7.out; subst eo25; have p163 : 0 ≤ (x48_3 : Int) := of_decide_eq_true (by first | (with_reducible assumption) | assumption); have q163 : x48_3 < (x7_3.length : Int) := of_decide_eq_true (by first | (with_reducible assumption) | assumption); obtain ⟨ad163, e163, hx163_0⟩ := Kd.at_int (Kd.R_reads' HO_7.out).2.2 x48_3 p163 q163; cases e163; replace p163 := eq_true p163; replace q163 := eq_true q163; have p24 : 0 ≤ (x48_3 : Int) := of_decide_eq_true (by first | (with_reducible assumption) | assumption); have q24 : (x48_3 : Int) < ((x7_3.length : Int) : Int) := of_decide_eq_true (by first | (with_reducible assumption) | assumption); obtain ⟨go24, co24, eo24, gb24, gl24, cl24, HG24⟩ := Kd.R_form HO_7.out (by omega); (first | cases eo24 | (injection eo24 with ea_ en_ ec_; (first | subst ea_ | (injection ea_ with ea_; subst ea_)); subst ec_; clear en_)); have GB24 := Aside0.mk gb24; have GG24 := Aside0.mk HG24; clear gb24 gl24 HG24; (first | simp only [add_plain] at hx163_0 | skip); obtain ⟨hx24_0, hf24_0⟩ := Kd.R_celln 0 HO_7.out (x48_3 : Int) p24 q24; replace p24 := eq_true p24; replace q24 := eq_true q24; obtain ⟨hy26_, hz26_⟩ := Kd.R_celln 0 HO_7.out (x48_3 : Int) (of_decide_eq_true (by first | (with_reducible assumption) | assumption)) (of_decide_eq_true (by first | (with_reducible assumption) | assumption)); have HP26 := Kd.R_putg HO_7.out (x48_3 : Int) (wrap64 ((rd x7_3 x48_3) + (rd (rd_L1 l0 x42_2) x48_3)))) | ((with_reducible refine gate_store (t := 3) (p := 62) rfl ?_); refine store_event (t := 3) (p := 62) (v := ?vo_w27) (w1 := (wr.setCell ⟨go24, (x48_3 : Int).toNat, none⟩ (.int .i64 (wrap64 ((rd x7_3 x48_3) + (rd (rd_L1 l0 x42_2) x48_3)))))) ?hg ?ho ?hn ?hr ?_; (case ho => rfl); (case hg => rfl); (case hn => rfl); (case hr => first | (go_simp; done) | (go_simp; rfl)); intro w27 hw; have hg : wr.grownBy w27 (some go24) := (by rw [hw]; exact HP26.2); have hp_ : Kd.R (Kd.int .i64) 3 w27 w.heap.size (fun _ => True) (.slice (some ⟨go24, 0, none⟩) x7_3.length co25) y164 := (by rw [hw, Ny164.out]; exact HP26.1); clear HP26; have n0_ := Aside0.mk (hp_); have n1_ := Aside0.mk ((by rw [hw]; exact below_set (HB.out) GB24.out : Below w.heap.size w w27)); clear HO_7; clear HB; have HO_7 := n0_; have HB := n1_; clear n0_ n1_; clear hg hw hp_))
                                        go_roundg k3
                                        case measure => have := HK1.out; have := HK2.out; have := HK3.out; omega
                                        case rel => exact ⟨(y164), (wrap64 (x48_3 + 1)), (by first | rfl | (simp; done) | (simp [*]; done)), H', ⟨by have := HK1.out; have := HK2.out; have := HK3.out; omega⟩, ⟨by (with_reducible repeat (first | apply Kd.R_alloc | apply Kd.R_drewN | apply Kd.R_drew)); exact HO_7.out⟩, ⟨by repeat (first | (with_reducible first | exact HB.out | apply below_alloc | apply pw_below_drewN | apply below_drew1) | exact HB.out)⟩⟩
                                      · rw [if_neg c23] at H
                                        exact absurd H (by simp)
                                    · replace c22 := Bool.eq_false_iff.mpr c22
                                      subst c22
                                      have H1 : (some (([] : List Int), 2)) = some (r1, r2) := by rw [if_neg (show ¬ (false = true) by decide)] at H; exact H
                                      clear H
                                      have H := H1
                                      clear H1
                                      simp only [Option.some.injEq, Prod.mk.injEq] at H
                                      obtain ⟨rfl, rfl⟩ := H
                                      have p161 : 0 ≤ (x48_3 : Int) := of_decide_eq_true (by first | (with_reducible assumption) | assumption)
                                      have q161 : x48_3 < ((rd_L1 l0 x42_2).length : Int) := of_decide_eq_true (by first | (with_reducible assumption) | assumption)
                                      obtain ⟨ad161, e161, hx161_0⟩ := Kd.at_int HR160_0.out x48_3 p161 q161
                                      cases e161
                                      replace hx161_0 := (HB.out.cell (World.block_lt_of_cell? w _ hx161_0)).trans hx161_0
                                      replace p161 := eq_true p161
                                      replace q161 := eq_true q161
                                      go_wp2_with (first | ((with_reducible refine gate_callee (f := 30) rfl ?_); refine goesL_ (some 54) rfl rfl Try.func30 (by kernel_rfl) rfl #[.int .i64 (rd (rd_L1 l0 x42_2) x48_3), .int .i64 0, .int .i64 4096] rfl (by (try simp only [List.map_toArray, List.map_cons, List.map_nil]); first | done | rfl | (simp only [List.length_drop, List.length_take]; rfl)) ?_; (with_reducible refine (histogram_between.calls (rd (rd_L1 l0 x42_2) x48_3) 0 4096 false _ A21.out).mono ?_); rintro e w' ⟨rfl, ⟨nd, rfl⟩⟩; refine ⟨_, rfl, ?_⟩))
                                      go_ret2
                                      exact ⟨_, by first | rfl | (simp [errW_none, errW_some] <;> rfl) | (simp [*, errW_none, errW_some] <;> rfl), by first | exact Kd.R_nil _ _ _ _ _ | exact Kd.N_nil _ _ _ _ _ | exact Kd.V_nil _ _ _ _ _ | exact Kd.Q_nil _ _ _ _ _ | exact Kd.S_nil _ _ _ _ _, by repeat (first | (with_reducible first | exact HB.out | apply below_alloc | apply pw_below_drewN | apply below_drew1) | exact HB.out)⟩
                                  · rw [if_neg c20] at H
                                    exact absurd H (by simp)
                                · rw [if_neg c19] at H
                                  exact absurd H (by simp)
                              · rw [if_neg c18] at H
                                have c18b0 : decide (x48_3 < ((rd_L1 l0 x42_2).length : Int)) = false := decide_eq_false c18
                                clear c18
                                have H' := Aside0.mk H
                                clear H
                                go_wp2
                                go_roundg k3
                                case measure => have := HK1.out; have := HK2.out; have := HK3.out; omega
                                case rel => exact ⟨(x7_3), (wrap64 (x42_2 + 1)), (by first | rfl | (simp; done) | (simp [*]; done)), H', ⟨by have := HK1.out; have := HK2.out; have := HK3.out; omega⟩, ⟨by (with_reducible repeat (first | apply Kd.R_alloc | apply Kd.R_drewN | apply Kd.R_drew)); exact HO_7.out⟩, ⟨by repeat (first | (with_reducible first | exact HB.out | apply below_alloc | apply pw_below_drewN | apply below_drew1) | exact HB.out)⟩⟩
                        · rw [if_neg c17] at H
                          exact absurd H (by simp)
                      · rw [if_neg c16] at H
                        exact absurd H (by simp)
                    · rw [if_neg c15] at H
                      have c15b0 : decide (x42_2 < (l0.length : Int)) = false := decide_eq_false c15
                      clear c15
                      have H' := Aside0.mk H
                      clear H
                      obtain ⟨Ao28, co28, eo28⟩ := Kd.R_slice HO_7.out
                      subst eo28
                      go_wp2
                      go_loopg [67] k2 (fun kq v67 w' => ∃ (x67_3 : Int), v67 = .int .i64 x67_3 ∧ Aside0 (histogram_Merge.l3 kq x7_2 x7_2 (x7_2.length : Int) x67_3 = some (r1, r2)) ∧ Aside0 (kq ≤ k2) ∧ Aside0 (Kd.R (Kd.int .i64) 3 w' w.heap.size (fun _ => True) (.slice Ao28 x7_2.length co28) x7_2) ∧ Aside0 (Kd.R (Kd.int .i64) 3 w' w.heap.size (fun _ => True) (.slice Ao28 x7_2.length co28) x7_2) ∧ Aside0 (Below w.heap.size w w'))
                      case atStart => exact ⟨(0), (by first | rfl | (simp; done) | (simp [*]; done)), H', ⟨Nat.le_refl _⟩, ⟨by (with_reducible repeat (first | apply Kd.R_alloc | apply Kd.R_drewN | apply Kd.R_drew)); exact HO_7.out⟩, ⟨by (with_reducible repeat (first | apply Kd.R_alloc | apply Kd.R_drewN | apply Kd.R_drew)); exact HO_7.out⟩, ⟨by repeat (first | (with_reducible first | exact HB.out | apply below_alloc | apply pw_below_drewN | apply below_drew1) | exact HB.out)⟩⟩
                      case round =>
                        clear H'
                        try clear c1
                        try clear p1
                        try clear q1
                        try clear hx1
                        try clear qi1
                        try clear c2
                        try clear p2
                        try clear q2
                        try clear hx2
                        try clear hf2
                        try clear c3
                        try clear c4
                        try clear c4b0
                        try clear c4b1
                        try clear c5
                        try clear c5b0
                        try clear c6
                        try clear c6b0
                        try clear p6
                        try clear c7
                        try clear c7b0
                        try clear c8
                        try clear c8b0
                        try clear c8b1
                        try clear c8b2
                        try clear c10
                        try clear c11
                        try clear c11b0
                        try clear c11b1
                        try clear c12
                        try clear c12b0
                        try clear c12b1
                        try clear c15
                        try clear c15b0
                        try clear p15
                        try clear q15
                        try clear hx15
                        try clear qi15
                        try clear c16
                        try clear c16b0
                        try clear p16
                        try clear q16
                        try clear hx16
                        try clear c17
                        try clear c17b0
                        try clear c18
                        try clear c18b0
                        try clear c19
                        try clear c19b0
                        try clear c20
                        try clear c20b0
                        try clear c22
                        try clear c23
                        try clear c23b0
                        try clear p24
                        try clear q24
                        try clear hx24
                        try clear hf24
                        try clear c25
                        try clear hx154_0
                        try clear hx155_0
                        try clear hx160_0
                        try clear hx161_0
                        try clear hx163_0
                        try clear hx24_0
                        try clear p1
                        try clear p15
                        try clear p154
                        try clear p155
                        try clear p16
                        try clear p160
                        try clear p161
                        try clear p163
                        try clear p2
                        try clear p24
                        try clear p6
                        try clear q1
                        try clear q15
                        try clear q154
                        try clear q155
                        try clear q16
                        try clear q160
                        try clear q161
                        try clear q163
                        try clear q24
                        obtain ⟨x67_3, rfl, HA, HK3, HO_7, HO_65, HB⟩ := hrel
                        cases gk with
                        | zero => exact absurd HA.out (by simp [histogram_Merge.l3])
                        | succ k3 =>
                          have H := HA.out
                          clear HA
                          simp only [histogram_Merge.l3] at H
                          by_cases c29 : x67_3 < (x7_2.length : Int)
                          · rw [if_pos c29] at H
                            have c29b0 : decide (x67_3 < (x7_2.length : Int)) = true := decide_eq_true c29
                            clear c29
                            by_cases c30 : 0 ≤ x67_3
                            · rw [if_pos c30] at H
                              have c30b0 : decide (0 ≤ x67_3) = true := decide_eq_true c30
                              clear c30
                              by_cases c31 : x67_3 < (x7_2.length : Int)
                              · rw [if_pos c31] at H
                                have c31b0 : decide (x67_3 < (x7_2.length : Int)) = true := decide_eq_true c31
                                clear c31
                                by_cases c32 : (rd x7_2 x67_3) > 4096
                                · rw [if_pos c32] at H
                                  have c32b0 : decide (4096 < (rd x7_2 x67_3)) = true := decide_eq_true c32
                                  clear c32
                                  simp only [Option.some.injEq, Prod.mk.injEq] at H
                                  obtain ⟨rfl, rfl⟩ := H
                                  have p165 : 0 ≤ (x67_3 : Int) := of_decide_eq_true (by first | (with_reducible assumption) | assumption)
                                  have q165 : x67_3 < (x7_2.length : Int) := of_decide_eq_true (by first | (with_reducible assumption) | assumption)
                                  obtain ⟨ad165, e165, hx165_0⟩ := Kd.at_int (Kd.R_reads' HO_65.out).2.2 x67_3 p165 q165
                                  cases e165
                                  replace p165 := eq_true p165
                                  replace q165 := eq_true q165
                                  go_wp2
                                  go_ret2
                                  exact ⟨_, by first | rfl | (simp [errW_none, errW_some] <;> rfl) | (simp [*, errW_none, errW_some] <;> rfl), by first | exact Kd.R_nil _ _ _ _ _ | exact Kd.N_nil _ _ _ _ _ | exact Kd.V_nil _ _ _ _ _ | exact Kd.Q_nil _ _ _ _ _ | exact Kd.S_nil _ _ _ _ _, by repeat (first | (with_reducible first | exact HB.out | apply below_alloc | apply pw_below_drewN | apply below_drew1) | exact HB.out)⟩
                                · rw [if_neg c32] at H
                                  have c32b0 : decide (4096 < (rd x7_2 x67_3)) = false := decide_eq_false c32
                                  clear c32
                                  have H' := Aside0.mk H
                                  clear H
                                  have p165 : 0 ≤ (x67_3 : Int) := of_decide_eq_true (by first | (with_reducible assumption) | assumption)
                                  have q165 : x67_3 < (x7_2.length : Int) := of_decide_eq_true (by first | (with_reducible assumption) | assumption)
                                  obtain ⟨ad165, e165, hx165_0⟩ := Kd.at_int (Kd.R_reads' HO_65.out).2.2 x67_3 p165 q165
                                  cases e165
                                  replace p165 := eq_true p165
                                  replace q165 := eq_true q165
                                  go_wp2
                                  go_roundg k3
                                  case measure => have := HK1.out; have := HK2.out; have := HK3.out; omega
                                  case rel => exact ⟨(wrap64 (x67_3 + 1)), (by first | rfl | (simp; done) | (simp [*]; done)), H', ⟨by have := HK1.out; have := HK2.out; have := HK3.out; omega⟩, ⟨by (with_reducible repeat (first | apply Kd.R_alloc | apply Kd.R_drewN | apply Kd.R_drew)); exact HO_7.out⟩, ⟨by (with_reducible repeat (first | apply Kd.R_alloc | apply Kd.R_drewN | apply Kd.R_drew)); exact HO_65.out⟩, ⟨by repeat (first | (with_reducible first | exact HB.out | apply below_alloc | apply pw_below_drewN | apply below_drew1) | exact HB.out)⟩⟩
                              · rw [if_neg c31] at H
                                exact absurd H (by simp)
                            · rw [if_neg c30] at H
                              exact absurd H (by simp)
                          · rw [if_neg c29] at H
                            have c29b0 : decide (x67_3 < (x7_2.length : Int)) = false := decide_eq_false c29
                            clear c29
                            simp only [Option.some.injEq, Prod.mk.injEq] at H
                            obtain ⟨rfl, rfl⟩ := H
                            go_wp2
                            go_ret2
                            exact ⟨_, by first | rfl | (simp [errW_none, errW_some] <;> rfl) | (simp [*, errW_none, errW_some] <;> rfl), by (with_reducible repeat (first | apply Kd.R_alloc | apply Kd.R_drewN | apply Kd.R_drew)); exact HO_7.out, by repeat (first | (with_reducible first | exact HB.out | apply below_alloc | apply pw_below_drewN | apply below_drew1) | exact HB.out)⟩
              · rw [if_neg c12] at H
                exact absurd H (by simp)
            · rw [if_neg c11] at H
              exact absurd H (by simp)
    · rw [if_neg c4] at H
      exact absurd H (by simp)
  · replace c3 := Bool.eq_false_iff.mpr c3
    subst c3
    have H1 : (some (([] : List Int), 5)) = some (r1, r2) := by rw [if_neg (show ¬ (false = true) by decide)] at H; exact H
    clear H
    have H := H1
    clear H1
    simp only [Option.some.injEq, Prod.mk.injEq] at H
    obtain ⟨rfl, rfl⟩ := H
    go_enter Try.func25, Try.ntmps25
    go_wp2_with (first | ((with_reducible refine gate_callee (f := 30) rfl ?_); refine goesL_ (some 16) rfl rfl Try.func30 (by kernel_rfl) rfl #[.int .i64 (l0.length : Int), .int .i64 1, .int .i64 4096] rfl (by (try simp only [List.map_toArray, List.map_cons, List.map_nil]); first | done | rfl | (simp only [List.length_drop, List.length_take]; rfl)) ?_; (with_reducible refine (histogram_between.calls (l0.length : Int) 1 4096 false _ A2.out).mono ?_); rintro e w' ⟨rfl, ⟨nd, rfl⟩⟩; refine ⟨_, rfl, ?_⟩))
    go_ret2
    exact ⟨_, by first | rfl | (simp [errW_none, errW_some] <;> rfl) | (simp [*, errW_none, errW_some] <;> rfl), by first | exact Kd.R_nil _ _ _ _ _ | exact Kd.N_nil _ _ _ _ _ | exact Kd.V_nil _ _ _ _ _ | exact Kd.Q_nil _ _ _ _ _ | exact Kd.S_nil _ _ _ _ _, by repeat (first | (with_reducible first | exact HB.out | apply below_alloc | apply pw_below_drewN | apply below_drew1) | exact HB.out)⟩

/-! ### tilefarmlaw12_sane: function 16 -/
def tilefarmlaw12_sane.f (k : Nat)  : Option (Bool) := (some (([63, 64] : List Int) : List Int)).bind fun y166 => ((histogram_Partial.f k 2 1 255 y166 4 0 0 2 1).bind fun bt170 => ((histogram_Whole.f k 2 1 255 y166 4).bind fun bt174 => ((histogram_Merge.f k (([(([1, 2] : List Int)), (([3, 4] : List Int))] : List (List Int)))).bind fun bt191 => ((histogram_Bin.f 63 255 4).bind fun t195 => (if t195 = 0 then ((histogram_Bin.f 64 255 4).bind fun t196 => (if t196 = 1 then (if bt170.2 = 0 then (if (bt170.1.length : Int) = 4 then (if 1 < (bt170.1.length : Int) then (if (rd bt170.1 1) = 1 then (if bt174.2.2.2.2 = 0 then (if bt174.2.2.1 = 2 then (if bt191.2 = 0 then (if (bt191.1.length : Int) = 2 then (if 1 < (bt191.1.length : Int) then (some ((rd bt191.1 1) == 6)) else (none)) else (some false)) else (some false)) else (some false)) else (some false)) else (some false)) else (none)) else (some false)) else (some false)) else (some false))) else (some false))))))
theorem tilefarmlaw12_sane.mono : ∀ k, LeO (tilefarmlaw12_sane.f k ) (tilefarmlaw12_sane.f (k + 1) ) := by
  intro  k
  unfold tilefarmlaw12_sane.f
  repeat' first
      | (with_reducible exact histogram_Merge.mono _ _)
      | (with_reducible exact histogram_Partial.mono _ _ _ _ _ _ _ _ _ _)
      | (with_reducible exact histogram_Whole.mono _ _ _ _ _ _)
      | (with_reducible exact LeO.refl _)
      | (with_reducible exact LeO.none _)
      | (with_reducible refine LeO.ite ?_ ?_)
      | (with_reducible refine LeO.bind ?_ (fun _ => ?_))
      | exact histogram_Merge.mono _ _
      | exact histogram_Partial.mono _ _ _ _ _ _ _ _ _ _
      | exact histogram_Whole.mono _ _ _ _ _ _
      | exact LeO.none _
      | refine LeO.ite ?_ ?_
      | refine LeO.bind ?_ (fun _ => ?_)
set_option maxHeartbeats 8000000 in
set_option maxRecDepth 100000 in
theorem tilefarmlaw12_sane.calls (k : Nat)  (r : Bool) (w : World) (h : tilefarmlaw12_sane.f k  = some r) (hT : r = true := by first | rfl | assumption | exact HT.out) :
    Calls Try.prog 16 #[] w fun e w' => e = .returned (.bool r) ∧ Below w.heap.size w w' := by
  have HT := Aside0.mk hT
  clear hT
  have hu26 := Try.underlying26
  have hu39 := Try.underlying39
  have HB := Aside0.mk (Below.refl w.heap.size w)
  have H : ((some (([63, 64] : List Int) : List Int)).bind fun y166 => ((histogram_Partial.f k 2 1 255 y166 4 0 0 2 1).bind fun bt170 => ((histogram_Whole.f k 2 1 255 y166 4).bind fun bt174 => ((histogram_Merge.f k (([(([1, 2] : List Int)), (([3, 4] : List Int))] : List (List Int)))).bind fun bt191 => ((histogram_Bin.f 63 255 4).bind fun t195 => (if t195 = 0 then ((histogram_Bin.f 64 255 4).bind fun t196 => (if t196 = 1 then (if bt170.2 = 0 then (if (bt170.1.length : Int) = 4 then (if 1 < (bt170.1.length : Int) then (if (rd bt170.1 1) = 1 then (if bt174.2.2.2.2 = 0 then (if bt174.2.2.1 = 2 then (if bt191.2 = 0 then (if (bt191.1.length : Int) = 2 then (if 1 < (bt191.1.length : Int) then (some ((rd bt191.1 1) == 6)) else (none)) else (some false)) else (some false)) else (some false)) else (some false)) else (some false)) else (none)) else (some false)) else (some false)) else (some false))) else (some false))))))) = some r := h
  clear h
  obtain ⟨y166, hy166⟩ : ∃ y_ : List Int, y_ = (([63, 64] : List Int)) := ⟨_, rfl⟩
  replace H : ((histogram_Partial.f k 2 1 255 y166 4 0 0 2 1).bind fun bt170 => ((histogram_Whole.f k 2 1 255 y166 4).bind fun bt174 => ((histogram_Merge.f k (([(([1, 2] : List Int)), (([3, 4] : List Int))] : List (List Int)))).bind fun bt191 => ((histogram_Bin.f 63 255 4).bind fun t195 => (if t195 = 0 then ((histogram_Bin.f 64 255 4).bind fun t196 => (if t196 = 1 then (if bt170.2 = 0 then (if (bt170.1.length : Int) = 4 then (if 1 < (bt170.1.length : Int) then (if (rd bt170.1 1) = 1 then (if bt174.2.2.2.2 = 0 then (if bt174.2.2.1 = 2 then (if bt191.2 = 0 then (if (bt191.1.length : Int) = 2 then (if 1 < (bt191.1.length : Int) then (some ((rd bt191.1 1) == 6)) else (none)) else (some false)) else (some false)) else (some false)) else (some false)) else (some false)) else (none)) else (some false)) else (some false)) else (some false))) else (some false)))))) = some r := by first | (rw [hy166]; with_reducible exact H) | (have H2_ := (Option.bind_some _ _).symm.trans H; rw [hy166]; with_reducible exact H2_) | (have H2_ := (Option.bind_some _ _).symm.trans H; with_reducible exact H2_) | with_reducible exact H | (rw [hy166]; exact H) | exact H
  have Ny166 := Aside0.mk hy166
  clear hy166
  replace H := Option.bind_eq_some_iff.mp H
  obtain ⟨⟨t170, t173⟩, A10, H⟩ := H
  replace H : ((histogram_Whole.f k 2 1 255 y166 4).bind fun bt174 => ((histogram_Merge.f k (([(([1, 2] : List Int)), (([3, 4] : List Int))] : List (List Int)))).bind fun bt191 => ((histogram_Bin.f 63 255 4).bind fun t195 => (if t195 = 0 then ((histogram_Bin.f 64 255 4).bind fun t196 => (if t196 = 1 then (if t173 = 0 then (if (t170.length : Int) = 4 then (if 1 < (t170.length : Int) then (if (rd t170 1) = 1 then (if bt174.2.2.2.2 = 0 then (if bt174.2.2.1 = 2 then (if bt191.2 = 0 then (if (bt191.1.length : Int) = 2 then (if 1 < (bt191.1.length : Int) then (some ((rd bt191.1 1) == 6)) else (none)) else (some false)) else (some false)) else (some false)) else (some false)) else (some false)) else (none)) else (some false)) else (some false)) else (some false))) else (some false))))) = some r := H
  have A1 := Aside0.mk A10
  clear A10
  replace H := Option.bind_eq_some_iff.mp H
  obtain ⟨⟨t174, t175, t176, t177, t180⟩, A20, H⟩ := H
  replace H : ((histogram_Merge.f k (([(([1, 2] : List Int)), (([3, 4] : List Int))] : List (List Int)))).bind fun bt191 => ((histogram_Bin.f 63 255 4).bind fun t195 => (if t195 = 0 then ((histogram_Bin.f 64 255 4).bind fun t196 => (if t196 = 1 then (if t173 = 0 then (if (t170.length : Int) = 4 then (if 1 < (t170.length : Int) then (if (rd t170 1) = 1 then (if t180 = 0 then (if t176 = 2 then (if bt191.2 = 0 then (if (bt191.1.length : Int) = 2 then (if 1 < (bt191.1.length : Int) then (some ((rd bt191.1 1) == 6)) else (none)) else (some false)) else (some false)) else (some false)) else (some false)) else (some false)) else (none)) else (some false)) else (some false)) else (some false))) else (some false)))) = some r := H
  have A2 := Aside0.mk A20
  clear A20
  obtain ⟨y182, hy182⟩ : ∃ y_ : List Int, y_ = (([1, 2] : List Int)) := ⟨_, rfl⟩
  replace H : ((histogram_Merge.f k (([y182, (([3, 4] : List Int))] : List (List Int)))).bind fun bt191 => ((histogram_Bin.f 63 255 4).bind fun t195 => (if t195 = 0 then ((histogram_Bin.f 64 255 4).bind fun t196 => (if t196 = 1 then (if t173 = 0 then (if (t170.length : Int) = 4 then (if 1 < (t170.length : Int) then (if (rd t170 1) = 1 then (if t180 = 0 then (if t176 = 2 then (if bt191.2 = 0 then (if (bt191.1.length : Int) = 2 then (if 1 < (bt191.1.length : Int) then (some ((rd bt191.1 1) == 6)) else (none)) else (some false)) else (some false)) else (some false)) else (some false)) else (some false)) else (none)) else (some false)) else (some false)) else (some false))) else (some false)))) = some r := by first | (rw [hy182]; with_reducible exact H) | (have H2_ := (Option.bind_some _ _).symm.trans H; rw [hy182]; with_reducible exact H2_) | (have H2_ := (Option.bind_some _ _).symm.trans H; with_reducible exact H2_) | with_reducible exact H | (rw [hy182]; exact H) | exact H
  have Ny182 := Aside0.mk hy182
  clear hy182
  obtain ⟨y185, hy185⟩ : ∃ y_ : List Int, y_ = (([3, 4] : List Int)) := ⟨_, rfl⟩
  replace H : ((histogram_Merge.f k (([y182, y185] : List (List Int)))).bind fun bt191 => ((histogram_Bin.f 63 255 4).bind fun t195 => (if t195 = 0 then ((histogram_Bin.f 64 255 4).bind fun t196 => (if t196 = 1 then (if t173 = 0 then (if (t170.length : Int) = 4 then (if 1 < (t170.length : Int) then (if (rd t170 1) = 1 then (if t180 = 0 then (if t176 = 2 then (if bt191.2 = 0 then (if (bt191.1.length : Int) = 2 then (if 1 < (bt191.1.length : Int) then (some ((rd bt191.1 1) == 6)) else (none)) else (some false)) else (some false)) else (some false)) else (some false)) else (some false)) else (none)) else (some false)) else (some false)) else (some false))) else (some false)))) = some r := by first | (rw [hy185]; with_reducible exact H) | (have H2_ := (Option.bind_some _ _).symm.trans H; rw [hy185]; with_reducible exact H2_) | (have H2_ := (Option.bind_some _ _).symm.trans H; with_reducible exact H2_) | with_reducible exact H | (rw [hy185]; exact H) | exact H
  have Ny185 := Aside0.mk hy185
  clear hy185
  obtain ⟨y188, hy188⟩ : ∃ y_ : List (List Int), y_ = (([y182, y185] : List (List Int))) := ⟨_, rfl⟩
  replace H : ((histogram_Merge.f k y188).bind fun bt191 => ((histogram_Bin.f 63 255 4).bind fun t195 => (if t195 = 0 then ((histogram_Bin.f 64 255 4).bind fun t196 => (if t196 = 1 then (if t173 = 0 then (if (t170.length : Int) = 4 then (if 1 < (t170.length : Int) then (if (rd t170 1) = 1 then (if t180 = 0 then (if t176 = 2 then (if bt191.2 = 0 then (if (bt191.1.length : Int) = 2 then (if 1 < (bt191.1.length : Int) then (some ((rd bt191.1 1) == 6)) else (none)) else (some false)) else (some false)) else (some false)) else (some false)) else (some false)) else (none)) else (some false)) else (some false)) else (some false))) else (some false)))) = some r := by first | (rw [hy188]; with_reducible exact H) | (have H2_ := (Option.bind_some _ _).symm.trans H; rw [hy188]; with_reducible exact H2_) | (have H2_ := (Option.bind_some _ _).symm.trans H; with_reducible exact H2_) | with_reducible exact H | (rw [hy188]; exact H) | exact H
  have Ny188 := Aside0.mk hy188
  clear hy188
  replace H := Option.bind_eq_some_iff.mp H
  obtain ⟨⟨t191, t192⟩, A30, H⟩ := H
  replace H : ((histogram_Bin.f 63 255 4).bind fun t195 => (if t195 = 0 then ((histogram_Bin.f 64 255 4).bind fun t196 => (if t196 = 1 then (if t173 = 0 then (if (t170.length : Int) = 4 then (if 1 < (t170.length : Int) then (if (rd t170 1) = 1 then (if t180 = 0 then (if t176 = 2 then (if t192 = 0 then (if (t191.length : Int) = 2 then (if 1 < (t191.length : Int) then (some ((rd t191 1) == 6)) else (none)) else (some false)) else (some false)) else (some false)) else (some false)) else (some false)) else (none)) else (some false)) else (some false)) else (some false))) else (some false))) = some r := H
  have A3 := Aside0.mk A30
  clear A30
  replace H := Option.bind_eq_some_iff.mp H
  obtain ⟨t195, A40, H⟩ := H
  replace H : (if t195 = 0 then ((histogram_Bin.f 64 255 4).bind fun t196 => (if t196 = 1 then (if t173 = 0 then (if (t170.length : Int) = 4 then (if 1 < (t170.length : Int) then (if (rd t170 1) = 1 then (if t180 = 0 then (if t176 = 2 then (if t192 = 0 then (if (t191.length : Int) = 2 then (if 1 < (t191.length : Int) then (some ((rd t191 1) == 6)) else (none)) else (some false)) else (some false)) else (some false)) else (some false)) else (some false)) else (none)) else (some false)) else (some false)) else (some false))) else (some false)) = some r := H
  have A4 := Aside0.mk A40
  clear A40
  by_cases c5 : t195 = 0
  · rw [if_pos c5] at H
    have c5b0 : (t195 == 0) = true := beq_iff_eq.mpr c5
    have c5b1 : (t195 != 0) = false := bne_eq_false_iff_eq.mpr c5
    clear c5
    replace H := Option.bind_eq_some_iff.mp H
    obtain ⟨t196, A60, H⟩ := H
    replace H : (if t196 = 1 then (if t173 = 0 then (if (t170.length : Int) = 4 then (if 1 < (t170.length : Int) then (if (rd t170 1) = 1 then (if t180 = 0 then (if t176 = 2 then (if t192 = 0 then (if (t191.length : Int) = 2 then (if 1 < (t191.length : Int) then (some ((rd t191 1) == 6)) else (none)) else (some false)) else (some false)) else (some false)) else (some false)) else (some false)) else (none)) else (some false)) else (some false)) else (some false)) = some r := H
    have A6 := Aside0.mk A60
    clear A60
    by_cases c7 : t196 = 1
    · rw [if_pos c7] at H
      have c7b0 : (t196 == 1) = true := beq_iff_eq.mpr c7
      have c7b1 : (t196 != 1) = false := bne_eq_false_iff_eq.mpr c7
      clear c7
      by_cases c8 : t173 = 0
      · rw [if_pos c8] at H
        have c8b0 : (t173 == 0) = true := beq_iff_eq.mpr c8
        have c8b1 : (t173 != 0) = false := bne_eq_false_iff_eq.mpr c8
        clear c8
        by_cases c9 : (t170.length : Int) = 4
        · rw [if_pos c9] at H
          have c9b0 : ((t170.length : Int) == 4) = true := beq_iff_eq.mpr c9
          have c9b1 : ((t170.length : Int) != 4) = false := bne_eq_false_iff_eq.mpr c9
          clear c9
          by_cases c10 : 1 < (t170.length : Int)
          · rw [if_pos c10] at H
            have c10b0 : decide (1 < (t170.length : Int)) = true := decide_eq_true c10
            have c10b1 : decide (1 < t170.length) = true := decide_eq_true (by omega)
            clear c10
            by_cases c11 : (rd t170 1) = 1
            · rw [if_pos c11] at H
              have c11b0 : ((rd t170 1) == 1) = true := beq_iff_eq.mpr c11
              have c11b1 : ((rd t170 1) != 1) = false := bne_eq_false_iff_eq.mpr c11
              clear c11
              by_cases c12 : t180 = 0
              · rw [if_pos c12] at H
                have c12b0 : (t180 == 0) = true := beq_iff_eq.mpr c12
                have c12b1 : (t180 != 0) = false := bne_eq_false_iff_eq.mpr c12
                clear c12
                by_cases c13 : t176 = 2
                · rw [if_pos c13] at H
                  have c13b0 : (t176 == 2) = true := beq_iff_eq.mpr c13
                  have c13b1 : (t176 != 2) = false := bne_eq_false_iff_eq.mpr c13
                  clear c13
                  by_cases c14 : t192 = 0
                  · rw [if_pos c14] at H
                    have c14b0 : (t192 == 0) = true := beq_iff_eq.mpr c14
                    have c14b1 : (t192 != 0) = false := bne_eq_false_iff_eq.mpr c14
                    clear c14
                    by_cases c15 : (t191.length : Int) = 2
                    · rw [if_pos c15] at H
                      have c15b0 : ((t191.length : Int) == 2) = true := beq_iff_eq.mpr c15
                      have c15b1 : ((t191.length : Int) != 2) = false := bne_eq_false_iff_eq.mpr c15
                      clear c15
                      by_cases c16 : 1 < (t191.length : Int)
                      · rw [if_pos c16] at H
                        have c16b0 : decide (1 < (t191.length : Int)) = true := decide_eq_true c16
                        have c16b1 : decide (1 < t191.length) = true := decide_eq_true (by omega)
                        clear c16
                        obtain rfl := Option.some.inj H
                        go_enter Try.func16, Try.ntmps16
                        go_wp2_with (first | ((with_reducible refine gate_dst (N := 8) rfl ?_); (try (refine gate_guard (by rfl) ?_; dsimp only)); refine Kd.R_lit (Kd.int .i64) _ 3 ?hg (N := 8) ?hd (xs := ([63, 64] : List Int)) (inner := [.int .i64 63, .int .i64 64]) (ok := fun _ => True) (okp := fun _ => True) ?hr ?hp (fun _ hk => hk) trivial (Below.refl _ _) (Nat.le_refl _) (by simp) ?_; (case hd => rfl); (case hg => rfl); (case hr => first | (go_simp; done) | (go_simp; rfl)); (case hp => exact (Reps.one (show Kd.M (Kd.int .i64) _ _ _ 63 [.int .i64 63] from rfl) (Reps.one (show Kd.M (Kd.int .i64) _ _ _ 64 [.int .i64 64] from rfl) (Reps.none _ _)))); intro v167 w17 ho18 hb hg_ hnew_; clear hg_ hnew_; (first | rw [← Ny166.out] at ho18 | (simp only [Int.reduceToNat] at ho18; rw [← Ny166.out] at ho18)); have n0_ := Aside0.mk (Kd.R_lower ho18 (below_size (by repeat (first | (with_reducible first | exact HB.out | apply below_alloc | apply pw_below_drewN | apply below_drew1) | exact HB.out)))); have n1_ := Aside0.mk (below_step (by repeat (first | (with_reducible first | exact HB.out | apply below_alloc | apply pw_below_drewN | apply below_drew1) | exact HB.out)) hb); clear HB; have HO168 := n0_; have HB := n1_; clear n0_ n1_; clear hb ho18; obtain ⟨Ao19, co19, eo19⟩ := Kd.R_slice HO168.out; subst eo19) | ((with_reducible refine gate_dst (N := 1) rfl ?_); (try (refine gate_guard (by rfl) ?_; dsimp only)); refine box_event ?hg (N := 1) ?hd (cs := #[.int .i64 0, .int .i64 0, .int .i64 0, .slice none 0 0]) (t := 26) ?hr ?_; (case hd => rfl); (case hg => rfl); (case hr => first | (go_simp; done) | (go_simp; rfl)); intro gb169 hg w20 hbox hb; have n0_ := Aside0.mk (Kd.R_below (by (with_reducible repeat (first | apply Kd.R_alloc | apply Kd.R_drewN | apply Kd.R_drew)); exact HO168.out) hb); have n1_ := Aside0.mk (below_step (by repeat (first | (with_reducible first | exact HB.out | apply below_alloc | apply pw_below_drewN | apply below_drew1) | exact HB.out)) hb); have n2_ := Aside0.mk (hbox); have n3_ := Aside0.mk ((by rw [hg]; exact (below_size (by repeat (first | (with_reducible first | exact HB.out | apply below_alloc | apply pw_below_drewN | apply below_drew1) | exact HB.out))) : w.heap.size ≤ gb169)); have n4_ := Aside0.mk ((by rw [hg]; exact (below_size (by repeat (first | (with_reducible first | exact HB.out | apply below_alloc | apply pw_below_drewN | apply below_drew1) | exact HB.out))) : w.heap.size ≤ gb169)); clear HO168; clear HB; have HO168 := n0_; have HB := n1_; have BK169 := n2_; have GW169 := n3_; have GE169 := n4_; clear n0_ n1_ n2_ n3_ n4_; clear hb hbox hg; have hcz21_0 : w20.cell? ⟨gb169, 0, none⟩ = some (.int .i64 0) := (blk_cell BK169.out 0).trans rfl; have hcz21_1 : w20.cell? ⟨gb169, 1, none⟩ = some (.int .i64 0) := (blk_cell BK169.out 1).trans rfl; have hcz21_2 : w20.cell? ⟨gb169, 2, none⟩ = some (.int .i64 0) := (blk_cell BK169.out 2).trans rfl; have hcz21_3 : w20.cell? ⟨gb169, 3, none⟩ = some (.slice none 0 0) := (blk_cell BK169.out 3).trans rfl; have hfz21_0 := blk_frozen BK169.out 0; have hfz21_1 := blk_frozen BK169.out 1; have hfz21_2 := blk_frozen BK169.out 2; have hfz21_3 := blk_frozen BK169.out 3) | ((with_reducible refine gate_callee (f := 21) rfl ?_); refine goesL_ (some 13) rfl rfl Try.func21 (by kernel_rfl) rfl #[.agg #[.int .i64 2, .int .i64 1, .int .i64 255, .slice Ao19 y166.length co19], .int .i64 4, .agg #[.int .i64 0, .int .i64 0, .int .i64 2, .int .i64 1]] rfl (by (try simp only [List.map_toArray, List.map_cons, List.map_nil]); first | done | rfl | (simp only [List.length_drop, List.length_take]; rfl)) ?_; (with_reducible refine (histogram_Partial.calls k 2 1 255 _ _ y166 4 0 0 2 1 t170 t173 _ ?side1 ?side2 A1.out).mono ?_); (case side1 => refine (Kd.R_reads' (e := 3) (base := w.heap.size) (ok := fun k_ => True) (n := y166.length) (c := co19) ?_).2.2; exact (by (with_reducible repeat (first | apply Kd.R_alloc | apply Kd.R_drewN | apply Kd.R_drew)); exact (Kd.R_mono (Kd.R_far (p := ⟨gb169, 3, none⟩) (Kd.R_far (p := ⟨gb169, 2, none⟩) (Kd.R_far (p := ⟨gb169, 1, none⟩) (Kd.R_far (p := ⟨gb169, 0, none⟩) (Kd.R_types HO168.out BK169.out (by decide)) (fun _ hk => hk.2) (.int .i64 2)) (fun _ hk => hk.2) (.int .i64 1)) (fun _ hk => hk.2) (.int .i64 255)) (fun _ hk => hk.2) (.slice Ao19 y166.length co19)) (fun _ h_ => h_.1)))); (case side2 => exact (Kd.R_reads' HO168.out).2.1); rintro e w22 ⟨v171, rfl, ho0, hb⟩; refine ⟨_, rfl, ?_⟩; have n0_ := Aside0.mk (Kd.R_elder' (by (with_reducible repeat (first | apply Kd.R_alloc | apply Kd.R_drewN | apply Kd.R_drew)); exact (Kd.R_mono (Kd.R_far (p := ⟨gb169, 3, none⟩) (Kd.R_far (p := ⟨gb169, 2, none⟩) (Kd.R_far (p := ⟨gb169, 1, none⟩) (Kd.R_far (p := ⟨gb169, 0, none⟩) (Kd.R_types HO168.out BK169.out (by decide)) (fun _ hk => hk.2) (.int .i64 2)) (fun _ hk => hk.2) (.int .i64 1)) (fun _ hk => hk.2) (.int .i64 255)) (fun _ hk => hk.2) (.slice Ao19 y166.length co19)) (fun _ h_ => h_.1))) (Kd.R_base ho0) hb); have n1_ := Aside0.mk (Kd.R_lower (Kd.R_new' ho0 (Kd.R_lt (by (with_reducible repeat (first | apply Kd.R_alloc | apply Kd.R_drewN | apply Kd.R_drew)); exact (Kd.R_mono (Kd.R_far (p := ⟨gb169, 3, none⟩) (Kd.R_far (p := ⟨gb169, 2, none⟩) (Kd.R_far (p := ⟨gb169, 1, none⟩) (Kd.R_far (p := ⟨gb169, 0, none⟩) (Kd.R_types HO168.out BK169.out (by decide)) (fun _ hk => hk.2) (.int .i64 2)) (fun _ hk => hk.2) (.int .i64 1)) (fun _ hk => hk.2) (.int .i64 255)) (fun _ hk => hk.2) (.slice Ao19 y166.length co19)) (fun _ h_ => h_.1))))) (below_size (by repeat (first | (with_reducible first | exact HB.out | apply below_alloc | apply pw_below_drewN | apply below_drew1 | refine below_set ?_ GE169.out) | exact HB.out)))); have n2_ := Aside0.mk (blk_below (g := gb169) (o := .cells #[.int .i64 2, .int .i64 1, .int .i64 255, .slice Ao19 y166.length co19] 26 (0, 0)) (by (with_reducible repeat (first | refine blk_drewN ?_ _ | refine blk_drew ?_ | refine blk_alloc ?_ _)); refine blk_put (cs := #[.int .i64 2, .int .i64 1, .int .i64 255, .slice none 0 0]) ?_ 3 _ rfl; (with_reducible repeat (first | refine blk_drewN ?_ _ | refine blk_drew ?_ | refine blk_alloc ?_ _)); refine blk_put (cs := #[.int .i64 2, .int .i64 1, .int .i64 0, .slice none 0 0]) ?_ 2 _ rfl; (with_reducible repeat (first | refine blk_drewN ?_ _ | refine blk_drew ?_ | refine blk_alloc ?_ _)); refine blk_put (cs := #[.int .i64 2, .int .i64 0, .int .i64 0, .slice none 0 0]) ?_ 1 _ rfl; (with_reducible repeat (first | refine blk_drewN ?_ _ | refine blk_drew ?_ | refine blk_alloc ?_ _)); refine blk_put (cs := #[.int .i64 0, .int .i64 0, .int .i64 0, .slice none 0 0]) ?_ 0 _ rfl; (with_reducible repeat (first | refine blk_drewN ?_ _ | refine blk_drew ?_ | refine blk_alloc ?_ _)); exact BK169.out) hb); have n3_ := Aside0.mk (below_step (by repeat (first | (with_reducible first | exact HB.out | apply below_alloc | apply pw_below_drewN | apply below_drew1 | refine below_set ?_ GE169.out) | exact HB.out)) hb); clear HO168; clear BK169; clear HB; have HO168 := n0_; have HO172 := n1_; have BK169 := n2_; have HB := n3_; clear n0_ n1_ n2_ n3_; (try clear hb); (try clear hb2); (try clear hk); (try clear hi); (try clear ho0); have hcz23_0 : w22.cell? ⟨gb169, 0, none⟩ = some (.int .i64 2) := (blk_cell BK169.out 0).trans rfl; have hcz23_1 : w22.cell? ⟨gb169, 1, none⟩ = some (.int .i64 1) := (blk_cell BK169.out 1).trans rfl; have hcz23_2 : w22.cell? ⟨gb169, 2, none⟩ = some (.int .i64 255) := (blk_cell BK169.out 2).trans rfl; have hcz23_3 : w22.cell? ⟨gb169, 3, none⟩ = some (.slice Ao19 y166.length co19) := (blk_cell BK169.out 3).trans rfl; have hfz23_0 := blk_frozen BK169.out 0; have hfz23_1 := blk_frozen BK169.out 1; have hfz23_2 := blk_frozen BK169.out 2; have hfz23_3 := blk_frozen BK169.out 3) | ((with_reducible refine gate_callee (f := 12) rfl ?_); refine goesL_ (some 18) rfl rfl Try.func12 (by kernel_rfl) rfl #[.agg #[.int .i64 2, .int .i64 1, .int .i64 255, .slice Ao19 y166.length co19], .int .i64 4] rfl (by (try simp only [List.map_toArray, List.map_cons, List.map_nil]); first | done | rfl | (simp only [List.length_drop, List.length_take]; rfl)) ?_; (with_reducible refine (histogram_Whole.calls k 2 1 255 _ _ y166 4 t174 t175 t176 t177 t180 _ ?side1 ?side2 A2.out).mono ?_); (case side1 => repeat (first | exact (Kd.R_reads' HO168.out).2.2 | (with_reducible refine Kd.C_alloc ?_ _) | (with_reducible refine Kd.C_drewN ?_ _) | (with_reducible refine Kd.C_drew ?_))); (case side2 => exact (Kd.R_reads' HO168.out).2.1); rintro e w24 ⟨v178, rfl, ho0, hb⟩; refine ⟨_, rfl, ?_⟩; have n0_ := Aside0.mk (Kd.R_elder' (by (with_reducible repeat (first | apply Kd.R_alloc | apply Kd.R_drewN | apply Kd.R_drew)); exact HO168.out) (Kd.R_base ho0) hb); have n1_ := Aside0.mk (Kd.R_elder' (by (with_reducible repeat (first | apply Kd.R_alloc | apply Kd.R_drewN | apply Kd.R_drew)); exact HO172.out) (Kd.R_base ho0) hb); have n2_ := Aside0.mk (Kd.R_lower (Kd.R_new' (Kd.R_new' ho0 (Kd.R_lt (by (with_reducible repeat (first | apply Kd.R_alloc | apply Kd.R_drewN | apply Kd.R_drew)); exact HO168.out))) (Kd.R_lt (by (with_reducible repeat (first | apply Kd.R_alloc | apply Kd.R_drewN | apply Kd.R_drew)); exact HO172.out))) (below_size (by repeat (first | (with_reducible first | exact HB.out | apply below_alloc | apply pw_below_drewN | apply below_drew1 | refine below_set ?_ GE169.out) | exact HB.out)))); have n3_ := Aside0.mk (blk_below (g := gb169) (o := .cells #[.int .i64 2, .int .i64 1, .int .i64 255, .slice Ao19 y166.length co19] 26 (0, 0)) (by (with_reducible repeat (first | refine blk_drewN ?_ _ | refine blk_drew ?_ | refine blk_alloc ?_ _)); exact BK169.out) hb); have n4_ := Aside0.mk (below_step (by repeat (first | (with_reducible first | exact HB.out | apply below_alloc | apply pw_below_drewN | apply below_drew1 | refine below_set ?_ GE169.out) | exact HB.out)) hb); clear HO168; clear HO172; clear BK169; clear HB; have HO168 := n0_; have HO172 := n1_; have HO179 := n2_; have BK169 := n3_; have HB := n4_; clear n0_ n1_ n2_ n3_ n4_; (try clear hb); (try clear hb2); (try clear hk); (try clear hi); (try clear ho0)) | ((with_reducible refine gate_dst (N := 4) rfl ?_); (try (refine gate_guard (by rfl) ?_; dsimp only)); refine box_event ?hg (N := 4) ?hd (cs := #[.int .i64 0, .int .i64 0, .int .i64 0, .slice none 0 0]) (t := 26) ?hr ?_; (case hd => rfl); (case hg => rfl); (case hr => first | (go_simp; done) | (go_simp; rfl)); intro gb181 hg w25 hbox hb; have n0_ := Aside0.mk (Kd.R_below (by (with_reducible repeat (first | apply Kd.R_alloc | apply Kd.R_drewN | apply Kd.R_drew)); exact HO168.out) hb); have n1_ := Aside0.mk (Kd.R_below (by (with_reducible repeat (first | apply Kd.R_alloc | apply Kd.R_drewN | apply Kd.R_drew)); exact HO172.out) hb); have n2_ := Aside0.mk (Kd.R_below (by (with_reducible repeat (first | apply Kd.R_alloc | apply Kd.R_drewN | apply Kd.R_drew)); exact HO179.out) hb); have n3_ := Aside0.mk (blk_below (g := gb169) (o := .cells #[.int .i64 2, .int .i64 1, .int .i64 255, .slice Ao19 y166.length co19] 26 (0, 0)) (by (with_reducible repeat (first | refine blk_drewN ?_ _ | refine blk_drew ?_ | refine blk_alloc ?_ _)); exact BK169.out) hb); have n4_ := Aside0.mk (below_step (by repeat (first | (with_reducible first | exact HB.out | apply below_alloc | apply pw_below_drewN | apply below_drew1 | refine below_set ?_ GE169.out) | exact HB.out)) hb); have n5_ := Aside0.mk (hbox); have n6_ := Aside0.mk ((by rw [hg]; exact (below_size (by repeat (first | (with_reducible first | exact HB.out | apply below_alloc | apply pw_below_drewN | apply below_drew1 | refine below_set ?_ GE169.out) | exact HB.out))) : w.heap.size ≤ gb181)); have n7_ := Aside0.mk ((by rw [hg]; exact (below_size (by repeat (first | (with_reducible first | exact HB.out | apply below_alloc | apply pw_below_drewN | apply below_drew1 | refine below_set ?_ GE169.out) | exact HB.out))) : w.heap.size ≤ gb181)); have n8_ := Aside0.mk ((by rw [hg]; exact Nat.ne_of_lt (blk_lt (g := gb169) (o := .cells #[.int .i64 2, .int .i64 1, .int .i64 255, .slice Ao19 y166.length co19] 26 (0, 0)) (by (with_reducible repeat (first | refine blk_drewN ?_ _ | refine blk_drew ?_ | refine blk_alloc ?_ _)); exact BK169.out)) : gb169 ≠ gb181)); have n9_ := Aside0.mk ((by rw [hg]; exact Nat.ne_of_gt (blk_lt (g := gb169) (o := .cells #[.int .i64 2, .int .i64 1, .int .i64 255, .slice Ao19 y166.length co19] 26 (0, 0)) (by (with_reducible repeat (first | refine blk_drewN ?_ _ | refine blk_drew ?_ | refine blk_alloc ?_ _)); exact BK169.out)) : gb181 ≠ gb169)); clear HO168; clear HO172; clear HO179; clear BK169; clear HB; have HO168 := n0_; have HO172 := n1_; have HO179 := n2_; have BK169 := n3_; have HB := n4_; have BK181 := n5_; have GW181 := n6_; have GE181 := n7_; have NB169_181 := n8_; have NB181_169 := n9_; clear n0_ n1_ n2_ n3_ n4_ n5_ n6_ n7_ n8_ n9_; clear hb hbox hg; have hnb26 := NB181_169.out; have hnc26 := NB169_181.out; have hcz27_0 : w25.cell? ⟨gb181, 0, none⟩ = some (.int .i64 0) := (blk_cell BK181.out 0).trans rfl; have hcz27_1 : w25.cell? ⟨gb181, 1, none⟩ = some (.int .i64 0) := (blk_cell BK181.out 1).trans rfl; have hcz27_2 : w25.cell? ⟨gb181, 2, none⟩ = some (.int .i64 0) := (blk_cell BK181.out 2).trans rfl; have hcz27_3 : w25.cell? ⟨gb181, 3, none⟩ = some (.slice none 0 0) := (blk_cell BK181.out 3).trans rfl; have hfz27_0 := blk_frozen BK181.out 0; have hfz27_1 := blk_frozen BK181.out 1; have hfz27_2 := blk_frozen BK181.out 2; have hfz27_3 := blk_frozen BK181.out 3; obtain ⟨Ao28, co28, eo28⟩ := Kd.R_slice HO179.out; subst eo28) | ((with_reducible refine gate_dst (N := 22) rfl ?_); (try (refine gate_guard (by rfl) ?_; dsimp only)); refine Kd.R_lit (Kd.int .i64) _ 3 ?hg (N := 22) ?hd (xs := ([1, 2] : List Int)) (inner := [.int .i64 1, .int .i64 2]) (ok := fun _ => True) (okp := fun _ => True) ?hr ?hp (fun _ hk => hk) trivial (Below.refl _ _) (Nat.le_refl _) (by simp) ?_; (case hd => rfl); (case hg => rfl); (case hr => first | (go_simp; done) | (go_simp; rfl)); (case hp => exact (Reps.one (show Kd.M (Kd.int .i64) _ _ _ 1 [.int .i64 1] from rfl) (Reps.one (show Kd.M (Kd.int .i64) _ _ _ 2 [.int .i64 2] from rfl) (Reps.none _ _)))); intro v183 w29 ho30 hb hg_ hnew_; clear hg_ hnew_; (first | rw [← Ny182.out] at ho30 | (simp only [Int.reduceToNat] at ho30; rw [← Ny182.out] at ho30)); have n0_ := Aside0.mk (Kd.R_elder' (by (with_reducible repeat (first | apply Kd.R_alloc | apply Kd.R_drewN | apply Kd.R_drew)); exact (Kd.R_mono (Kd.R_far (p := ⟨gb181, 3, none⟩) (Kd.R_far (p := ⟨gb181, 2, none⟩) (Kd.R_far (p := ⟨gb181, 1, none⟩) (Kd.R_far (p := ⟨gb181, 0, none⟩) (Kd.R_types HO168.out BK181.out (by decide)) (fun _ hk => hk.2) (.int .i64 t174)) (fun _ hk => hk.2) (.int .i64 t175)) (fun _ hk => hk.2) (.int .i64 t176)) (fun _ hk => hk.2) (.slice Ao28 t177.length co28)) (fun _ h_ => h_.1))) (Kd.R_base ho30) hb); have n1_ := Aside0.mk (Kd.R_elder' (by (with_reducible repeat (first | apply Kd.R_alloc | apply Kd.R_drewN | apply Kd.R_drew)); exact (Kd.R_mono (Kd.R_far (p := ⟨gb181, 3, none⟩) (Kd.R_far (p := ⟨gb181, 2, none⟩) (Kd.R_far (p := ⟨gb181, 1, none⟩) (Kd.R_far (p := ⟨gb181, 0, none⟩) (Kd.R_types HO172.out BK181.out (by decide)) (fun _ hk => hk.2) (.int .i64 t174)) (fun _ hk => hk.2) (.int .i64 t175)) (fun _ hk => hk.2) (.int .i64 t176)) (fun _ hk => hk.2) (.slice Ao28 t177.length co28)) (fun _ h_ => h_.1))) (Kd.R_base ho30) hb); have n2_ := Aside0.mk (Kd.R_elder' (by (with_reducible repeat (first | apply Kd.R_alloc | apply Kd.R_drewN | apply Kd.R_drew)); exact (Kd.R_mono (Kd.R_far (p := ⟨gb181, 3, none⟩) (Kd.R_far (p := ⟨gb181, 2, none⟩) (Kd.R_far (p := ⟨gb181, 1, none⟩) (Kd.R_far (p := ⟨gb181, 0, none⟩) (Kd.R_types HO179.out BK181.out (by decide)) (fun _ hk => hk.2) (.int .i64 t174)) (fun _ hk => hk.2) (.int .i64 t175)) (fun _ hk => hk.2) (.int .i64 t176)) (fun _ hk => hk.2) (.slice Ao28 t177.length co28)) (fun _ h_ => h_.1))) (Kd.R_base ho30) hb); have n3_ := Aside0.mk (Kd.R_lower (Kd.R_new' (Kd.R_new' (Kd.R_new' ho30 (Kd.R_lt (by (with_reducible repeat (first | apply Kd.R_alloc | apply Kd.R_drewN | apply Kd.R_drew)); exact (Kd.R_mono (Kd.R_far (p := ⟨gb181, 3, none⟩) (Kd.R_far (p := ⟨gb181, 2, none⟩) (Kd.R_far (p := ⟨gb181, 1, none⟩) (Kd.R_far (p := ⟨gb181, 0, none⟩) (Kd.R_types HO168.out BK181.out (by decide)) (fun _ hk => hk.2) (.int .i64 t174)) (fun _ hk => hk.2) (.int .i64 t175)) (fun _ hk => hk.2) (.int .i64 t176)) (fun _ hk => hk.2) (.slice Ao28 t177.length co28)) (fun _ h_ => h_.1))))) (Kd.R_lt (by (with_reducible repeat (first | apply Kd.R_alloc | apply Kd.R_drewN | apply Kd.R_drew)); exact (Kd.R_mono (Kd.R_far (p := ⟨gb181, 3, none⟩) (Kd.R_far (p := ⟨gb181, 2, none⟩) (Kd.R_far (p := ⟨gb181, 1, none⟩) (Kd.R_far (p := ⟨gb181, 0, none⟩) (Kd.R_types HO172.out BK181.out (by decide)) (fun _ hk => hk.2) (.int .i64 t174)) (fun _ hk => hk.2) (.int .i64 t175)) (fun _ hk => hk.2) (.int .i64 t176)) (fun _ hk => hk.2) (.slice Ao28 t177.length co28)) (fun _ h_ => h_.1))))) (Kd.R_lt (by (with_reducible repeat (first | apply Kd.R_alloc | apply Kd.R_drewN | apply Kd.R_drew)); exact (Kd.R_mono (Kd.R_far (p := ⟨gb181, 3, none⟩) (Kd.R_far (p := ⟨gb181, 2, none⟩) (Kd.R_far (p := ⟨gb181, 1, none⟩) (Kd.R_far (p := ⟨gb181, 0, none⟩) (Kd.R_types HO179.out BK181.out (by decide)) (fun _ hk => hk.2) (.int .i64 t174)) (fun _ hk => hk.2) (.int .i64 t175)) (fun _ hk => hk.2) (.int .i64 t176)) (fun _ hk => hk.2) (.slice Ao28 t177.length co28)) (fun _ h_ => h_.1))))) (below_size (by repeat (first | (with_reducible first | exact HB.out | apply below_alloc | apply pw_below_drewN | apply below_drew1 | refine below_set ?_ GE169.out | refine below_set ?_ GE181.out) | exact HB.out)))); have n4_ := Aside0.mk (blk_below (g := gb169) (o := .cells #[.int .i64 2, .int .i64 1, .int .i64 255, .slice Ao19 y166.length co19] 26 (0, 0)) (by (with_reducible repeat (first | refine blk_drewN ?_ _ | refine blk_drew ?_ | refine blk_alloc ?_ _)); refine blk_far ?_ NB169_181.out _; (with_reducible repeat (first | refine blk_drewN ?_ _ | refine blk_drew ?_ | refine blk_alloc ?_ _)); refine blk_far ?_ NB169_181.out _; (with_reducible repeat (first | refine blk_drewN ?_ _ | refine blk_drew ?_ | refine blk_alloc ?_ _)); refine blk_far ?_ NB169_181.out _; (with_reducible repeat (first | refine blk_drewN ?_ _ | refine blk_drew ?_ | refine blk_alloc ?_ _)); refine blk_far ?_ NB169_181.out _; (with_reducible repeat (first | refine blk_drewN ?_ _ | refine blk_drew ?_ | refine blk_alloc ?_ _)); exact BK169.out) hb); have n5_ := Aside0.mk (blk_below (g := gb181) (o := .cells #[.int .i64 t174, .int .i64 t175, .int .i64 t176, .slice Ao28 t177.length co28] 26 (0, 0)) (by (with_reducible repeat (first | refine blk_drewN ?_ _ | refine blk_drew ?_ | refine blk_alloc ?_ _)); refine blk_put (cs := #[.int .i64 t174, .int .i64 t175, .int .i64 t176, .slice none 0 0]) ?_ 3 _ rfl; (with_reducible repeat (first | refine blk_drewN ?_ _ | refine blk_drew ?_ | refine blk_alloc ?_ _)); refine blk_put (cs := #[.int .i64 t174, .int .i64 t175, .int .i64 0, .slice none 0 0]) ?_ 2 _ rfl; (with_reducible repeat (first | refine blk_drewN ?_ _ | refine blk_drew ?_ | refine blk_alloc ?_ _)); refine blk_put (cs := #[.int .i64 t174, .int .i64 0, .int .i64 0, .slice none 0 0]) ?_ 1 _ rfl; (with_reducible repeat (first | refine blk_drewN ?_ _ | refine blk_drew ?_ | refine blk_alloc ?_ _)); refine blk_put (cs := #[.int .i64 0, .int .i64 0, .int .i64 0, .slice none 0 0]) ?_ 0 _ rfl; (with_reducible repeat (first | refine blk_drewN ?_ _ | refine blk_drew ?_ | refine blk_alloc ?_ _)); exact BK181.out) hb); have n6_ := Aside0.mk (below_step (by repeat (first | (with_reducible first | exact HB.out | apply below_alloc | apply pw_below_drewN | apply below_drew1 | refine below_set ?_ GE169.out | refine below_set ?_ GE181.out) | exact HB.out)) hb); clear HO168; clear HO172; clear HO179; clear BK169; clear BK181; clear HB; have HO168 := n0_; have HO172 := n1_; have HO179 := n2_; have HO184 := n3_; have BK169 := n4_; have BK181 := n5_; have HB := n6_; clear n0_ n1_ n2_ n3_ n4_ n5_ n6_; clear hb ho30) | ((with_reducible refine gate_dst (N := 23) rfl ?_); (try (refine gate_guard (by rfl) ?_; dsimp only)); refine Kd.R_lit (Kd.int .i64) _ 3 ?hg (N := 23) ?hd (xs := ([3, 4] : List Int)) (inner := [.int .i64 3, .int .i64 4]) (ok := fun _ => True) (okp := fun _ => True) ?hr ?hp (fun _ hk => hk) trivial (Below.refl _ _) (Nat.le_refl _) (by simp) ?_; (case hd => rfl); (case hg => rfl); (case hr => first | (go_simp; done) | (go_simp; rfl)); (case hp => exact (Reps.one (show Kd.M (Kd.int .i64) _ _ _ 3 [.int .i64 3] from rfl) (Reps.one (show Kd.M (Kd.int .i64) _ _ _ 4 [.int .i64 4] from rfl) (Reps.none _ _)))); intro v186 w31 ho32 hb hg_ hnew_; clear hg_ hnew_; (first | rw [← Ny185.out] at ho32 | (simp only [Int.reduceToNat] at ho32; rw [← Ny185.out] at ho32)); have n0_ := Aside0.mk (Kd.R_elder' (by (with_reducible repeat (first | apply Kd.R_alloc | apply Kd.R_drewN | apply Kd.R_drew)); exact HO168.out) (Kd.R_base ho32) hb); have n1_ := Aside0.mk (Kd.R_elder' (by (with_reducible repeat (first | apply Kd.R_alloc | apply Kd.R_drewN | apply Kd.R_drew)); exact HO172.out) (Kd.R_base ho32) hb); have n2_ := Aside0.mk (Kd.R_elder' (by (with_reducible repeat (first | apply Kd.R_alloc | apply Kd.R_drewN | apply Kd.R_drew)); exact HO179.out) (Kd.R_base ho32) hb); have n3_ := Aside0.mk (Kd.R_elder' (by (with_reducible repeat (first | apply Kd.R_alloc | apply Kd.R_drewN | apply Kd.R_drew)); exact HO184.out) (Kd.R_base ho32) hb); have n4_ := Aside0.mk (Kd.R_lower (Kd.R_new' (Kd.R_new' (Kd.R_new' (Kd.R_new' ho32 (Kd.R_lt (by (with_reducible repeat (first | apply Kd.R_alloc | apply Kd.R_drewN | apply Kd.R_drew)); exact HO168.out))) (Kd.R_lt (by (with_reducible repeat (first | apply Kd.R_alloc | apply Kd.R_drewN | apply Kd.R_drew)); exact HO172.out))) (Kd.R_lt (by (with_reducible repeat (first | apply Kd.R_alloc | apply Kd.R_drewN | apply Kd.R_drew)); exact HO179.out))) (Kd.R_lt (by (with_reducible repeat (first | apply Kd.R_alloc | apply Kd.R_drewN | apply Kd.R_drew)); exact HO184.out))) (below_size (by repeat (first | (with_reducible first | exact HB.out | apply below_alloc | apply pw_below_drewN | apply below_drew1 | refine below_set ?_ GE169.out | refine below_set ?_ GE181.out) | exact HB.out)))); have n5_ := Aside0.mk (blk_below (g := gb169) (o := .cells #[.int .i64 2, .int .i64 1, .int .i64 255, .slice Ao19 y166.length co19] 26 (0, 0)) (by (with_reducible repeat (first | refine blk_drewN ?_ _ | refine blk_drew ?_ | refine blk_alloc ?_ _)); exact BK169.out) hb); have n6_ := Aside0.mk (blk_below (g := gb181) (o := .cells #[.int .i64 t174, .int .i64 t175, .int .i64 t176, .slice Ao28 t177.length co28] 26 (0, 0)) (by (with_reducible repeat (first | refine blk_drewN ?_ _ | refine blk_drew ?_ | refine blk_alloc ?_ _)); exact BK181.out) hb); have n7_ := Aside0.mk (below_step (by repeat (first | (with_reducible first | exact HB.out | apply below_alloc | apply pw_below_drewN | apply below_drew1 | refine below_set ?_ GE169.out | refine below_set ?_ GE181.out) | exact HB.out)) hb); clear HO168; clear HO172; clear HO179; clear HO184; clear BK169; clear BK181; clear HB; have HO168 := n0_; have HO172 := n1_; have HO179 := n2_; have HO184 := n3_; have HO187 := n4_; have BK169 := n5_; have BK181 := n6_; have HB := n7_; clear n0_ n1_ n2_ n3_ n4_ n5_ n6_ n7_; clear hb ho32; obtain ⟨Ao33, co33, eo33⟩ := Kd.R_slice HO184.out; subst eo33; obtain ⟨Ao34, co34, eo34⟩ := Kd.R_slice HO187.out; subst eo34) | ((with_reducible refine gate_dst (N := 24) rfl ?_); (try (refine gate_guard (by rfl) ?_; dsimp only)); refine Kd.N_lit (Kd.slice 3 (Kd.int .i64)) _ 22 ?hg (N' := 24) ?hd (xs := ([y182, y185] : List (List Int))) (inner := [.slice Ao33 y182.length co33, .slice Ao34 y185.length co34]) (ok := (fun k_ => some k_ ≠ (.slice Ao19 y166.length co19 : Value).ownBlock ∧ some k_ ≠ (v171 : Value).ownBlock ∧ some k_ ≠ (.slice Ao28 t177.length co28 : Value).ownBlock ∧ k_ ≠ gb169 ∧ k_ ≠ gb181)) (okp := (fun k_ => some k_ ≠ (.slice Ao19 y166.length co19 : Value).ownBlock ∧ some k_ ≠ (v171 : Value).ownBlock ∧ some k_ ≠ (.slice Ao28 t177.length co28 : Value).ownBlock ∧ k_ ≠ gb169 ∧ k_ ≠ gb181)) ?hr ?hp (fun _ hk => hk) ((show ∀ k_, w31.heap.size ≤ k_ → (fun k_ => some k_ ≠ (.slice Ao19 y166.length co19 : Value).ownBlock ∧ some k_ ≠ (v171 : Value).ownBlock ∧ some k_ ≠ (.slice Ao28 t177.length co28 : Value).ownBlock ∧ k_ ≠ gb169 ∧ k_ ≠ gb181) k_ from fun k_ hk => ⟨Kd.fresh' (Kd.R_lt (by (with_reducible repeat (first | apply Kd.R_alloc | apply Kd.R_drewN | apply Kd.R_drew)); exact HO168.out)) k_ hk, Kd.fresh' (Kd.R_lt (by (with_reducible repeat (first | apply Kd.R_alloc | apply Kd.R_drewN | apply Kd.R_drew)); exact HO172.out)) k_ hk, Kd.fresh' (Kd.R_lt (by (with_reducible repeat (first | apply Kd.R_alloc | apply Kd.R_drewN | apply Kd.R_drew)); exact HO179.out)) k_ hk, Kd.freshB (g := gb169) (o := .cells #[.int .i64 2, .int .i64 1, .int .i64 255, .slice Ao19 y166.length co19] 26 (0, 0)) (by (with_reducible repeat (first | refine blk_drewN ?_ _ | refine blk_drew ?_ | refine blk_alloc ?_ _)); exact BK169.out) k_ hk, Kd.freshB (g := gb181) (o := .cells #[.int .i64 t174, .int .i64 t175, .int .i64 t176, .slice Ao28 t177.length co28] 26 (0, 0)) (by (with_reducible repeat (first | refine blk_drewN ?_ _ | refine blk_drew ?_ | refine blk_alloc ?_ _)); exact BK181.out) k_ hk⟩) _ (Nat.le_refl _)) (Below.refl _ _) (Nat.le_refl _) (by simp) ?_; (case hd => rfl); (case hg => rfl); (case hr => first | (go_simp; done) | (go_simp; rfl)); (case hp => exact (Reps.one (show Kd.FK (Kd.slice 3 (Kd.int .i64)) _ _ y182 [.slice Ao33 y182.length co33] from (Kd.FK_slice_mk (Kd.R_reads' (Kd.R_mono (ok' := (fun k_ => some k_ ≠ (.slice Ao19 y166.length co19 : Value).ownBlock ∧ some k_ ≠ (v171 : Value).ownBlock ∧ some k_ ≠ (.slice Ao28 t177.length co28 : Value).ownBlock ∧ k_ ≠ gb169 ∧ k_ ≠ gb181)) (Kd.R_types (Kd.R_types (HO184.out) BK169.out (by decide)) BK181.out (by decide)) (fun k_ hk => ⟨hk.1.1.1.1.1.2, ⟨hk.1.1.1.1.2, ⟨hk.1.1.1.2, ⟨hk.1.2, hk.2⟩⟩⟩⟩))).2.1 (Kd.R_F (Kd.R_mono (ok' := (fun k_ => some k_ ≠ (.slice Ao19 y166.length co19 : Value).ownBlock ∧ some k_ ≠ (v171 : Value).ownBlock ∧ some k_ ≠ (.slice Ao28 t177.length co28 : Value).ownBlock ∧ k_ ≠ gb169 ∧ k_ ≠ gb181)) (Kd.R_types (Kd.R_types (HO184.out) BK169.out (by decide)) BK181.out (by decide)) (fun k_ hk => ⟨hk.1.1.1.1.1.2, ⟨hk.1.1.1.1.2, ⟨hk.1.1.1.2, ⟨hk.1.2, hk.2⟩⟩⟩⟩))))) (Reps.one (show Kd.FK (Kd.slice 3 (Kd.int .i64)) _ _ y185 [.slice Ao34 y185.length co34] from (Kd.FK_slice_mk (Kd.R_reads' (Kd.R_mono (ok' := (fun k_ => some k_ ≠ (.slice Ao19 y166.length co19 : Value).ownBlock ∧ some k_ ≠ (v171 : Value).ownBlock ∧ some k_ ≠ (.slice Ao28 t177.length co28 : Value).ownBlock ∧ k_ ≠ gb169 ∧ k_ ≠ gb181)) (Kd.R_types (Kd.R_types (HO187.out) BK169.out (by decide)) BK181.out (by decide)) (fun k_ hk => ⟨hk.1.1.1.1.1.2, ⟨hk.1.1.1.1.2, ⟨hk.1.1.1.2, ⟨hk.1.2, hk.2⟩⟩⟩⟩))).2.1 (Kd.R_F (Kd.R_mono (ok' := (fun k_ => some k_ ≠ (.slice Ao19 y166.length co19 : Value).ownBlock ∧ some k_ ≠ (v171 : Value).ownBlock ∧ some k_ ≠ (.slice Ao28 t177.length co28 : Value).ownBlock ∧ k_ ≠ gb169 ∧ k_ ≠ gb181)) (Kd.R_types (Kd.R_types (HO187.out) BK169.out (by decide)) BK181.out (by decide)) (fun k_ hk => ⟨hk.1.1.1.1.1.2, ⟨hk.1.1.1.1.2, ⟨hk.1.1.1.2, ⟨hk.1.2, hk.2⟩⟩⟩⟩))))) (Reps.none _ _)))); intro v189 w35 ho36 hb hg_ hnew_; clear hg_ hnew_; (first | rw [← Ny188.out] at ho36 | (simp only [Int.reduceToNat] at ho36; rw [← Ny188.out] at ho36)); have n0_ := Aside0.mk (Kd.R_below (by (with_reducible repeat (first | apply Kd.R_alloc | apply Kd.R_drewN | apply Kd.R_drew)); exact HO168.out) hb); have n1_ := Aside0.mk (Kd.R_below (by (with_reducible repeat (first | apply Kd.R_alloc | apply Kd.R_drewN | apply Kd.R_drew)); exact HO172.out) hb); have n2_ := Aside0.mk (Kd.R_below (by (with_reducible repeat (first | apply Kd.R_alloc | apply Kd.R_drewN | apply Kd.R_drew)); exact HO179.out) hb); have n3_ := Aside0.mk (Kd.N_lower ho36 (below_size (by repeat (first | (with_reducible first | exact HB.out | apply below_alloc | apply pw_below_drewN | apply below_drew1 | refine below_set ?_ GE169.out | refine below_set ?_ GE181.out) | exact HB.out)))); have n4_ := Aside0.mk (blk_below (g := gb169) (o := .cells #[.int .i64 2, .int .i64 1, .int .i64 255, .slice Ao19 y166.length co19] 26 (0, 0)) (by (with_reducible repeat (first | refine blk_drewN ?_ _ | refine blk_drew ?_ | refine blk_alloc ?_ _)); exact BK169.out) hb); have n5_ := Aside0.mk (blk_below (g := gb181) (o := .cells #[.int .i64 t174, .int .i64 t175, .int .i64 t176, .slice Ao28 t177.length co28] 26 (0, 0)) (by (with_reducible repeat (first | refine blk_drewN ?_ _ | refine blk_drew ?_ | refine blk_alloc ?_ _)); exact BK181.out) hb); have n6_ := Aside0.mk (below_step (by repeat (first | (with_reducible first | exact HB.out | apply below_alloc | apply pw_below_drewN | apply below_drew1 | refine below_set ?_ GE169.out | refine below_set ?_ GE181.out) | exact HB.out)) hb); clear HO168; clear HO172; clear HO179; clear BK169; clear BK181; clear HB; clear HO184; clear HO187; have HO168 := n0_; have HO172 := n1_; have HO179 := n2_; have HO190 := n3_; have BK169 := n4_; have BK181 := n5_; have HB := n6_; clear n0_ n1_ n2_ n3_ n4_ n5_ n6_; clear hb ho36; obtain ⟨Ao37, co37, eo37⟩ := Kd.N_slice HO190.out; subst eo37) | ((with_reducible refine gate_callee (f := 25) rfl ?_); refine goesL_ (some 25) rfl rfl Try.func25 (by kernel_rfl) rfl #[.slice Ao37 y188.length co37] rfl (by (try simp only [List.map_toArray, List.map_cons, List.map_nil]); first | done | rfl | (simp only [List.length_drop, List.length_take]; rfl)) ?_; (with_reducible refine (histogram_Merge.calls k _ _ y188 t191 t192 _ ?side1 ?side2 A3.out).mono ?_); (case side1 => repeat (first | exact (Kd.N_reads' HO190.out).2.2 | (with_reducible refine Kd.C_alloc ?_ _) | (with_reducible refine Kd.C_drewN ?_ _) | (with_reducible refine Kd.C_drew ?_))); (case side2 => exact (Kd.N_reads' HO190.out).2.1); rintro e w38 ⟨v193, rfl, ho0, hb⟩; refine ⟨_, rfl, ?_⟩; have n0_ := Aside0.mk (Kd.R_elder' (by (with_reducible repeat (first | apply Kd.R_alloc | apply Kd.R_drewN | apply Kd.R_drew)); exact HO168.out) (Kd.R_base ho0) hb); have n1_ := Aside0.mk (Kd.R_elder' (by (with_reducible repeat (first | apply Kd.R_alloc | apply Kd.R_drewN | apply Kd.R_drew)); exact HO172.out) (Kd.R_base ho0) hb); have n2_ := Aside0.mk (Kd.R_elder' (by (with_reducible repeat (first | apply Kd.R_alloc | apply Kd.R_drewN | apply Kd.R_drew)); exact HO179.out) (Kd.R_base ho0) hb); have n3_ := Aside0.mk (Kd.N_elder' (by (with_reducible repeat (first | apply Kd.N_alloc | apply Kd.N_drewN | apply Kd.N_drew)); exact HO190.out) (Kd.R_base ho0) hb); have n4_ := Aside0.mk (Kd.R_lower (Kd.R_new' (Kd.R_new' (Kd.R_new' ho0 (Kd.R_lt (by (with_reducible repeat (first | apply Kd.R_alloc | apply Kd.R_drewN | apply Kd.R_drew)); exact HO168.out))) (Kd.R_lt (by (with_reducible repeat (first | apply Kd.R_alloc | apply Kd.R_drewN | apply Kd.R_drew)); exact HO172.out))) (Kd.R_lt (by (with_reducible repeat (first | apply Kd.R_alloc | apply Kd.R_drewN | apply Kd.R_drew)); exact HO179.out))) (below_size (by repeat (first | (with_reducible first | exact HB.out | apply below_alloc | apply pw_below_drewN | apply below_drew1 | refine below_set ?_ GE169.out | refine below_set ?_ GE181.out) | exact HB.out)))); have n5_ := Aside0.mk (blk_below (g := gb169) (o := .cells #[.int .i64 2, .int .i64 1, .int .i64 255, .slice Ao19 y166.length co19] 26 (0, 0)) (by (with_reducible repeat (first | refine blk_drewN ?_ _ | refine blk_drew ?_ | refine blk_alloc ?_ _)); exact BK169.out) hb); have n6_ := Aside0.mk (blk_below (g := gb181) (o := .cells #[.int .i64 t174, .int .i64 t175, .int .i64 t176, .slice Ao28 t177.length co28] 26 (0, 0)) (by (with_reducible repeat (first | refine blk_drewN ?_ _ | refine blk_drew ?_ | refine blk_alloc ?_ _)); exact BK181.out) hb); have n7_ := Aside0.mk (below_step (by repeat (first | (with_reducible first | exact HB.out | apply below_alloc | apply pw_below_drewN | apply below_drew1 | refine below_set ?_ GE169.out | refine below_set ?_ GE181.out) | exact HB.out)) hb); clear HO168; clear HO172; clear HO179; clear HO190; clear BK169; clear BK181; clear HB; have HO168 := n0_; have HO172 := n1_; have HO179 := n2_; have HO190 := n3_; have HO194 := n4_; have BK169 := n5_; have BK181 := n6_; have HB := n7_; clear n0_ n1_ n2_ n3_ n4_ n5_ n6_ n7_; (try clear hb); (try clear hb2); (try clear hk); (try clear hi); (try clear ho0)) | ((with_reducible refine gate_callee (f := 15) rfl ?_); refine goesL_ (some 28) rfl rfl Try.func15 (by kernel_rfl) rfl #[.int .i64 63, .int .i64 255, .int .i64 4] rfl (by (try simp only [List.map_toArray, List.map_cons, List.map_nil]); first | done | rfl | (simp only [List.length_drop, List.length_take]; rfl)) ?_; (with_reducible refine (histogram_Bin.calls 63 255 4 t195 _ A4.out).mono ?_); rintro e w' ⟨rfl, ⟨nd, rfl⟩⟩; refine ⟨_, rfl, ?_⟩) | (go_at_call 15; (with_reducible refine (histogram_Bin.calls 64 255 4 t196 _ A6.out).mono ?_); rintro e w' ⟨rfl, ⟨nd, rfl⟩⟩; obtain ⟨Ao39, co39, eo39⟩ := Kd.R_slice HO172.out; subst eo39; have p197 : 0 ≤ (1 : Int) := (by omega); have q197 : 1 < (t170.length : Int) := of_decide_eq_true (by first | (with_reducible assumption) | assumption); obtain ⟨ad197, e197, hx197_0⟩ := Kd.at_int (Kd.R_reads' HO172.out).2.2 1 p197 q197; cases e197; (try simp only [show (1 : Int).toNat = 1 from rfl, Nat.reduceMul, Nat.reduceEqDiff, Go.Addr.add, ↓reduceIte] at hx197_0); have qi197 : (1 < t170.length) = True := eq_true (by omega); (try rw [show ((1 : Int)).toNat = 1 from rfl] at hx197_0); replace p197 := eq_true p197; replace q197 := eq_true q197; have hcz40_0 : w38.cell? ⟨gb181, 0, none⟩ = some (.int .i64 t174) := (blk_cell BK181.out 0).trans rfl; have hcz40_1 : w38.cell? ⟨gb181, 1, none⟩ = some (.int .i64 t175) := (blk_cell BK181.out 1).trans rfl; have hcz40_2 : w38.cell? ⟨gb181, 2, none⟩ = some (.int .i64 t176) := (blk_cell BK181.out 2).trans rfl; have hcz40_3 : w38.cell? ⟨gb181, 3, none⟩ = some (.slice Ao28 t177.length co28) := (blk_cell BK181.out 3).trans rfl; have hfz40_0 := blk_frozen BK181.out 0; have hfz40_1 := blk_frozen BK181.out 1; have hfz40_2 := blk_frozen BK181.out 2; have hfz40_3 := blk_frozen BK181.out 3; obtain ⟨Ao41, co41, eo41⟩ := Kd.R_slice HO194.out; subst eo41; have p198 : 0 ≤ (1 : Int) := (by omega); have q198 : 1 < (t191.length : Int) := of_decide_eq_true (by first | (with_reducible assumption) | assumption); obtain ⟨ad198, e198, hx198_0⟩ := Kd.at_int (Kd.R_reads' HO194.out).2.2 1 p198 q198; cases e198; (try simp only [show (1 : Int).toNat = 1 from rfl, Nat.reduceMul, Nat.reduceEqDiff, Go.Addr.add, ↓reduceIte] at hx198_0); have qi198 : (1 < t191.length) = True := eq_true (by omega); (try rw [show ((1 : Int)).toNat = 1 from rfl] at hx198_0); replace p198 := eq_true p198; replace q198 := eq_true q198))
                        go_ret
                        exact ⟨by first | rfl | (simp [errW_none, errW_some] <;> rfl) | (simp [*, errW_none, errW_some] <;> rfl), by repeat (first | (with_reducible first | exact HB.out | apply below_alloc | apply pw_below_drewN | apply below_drew1 | refine below_set ?_ GE169.out | refine below_set ?_ GE181.out) | exact HB.out)⟩
                      · rw [if_neg c16] at H
                        exact absurd H (by simp)
                    · rw [if_neg c15] at H
                      have c15b0 : ((t191.length : Int) == 2) = false := beq_eq_false_iff_ne.mpr c15
                      have c15b1 : ((t191.length : Int) != 2) = true := bne_iff_ne.mpr c15
                      exact absurd ((Option.some.inj H).trans HT.out) (by decide)
                  · rw [if_neg c14] at H
                    have c14b0 : (t192 == 0) = false := beq_eq_false_iff_ne.mpr c14
                    have c14b1 : (t192 != 0) = true := bne_iff_ne.mpr c14
                    exact absurd ((Option.some.inj H).trans HT.out) (by decide)
                · rw [if_neg c13] at H
                  have c13b0 : (t176 == 2) = false := beq_eq_false_iff_ne.mpr c13
                  have c13b1 : (t176 != 2) = true := bne_iff_ne.mpr c13
                  exact absurd ((Option.some.inj H).trans HT.out) (by decide)
              · rw [if_neg c12] at H
                have c12b0 : (t180 == 0) = false := beq_eq_false_iff_ne.mpr c12
                have c12b1 : (t180 != 0) = true := bne_iff_ne.mpr c12
                exact absurd ((Option.some.inj H).trans HT.out) (by decide)
            · rw [if_neg c11] at H
              have c11b0 : ((rd t170 1) == 1) = false := beq_eq_false_iff_ne.mpr c11
              have c11b1 : ((rd t170 1) != 1) = true := bne_iff_ne.mpr c11
              exact absurd ((Option.some.inj H).trans HT.out) (by decide)
          · rw [if_neg c10] at H
            exact absurd H (by simp)
        · rw [if_neg c9] at H
          have c9b0 : ((t170.length : Int) == 4) = false := beq_eq_false_iff_ne.mpr c9
          have c9b1 : ((t170.length : Int) != 4) = true := bne_iff_ne.mpr c9
          exact absurd ((Option.some.inj H).trans HT.out) (by decide)
      · rw [if_neg c8] at H
        have c8b0 : (t173 == 0) = false := beq_eq_false_iff_ne.mpr c8
        have c8b1 : (t173 != 0) = true := bne_iff_ne.mpr c8
        exact absurd ((Option.some.inj H).trans HT.out) (by decide)
    · rw [if_neg c7] at H
      have c7b0 : (t196 == 1) = false := beq_eq_false_iff_ne.mpr c7
      have c7b1 : (t196 != 1) = true := bne_iff_ne.mpr c7
      exact absurd ((Option.some.inj H).trans HT.out) (by decide)
  · rw [if_neg c5] at H
    have c5b0 : (t195 == 0) = false := beq_eq_false_iff_ne.mpr c5
    have c5b1 : (t195 != 0) = true := bne_iff_ne.mpr c5
    exact absurd ((Option.some.inj H).trans HT.out) (by decide)

/-! ### tilefarmgen_Tape_Pick: function 18 -/
def tilefarmgen_Tape_Pick.f (s0_0 : List Int) (s0_1 : Int) (l1 : List Int) : Option (Int × Int) := (tilefarmgen_Tape_Next.f s0_0 s0_1 (l1.length : Int)).bind fun bt199 => (if 0 ≤ bt199.1 then (if bt199.1 < (l1.length : Int) then (some (rd l1 bt199.1, bt199.2)) else (none)) else (none))
set_option maxHeartbeats 8000000 in
set_option maxRecDepth 100000 in
theorem tilefarmgen_Tape_Pick.calls (g : Nat) (s0_0 : List Int) (s0_1 : Int) (A1 : Option Addr) (c1 : Nat) (l1 : List Int) (r1 : Int) (r2 : Int) (w0 w : World) (hI : IsS55 w0 w g s0_0 s0_1) (hB : Below w0.heap.size w0 w) (hr1 : Kd.C (Kd.int .i64) w A1 l1.length l1) (hc1 : l1.length ≤ c1) (hf1 : ∀ ad, A1 = some ad → 0 < l1.length → ad.block ≠ g) (h : tilefarmgen_Tape_Pick.f s0_0 s0_1 l1 = some (r1, r2)) :
    Calls Try.prog 18 #[.pointer (some ⟨g, 0, none⟩), .slice A1 l1.length c1] w fun e w' => e = .returned (.int .i64 r1) ∧ IsS55 w0 w' g s0_0 r2 ∧ Below w0.heap.size w0 w' ∧ KeepBut w w' g none := by
  have HR1 := Aside0.mk hr1
  have HC1 := Aside0.mk hc1
  clear hr1 hc1
  have HI0 := Aside0.mk hI
  have HK := Aside0.mk (KeepBut.refl w g none)
  have HL := Aside0.mk hB.size
  clear hI
  have HW0 := Aside0.mk hB.size
  have HB := Aside0.mk hB
  clear hB
  have H : ((tilefarmgen_Tape_Next.f s0_0 s0_1 (l1.length : Int)).bind fun bt199 => (if 0 ≤ bt199.1 then (if bt199.1 < (l1.length : Int) then (some (rd l1 bt199.1, bt199.2)) else (none)) else (none))) = some (r1, r2) := h
  clear h
  replace H := Option.bind_eq_some_iff.mp H
  obtain ⟨⟨t199, t200⟩, A30, H⟩ := H
  replace H : (if 0 ≤ t199 then (if t199 < (l1.length : Int) then (some (rd l1 t199, t200)) else (none)) else (none)) = some (r1, r2) := H
  have A3 := Aside0.mk A30
  clear A30
  by_cases c4 : 0 ≤ t199
  · rw [if_pos c4] at H
    have c4b0 : decide (0 ≤ t199) = true := decide_eq_true c4
    clear c4
    by_cases c5 : t199 < (l1.length : Int)
    · rw [if_pos c5] at H
      have c5b0 : decide (t199 < (l1.length : Int)) = true := decide_eq_true c5
      clear c5
      simp only [Option.some.injEq, Prod.mk.injEq] at H
      obtain ⟨rfl, rfl⟩ := H
      go_enter Try.func18, Try.ntmps18
      go_wp2_with (first | ((with_reducible refine gate_callee (f := 10) rfl ?_); refine goesL_ (some 9) rfl rfl Try.func10 (by kernel_rfl) rfl #[.pointer (some ⟨g, 0, none⟩), .int .i64 (l1.length : Int)] rfl (by (try simp only [List.map_toArray, List.map_cons, List.map_nil]); first | done | rfl | (simp only [List.length_drop, List.length_take]; rfl)) ?_; (with_reducible refine (tilefarmgen_Tape_Next.calls g s0_0 s0_1 (l1.length : Int) t199 t200 w0 _ ?side1 ?side2 A3.out).mono ?_); (case side1 => repeat (first | (with_reducible first | exact HI0.out | apply IsS55.alloc | apply IsS55.drewN | apply IsS55.drew | apply IsS55.set_1) | exact HI0.out)); (case side2 => repeat (first | (with_reducible first | exact HB.out | apply below_alloc | apply pw_below_drewN | apply below_drew1 | refine below_set ?_ (IsS55.ge HI0.out)) | exact HB.out)); rintro e w6 ⟨rfl, hi, hb, hk⟩; refine ⟨_, rfl, ?_⟩; have n0_ := Aside0.mk (KeepBut.trans (by repeat (first | (with_reducible first | exact HK.out | apply KeepBut.set_ | apply keep_drewN | apply keep_drew | apply keep_alloc) | exact HK.out)) hk (.inl rfl)); have n1_ := Aside0.mk (hb); have n2_ := Aside0.mk (hi); clear HK; clear HB; clear HI0; have HK := n0_; have HB := n1_; have HI0 := n2_; clear n0_ n1_ n2_; (try clear hb); (try clear hb2); (try clear hk); (try clear hi); have p201 : 0 ≤ (t199 : Int) := of_decide_eq_true (by first | (with_reducible assumption) | assumption); have q201 : t199 < (l1.length : Int) := of_decide_eq_true (by first | (with_reducible assumption) | assumption); obtain ⟨ad201, e201, hx201_0⟩ := Kd.at_int HR1.out t199 p201 q201; cases e201; replace hx201_0 := keep_cell HK.out hx201_0 (by first | (rw [add_block]; exact hf1 _ rfl (by omega)) | exact hf1 _ rfl (by omega) | exact hf1 ad201 rfl (by omega)); replace p201 := eq_true p201; replace q201 := eq_true q201))
      go_ret
      exact ⟨by first | rfl | (simp [errW_none, errW_some] <;> rfl) | (simp [*, errW_none, errW_some] <;> rfl), by repeat (first | (with_reducible first | exact HI0.out | apply IsS55.alloc | apply IsS55.drewN | apply IsS55.drew | apply IsS55.set_1) | exact HI0.out), by repeat (first | (with_reducible first | exact HB.out | apply below_alloc | apply pw_below_drewN | apply below_drew1 | refine below_set ?_ (IsS55.ge HI0.out)) | exact HB.out), by repeat (first | (with_reducible first | exact HK.out | apply KeepBut.set_ | apply keep_drewN | apply keep_drew | apply keep_alloc) | exact HK.out)⟩
    · rw [if_neg c5] at H
      exact absurd H (by simp)
  · rw [if_neg c4] at H
    exact absurd H (by simp)

end Go.Proofs.Yticicecobchdiaa.PHistogramMerges
