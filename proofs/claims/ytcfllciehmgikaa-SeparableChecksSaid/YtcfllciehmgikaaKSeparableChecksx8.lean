-- Written by a program of the session (wip/tools/pack.py): the printed texts, pruned; checked by Lean.
import Derived.Test.YtcfllciehmgikaaKSeparableChecksa
import Derived.Test.YtcfllciehmgikaaKSeparableChecksx0
import Derived.Test.YtcfllciehmgikaaKSeparableChecksx3
import Derived.Test.YtcfllciehmgikaaKSeparableChecksx7
namespace Go.Proofs.Ytcfllciehmgikaa.PSeparableChecks
open Go.RowKit Go.Proofs.YtcfllciehmgikaaW.PrintWords Go.Proofs.YtcfllciehmgikaaW.PrintLast Go.Proofs.YtcfllciehmgikaaW.PrintMore
attribute [local go_sem] max2_int min2_int max_two min_two max_three min_three max_four min_four   -- for this text's walks alone
set_option linter.unusedVariables false
set_option linter.unusedSimpArgs false
mutual
def separable_Tile_1.l0 : Nat → Int → List Int → Int → Int → Int → Int → Int → List Int → Int → Int → Int → List Int → Int → Int → Int → Option (List Int)
  | 0, _, _, _, _, _, _, _, _, _, _, _, _, _, _, _ => none
  | k + 1, x0, x8, x9, x2000, x2001, x2002, x2003, x3000, x4000, x4001, x4002, x4003, x5000, x5001, x6000 => if x9 < x2002 then (separable_Tile_1.l1 k x0 x8 x9 0 x3000 (x3000.length : Int) 0 x2000 x2001 x2002 x2003 x3000 x4000 x4001 x4002 x4003 x5000 x5001 x6000) else (some x8)
def separable_Tile_1.l1 : Nat → Int → List Int → Int → Int → List Int → Int → Int → Int → Int → Int → Int → List Int → Int → Int → Int → List Int → Int → Int → Int → Option (List Int)
  | 0, _, _, _, _, _, _, _, _, _, _, _, _, _, _, _, _, _, _, _ => none
  | k + 1, x0, x8, x9, x10, x21, x22, x23, x2000, x2001, x2002, x2003, x3000, x4000, x4001, x4002, x4003, x5000, x5001, x6000 => if x23 < x22 then (if 0 ≤ x23 then (if x23 < (x21.length : Int) then ((plane_Pixel.f k x4000 x4001 x4002 x4003 x5000 x5001 (wrap64 ((wrap64 (x9 + x23)) - (wrap64 ((x3000.length : Int) / 2)))) x0).bind fun t201 => (separable_Tile_1.l1 k x0 x8 x9 (wrap64 (x10 + (wrap64 ((rd x21 x23) * t201)))) x21 x22 (wrap64 (x23 + 1)) x2000 x2001 x2002 x2003 x3000 x4000 x4001 x4002 x4003 x5000 x5001 x6000)) else (none)) else (none)) else ((fixed_Shift.f k x10 x6000).bind fun t202 => (if x8.length < 17592186044416 then (separable_Tile_1.l0 k x0 (x8 ++ [t202]) (wrap64 (x9 + 1)) x2000 x2001 x2002 x2003 x3000 x4000 x4001 x4002 x4003 x5000 x5001 x6000) else (none)))
end
def separable_Tile_1.f (k : Nat) (a0 : Int) (a1_0 : Int) (a1_1 : Int) (a1_2 : Int) (a1_3 : Int) (l2_0 : List Int) (a3_0 : Int) (a3_1 : Int) (a3_2 : Int) (l3_3 : List Int) (a4_0 : Int) (a4_1 : Int) (a5_0 : Int) : Option (List Int) := separable_Tile_1.l0 k a0 ([] : List Int) a1_0 a1_0 a1_1 a1_2 a1_3 l2_0 a3_0 a3_1 a3_2 l3_3 a4_0 a4_1 a5_0
theorem separable_Tile_1.mono_l : ∀ k, (∀ y0 y1 y2 y3 y4 y5 y6 y7 y8 y9 y10 y11 y12 y13 y14, LeO (separable_Tile_1.l0 k y0 y1 y2 y3 y4 y5 y6 y7 y8 y9 y10 y11 y12 y13 y14) (separable_Tile_1.l0 (k + 1) y0 y1 y2 y3 y4 y5 y6 y7 y8 y9 y10 y11 y12 y13 y14)) ∧ (∀ y0 y1 y2 y3 y4 y5 y6 y7 y8 y9 y10 y11 y12 y13 y14 y15 y16 y17 y18, LeO (separable_Tile_1.l1 k y0 y1 y2 y3 y4 y5 y6 y7 y8 y9 y10 y11 y12 y13 y14 y15 y16 y17 y18) (separable_Tile_1.l1 (k + 1) y0 y1 y2 y3 y4 y5 y6 y7 y8 y9 y10 y11 y12 y13 y14 y15 y16 y17 y18))
  | 0 => ⟨fun _ _ _ _ _ _ _ _ _ _ _ _ _ _ _ r h => by simp [separable_Tile_1.l0] at h, fun _ _ _ _ _ _ _ _ _ _ _ _ _ _ _ _ _ _ _ r h => by simp [separable_Tile_1.l1] at h⟩
  | k + 1 => by
    obtain ⟨ih0, ih1⟩ := separable_Tile_1.mono_l k
    refine ⟨?_, ?_⟩
    · intro y0 y1 y2 y3 y4 y5 y6 y7 y8 y9 y10 y11 y12 y13 y14
      unfold separable_Tile_1.l0
      repeat' first
      | (with_reducible exact ih0 _ _ _ _ _ _ _ _ _ _ _ _ _ _ _)
      | (with_reducible exact ih1 _ _ _ _ _ _ _ _ _ _ _ _ _ _ _ _ _ _ _)
      | (with_reducible exact fixed_Shift.mono _ _ _)
      | (with_reducible exact plane_Pixel.mono _ _ _ _ _ _ _ _ _)
      | (with_reducible exact LeO.refl _)
      | (with_reducible exact LeO.none _)
      | (with_reducible refine LeO.ite ?_ ?_)
      | (with_reducible refine LeO.bind ?_ (fun _ => ?_))
      | exact ih0 _ _ _ _ _ _ _ _ _ _ _ _ _ _ _
      | exact ih1 _ _ _ _ _ _ _ _ _ _ _ _ _ _ _ _ _ _ _
      | exact fixed_Shift.mono _ _ _
      | exact plane_Pixel.mono _ _ _ _ _ _ _ _ _
      | exact LeO.none _
      | refine LeO.ite ?_ ?_
      | refine LeO.bind ?_ (fun _ => ?_)
    · intro y0 y1 y2 y3 y4 y5 y6 y7 y8 y9 y10 y11 y12 y13 y14 y15 y16 y17 y18
      unfold separable_Tile_1.l1
      repeat' first
      | (with_reducible exact ih0 _ _ _ _ _ _ _ _ _ _ _ _ _ _ _)
      | (with_reducible exact ih1 _ _ _ _ _ _ _ _ _ _ _ _ _ _ _ _ _ _ _)
      | (with_reducible exact fixed_Shift.mono _ _ _)
      | (with_reducible exact plane_Pixel.mono _ _ _ _ _ _ _ _ _)
      | (with_reducible exact LeO.refl _)
      | (with_reducible exact LeO.none _)
      | (with_reducible refine LeO.ite ?_ ?_)
      | (with_reducible refine LeO.bind ?_ (fun _ => ?_))
      | exact ih0 _ _ _ _ _ _ _ _ _ _ _ _ _ _ _
      | exact ih1 _ _ _ _ _ _ _ _ _ _ _ _ _ _ _ _ _ _ _
      | exact fixed_Shift.mono _ _ _
      | exact plane_Pixel.mono _ _ _ _ _ _ _ _ _
      | exact LeO.none _
      | refine LeO.ite ?_ ?_
      | refine LeO.bind ?_ (fun _ => ?_)
theorem separable_Tile_1.mono : ∀ a0 a1 a2 a3 a4 a5 a6 a7 a8 a9 a10 a11 a12 k, LeO (separable_Tile_1.f k a0 a1 a2 a3 a4 a5 a6 a7 a8 a9 a10 a11 a12) (separable_Tile_1.f (k + 1) a0 a1 a2 a3 a4 a5 a6 a7 a8 a9 a10 a11 a12) := by
  intro a0 a1 a2 a3 a4 a5 a6 a7 a8 a9 a10 a11 a12 k
  obtain ⟨ih0, ih1⟩ := separable_Tile_1.mono_l k
  unfold separable_Tile_1.f
  repeat' first
      | (with_reducible exact ih0 _ _ _ _ _ _ _ _ _ _ _ _ _ _ _)
      | (with_reducible exact ih1 _ _ _ _ _ _ _ _ _ _ _ _ _ _ _ _ _ _ _)
      | (with_reducible exact fixed_Shift.mono _ _ _)
      | (with_reducible exact plane_Pixel.mono _ _ _ _ _ _ _ _ _)
      | (with_reducible exact LeO.refl _)
      | (with_reducible exact LeO.none _)
      | (with_reducible refine LeO.ite ?_ ?_)
      | (with_reducible refine LeO.bind ?_ (fun _ => ?_))
      | exact ih0 _ _ _ _ _ _ _ _ _ _ _ _ _ _ _
      | exact ih1 _ _ _ _ _ _ _ _ _ _ _ _ _ _ _ _ _ _ _
      | exact fixed_Shift.mono _ _ _
      | exact plane_Pixel.mono _ _ _ _ _ _ _ _ _
      | exact LeO.none _
      | refine LeO.ite ?_ ?_
      | refine LeO.bind ?_ (fun _ => ?_)
set_option maxHeartbeats 8000000 in
set_option maxRecDepth 100000 in
theorem separable_Tile_1.calls (k : Nat) (a0 : Int) (B1 : Nat) (a1_0 : Int) (a1_1 : Int) (a1_2 : Int) (a1_3 : Int) (B2 : Nat) (A2_0 : Option Addr) (c2_0 : Nat) (l2_0 : List Int) (B3 : Nat) (a3_0 : Int) (a3_1 : Int) (a3_2 : Int) (A3_3 : Option Addr) (c3_3 : Nat) (l3_3 : List Int) (B4 : Nat) (a4_0 : Int) (a4_1 : Int) (B5 : Nat) (a5_0 : Int) (r : List Int) (w : World) (hb1 : w.heap[B1]? = some (.cells #[.int .i64 a1_0, .int .i64 a1_1, .int .i64 a1_2, .int .i64 a1_3] 33 (0, 0))) (hr2_0 : Kd.C (Kd.int .i64) w A2_0 l2_0.length l2_0) (hc2_0 : l2_0.length ≤ c2_0) (hb2 : w.heap[B2]? = some (.cells #[.slice A2_0 l2_0.length c2_0] 22 (0, 0))) (hn1_2 : B1 ≠ B2) (hr3_3 : Kd.C (Kd.int .i64) w A3_3 l3_3.length l3_3) (hc3_3 : l3_3.length ≤ c3_3) (hb3 : w.heap[B3]? = some (.cells #[.int .i64 a3_0, .int .i64 a3_1, .int .i64 a3_2, .slice A3_3 l3_3.length c3_3] 35 (0, 0))) (hn1_3 : B1 ≠ B3) (hn2_3 : B2 ≠ B3) (hb4 : w.heap[B4]? = some (.cells #[.int .i64 a4_0, .int .i64 a4_1] 38 (0, 0))) (hn1_4 : B1 ≠ B4) (hn2_4 : B2 ≠ B4) (hn3_4 : B3 ≠ B4) (hb5 : w.heap[B5]? = some (.cells #[.int .i64 a5_0] 3 (0, 0))) (hn1_5 : B1 ≠ B5) (hn2_5 : B2 ≠ B5) (hn3_5 : B3 ≠ B5) (hn4_5 : B4 ≠ B5) (h : separable_Tile_1.f k a0 a1_0 a1_1 a1_2 a1_3 l2_0 a3_0 a3_1 a3_2 l3_3 a4_0 a4_1 a5_0 = some r) :
    Calls Try.prog 43 #[.int .i64 a0, .pointer (some ⟨B1, 0, none⟩), .pointer (some ⟨B2, 0, none⟩), .pointer (some ⟨B3, 0, none⟩), .pointer (some ⟨B4, 0, none⟩), .pointer (some ⟨B5, 0, none⟩)] w fun e w' => ∃ v0_ : Value, e = .returned (v0_) ∧ Kd.R (Kd.int .i64) 3 w' w.heap.size (fun _ => True) v0_ r ∧ Below w.heap.size w w' := by
  have hu35 := Try.underlying35
  have hu38 := Try.underlying38
  have HR2_0 := Aside0.mk hr2_0
  have HC2_0 := Aside0.mk hc2_0
  clear hr2_0 hc2_0
  have HR3_3 := Aside0.mk hr3_3
  have HC3_3 := Aside0.mk hc3_3
  clear hr3_3 hc3_3
  have BK1 := Aside0.mk hb1
  clear hb1
  have BK2 := Aside0.mk hb2
  clear hb2
  have NB1_2 := Aside0.mk hn1_2
  have NB2_1 := Aside0.mk (Ne.symm hn1_2)
  clear hn1_2
  have BK3 := Aside0.mk hb3
  clear hb3
  have NB1_3 := Aside0.mk hn1_3
  have NB3_1 := Aside0.mk (Ne.symm hn1_3)
  clear hn1_3
  have NB2_3 := Aside0.mk hn2_3
  have NB3_2 := Aside0.mk (Ne.symm hn2_3)
  clear hn2_3
  have BK4 := Aside0.mk hb4
  clear hb4
  have NB1_4 := Aside0.mk hn1_4
  have NB4_1 := Aside0.mk (Ne.symm hn1_4)
  clear hn1_4
  have NB2_4 := Aside0.mk hn2_4
  have NB4_2 := Aside0.mk (Ne.symm hn2_4)
  clear hn2_4
  have NB3_4 := Aside0.mk hn3_4
  have NB4_3 := Aside0.mk (Ne.symm hn3_4)
  clear hn3_4
  have BK5 := Aside0.mk hb5
  clear hb5
  have NB1_5 := Aside0.mk hn1_5
  have NB5_1 := Aside0.mk (Ne.symm hn1_5)
  clear hn1_5
  have NB2_5 := Aside0.mk hn2_5
  have NB5_2 := Aside0.mk (Ne.symm hn2_5)
  clear hn2_5
  have NB3_5 := Aside0.mk hn3_5
  have NB5_3 := Aside0.mk (Ne.symm hn3_5)
  clear hn3_5
  have NB4_5 := Aside0.mk hn4_5
  have NB5_4 := Aside0.mk (Ne.symm hn4_5)
  clear hn4_5
  have HB := Aside0.mk (Below.refl w.heap.size w)
  have H : (separable_Tile_1.l0 k a0 ([] : List Int) a1_0 a1_0 a1_1 a1_2 a1_3 l2_0 a3_0 a3_1 a3_2 l3_3 a4_0 a4_1 a5_0) = some r := h
  clear h
  have H' := Aside0.mk H
  clear H
  have hnb7 := NB1_2.out
  have hnc7 := NB2_1.out
  have hnb8 := NB1_3.out
  have hnc8 := NB3_1.out
  have hnb9 := NB1_4.out
  have hnc9 := NB4_1.out
  have hnb10 := NB1_5.out
  have hnc10 := NB5_1.out
  have hcz11_0 : w.cell? ⟨B1, 0, none⟩ = some (.int .i64 a1_0) := (blk_cell BK1.out 0).trans rfl
  have hcz11_1 : w.cell? ⟨B1, 1, none⟩ = some (.int .i64 a1_1) := (blk_cell BK1.out 1).trans rfl
  have hcz11_2 : w.cell? ⟨B1, 2, none⟩ = some (.int .i64 a1_2) := (blk_cell BK1.out 2).trans rfl
  have hcz11_3 : w.cell? ⟨B1, 3, none⟩ = some (.int .i64 a1_3) := (blk_cell BK1.out 3).trans rfl
  have hfz11_0 := blk_frozen BK1.out 0
  have hfz11_1 := blk_frozen BK1.out 1
  have hfz11_2 := blk_frozen BK1.out 2
  have hfz11_3 := blk_frozen BK1.out 3
  go_enter Try.func43, Try.ntmps43
  go_wp2
  go_loopg [8, 9] k (fun kq v8 v9 w' => ∃ (x8_1 : List Int) (x9_1 : Int), v9 = .int .i64 x9_1 ∧ Aside0 (separable_Tile_1.l0 kq a0 x8_1 x9_1 a1_0 a1_1 a1_2 a1_3 l2_0 a3_0 a3_1 a3_2 l3_3 a4_0 a4_1 a5_0 = some r) ∧ Aside0 (kq ≤ k) ∧ Aside0 (Kd.R (Kd.int .i64) 3 w' w.heap.size (fun k_ => k_ ≠ B5) v8 x8_1) ∧ Aside0 (w'.heap[B1]? = some (.cells #[.int .i64 a1_0, .int .i64 a1_1, .int .i64 a1_2, .int .i64 a1_3] 33 (0, 0))) ∧ Aside0 (w'.heap[B2]? = some (.cells #[(.slice A2_0 l2_0.length c2_0)] 22 (0, 0))) ∧ Aside0 (w'.heap[B3]? = some (.cells #[.int .i64 a3_0, .int .i64 a3_1, .int .i64 a3_2, (.slice A3_3 l3_3.length c3_3)] 35 (0, 0))) ∧ Aside0 (w'.heap[B4]? = some (.cells #[.int .i64 a4_0, .int .i64 a4_1] 38 (0, 0))) ∧ Aside0 (w'.heap[B5]? = some (.cells #[.int .i64 a5_0] 3 (0, 0))) ∧ Aside0 (Below w.heap.size w w'))
  case atStart => exact ⟨(([] : List Int)), (a1_0), q109_, H', ⟨Nat.le_refl _⟩, ⟨q59_⟩, ⟨q82_⟩, ⟨q83_⟩, ⟨q84_⟩, ⟨q85_⟩, ⟨q86_⟩, ⟨q4_⟩⟩
  case round =>
    clear H'
    try clear c1
    try clear c2
    try clear p2
    try clear c3
    try clear c4
    try clear c7
    try clear c8
    try clear c9
    try clear c10
    try clear hcz11_0
    try clear hcz11_1
    try clear hcz11_2
    try clear hcz11_3
    try clear hfz11_0
    try clear hfz11_1
    try clear hfz11_2
    try clear hfz11_3
    obtain ⟨x8_1, x9_1, rfl, HA, HK1, HO_8, BK1, BK2, BK3, BK4, BK5, HB⟩ := hrel
    cases gk with
    | zero => exact absurd HA.out (by simp [separable_Tile_1.l0])
    | succ k1 =>
      have H := HA.out
      clear HA
      simp only [separable_Tile_1.l0] at H
      by_cases c12 : x9_1 < a1_2
      · rw [if_pos c12] at H
        have c12b0 : decide (x9_1 < a1_2) = true := decide_eq_true c12
        clear c12
        have H' := Aside0.mk H
        clear H
        have hnb13 := NB1_2.out
        have hnc13 := NB2_1.out
        have hnb14 := NB1_3.out
        have hnc14 := NB3_1.out
        have hnb15 := NB1_4.out
        have hnc15 := NB4_1.out
        have hnb16 := NB1_5.out
        have hnc16 := NB5_1.out
        have hcz17_0 : wr.cell? ⟨B1, 0, none⟩ = some (.int .i64 a1_0) := (blk_cell BK1.out 0).trans rfl
        have hcz17_1 : wr.cell? ⟨B1, 1, none⟩ = some (.int .i64 a1_1) := (blk_cell BK1.out 1).trans rfl
        have hcz17_2 : wr.cell? ⟨B1, 2, none⟩ = some (.int .i64 a1_2) := (blk_cell BK1.out 2).trans rfl
        have hcz17_3 : wr.cell? ⟨B1, 3, none⟩ = some (.int .i64 a1_3) := (blk_cell BK1.out 3).trans rfl
        have hfz17_0 := blk_frozen BK1.out 0
        have hfz17_1 := blk_frozen BK1.out 1
        have hfz17_2 := blk_frozen BK1.out 2
        have hfz17_3 := blk_frozen BK1.out 3
        have hnb18 := NB2_3.out
        have hnc18 := NB3_2.out
        have hnb19 := NB2_4.out
        have hnc19 := NB4_2.out
        have hnb20 := NB2_5.out
        have hnc20 := NB5_2.out
        have hcz21_0 : wr.cell? ⟨B2, 0, none⟩ = some (.slice A2_0 l2_0.length c2_0) := (blk_cell BK2.out 0).trans rfl
        have hfz21_0 := blk_frozen BK2.out 0
        go_wp2
        go_loopg [10, 23] k1 (fun kq v10 v23 w' => ∃ (x10_2 : Int) (x23_2 : Int), v10 = .int .i64 x10_2 ∧ v23 = .int .i64 x23_2 ∧ Aside0 (separable_Tile_1.l1 kq a0 x8_1 x9_1 x10_2 l2_0 (l2_0.length : Int) x23_2 a1_0 a1_1 a1_2 a1_3 l2_0 a3_0 a3_1 a3_2 l3_3 a4_0 a4_1 a5_0 = some r) ∧ Aside0 (kq ≤ k1) ∧ Aside0 (Kd.R (Kd.int .i64) 3 w' w.heap.size (fun k_ => k_ ≠ B5) u8 x8_1) ∧ Aside0 (w'.heap[B1]? = some (.cells #[.int .i64 a1_0, .int .i64 a1_1, .int .i64 a1_2, .int .i64 a1_3] 33 (0, 0))) ∧ Aside0 (w'.heap[B2]? = some (.cells #[(.slice A2_0 l2_0.length c2_0)] 22 (0, 0))) ∧ Aside0 (w'.heap[B3]? = some (.cells #[.int .i64 a3_0, .int .i64 a3_1, .int .i64 a3_2, (.slice A3_3 l3_3.length c3_3)] 35 (0, 0))) ∧ Aside0 (w'.heap[B4]? = some (.cells #[.int .i64 a4_0, .int .i64 a4_1] 38 (0, 0))) ∧ Aside0 (w'.heap[B5]? = some (.cells #[.int .i64 a5_0] 3 (0, 0))) ∧ Aside0 (Below w.heap.size w w'))
        case atStart => exact ⟨(0), (0), q109_, q109_, H', ⟨Nat.le_refl _⟩, ⟨q102_⟩, ⟨q82_⟩, ⟨q83_⟩, ⟨q84_⟩, ⟨q85_⟩, ⟨q86_⟩, ⟨q4_⟩⟩
        case round =>
          clear H'
          try clear c1
          try clear c2
          try clear p2
          try clear c3
          try clear c4
          try clear c7
          try clear c8
          try clear c9
          try clear c10
          try clear c12
          try clear c12b0
          try clear c13
          try clear c14
          try clear c15
          try clear c16
          try clear c18
          try clear c19
          try clear c20
          try clear hcz11_0
          try clear hcz11_1
          try clear hcz11_2
          try clear hcz11_3
          try clear hcz17_0
          try clear hcz17_1
          try clear hcz17_2
          try clear hcz17_3
          try clear hcz21_0
          try clear hfz11_0
          try clear hfz11_1
          try clear hfz11_2
          try clear hfz11_3
          try clear hfz17_0
          try clear hfz17_1
          try clear hfz17_2
          try clear hfz17_3
          try clear hfz21_0
          try clear p2
          obtain ⟨x10_2, x23_2, rfl, rfl, HA, HK2, HO_8, BK1, BK2, BK3, BK4, BK5, HB⟩ := hrel
          cases gk with
          | zero => exact absurd HA.out (by simp [separable_Tile_1.l1])
          | succ k2 =>
            have H := HA.out
            clear HA
            simp only [separable_Tile_1.l1] at H
            by_cases c22 : x23_2 < (l2_0.length : Int)
            · rw [if_pos c22] at H
              have c22b0 : decide (x23_2 < (l2_0.length : Int)) = true := decide_eq_true c22
              clear c22
              by_cases c23 : 0 ≤ x23_2
              · rw [if_pos c23] at H
                have c23b0 : decide (0 ≤ x23_2) = true := decide_eq_true c23
                clear c23
                by_cases c24 : x23_2 < (l2_0.length : Int)
                · rw [if_pos c24] at H
                  have c24b0 : decide (x23_2 < (l2_0.length : Int)) = true := decide_eq_true c24
                  clear c24
                  replace H := Option.bind_eq_some_iff.mp H
                  obtain ⟨t201, A250, H⟩ := H
                  replace H : (separable_Tile_1.l1 k2 a0 x8_1 x9_1 (wrap64 (x10_2 + (wrap64 ((rd l2_0 x23_2) * t201)))) l2_0 (l2_0.length : Int) (wrap64 (x23_2 + 1)) a1_0 a1_1 a1_2 a1_3 l2_0 a3_0 a3_1 a3_2 l3_3 a4_0 a4_1 a5_0) = some r := H
                  have A25 := Aside0.mk A250
                  clear A250
                  have H' := Aside0.mk H
                  clear H
                  have p200 : 0 ≤ (x23_2 : Int) := of_decide_eq_true q108_
                  have q200 : x23_2 < (l2_0.length : Int) := of_decide_eq_true q108_
                  obtain ⟨ad200, e200, hx200_0⟩ := Kd.at_int HR2_0.out x23_2 p200 q200
                  cases e200
                  replace hx200_0 := (HB.out.cell (World.block_lt_of_cell? w _ hx200_0)).trans hx200_0
                  replace p200 := eq_true p200
                  replace q200 := eq_true q200
                  have hnb26 := NB3_1.out
                  have hnc26 := NB1_3.out
                  have hnb27 := NB3_2.out
                  have hnc27 := NB2_3.out
                  have hnb28 := NB3_4.out
                  have hnc28 := NB4_3.out
                  have hnb29 := NB3_5.out
                  have hnc29 := NB5_3.out
                  have hcz30_0 : wr.cell? ⟨B3, 0, none⟩ = some (.int .i64 a3_0) := (blk_cell BK3.out 0).trans rfl
                  have hcz30_1 : wr.cell? ⟨B3, 1, none⟩ = some (.int .i64 a3_1) := (blk_cell BK3.out 1).trans rfl
                  have hcz30_2 : wr.cell? ⟨B3, 2, none⟩ = some (.int .i64 a3_2) := (blk_cell BK3.out 2).trans rfl
                  have hcz30_3 : wr.cell? ⟨B3, 3, none⟩ = some (.slice A3_3 l3_3.length c3_3) := (blk_cell BK3.out 3).trans rfl
                  have hfz30_0 := blk_frozen BK3.out 0
                  have hfz30_1 := blk_frozen BK3.out 1
                  have hfz30_2 := blk_frozen BK3.out 2
                  have hfz30_3 := blk_frozen BK3.out 3
                  have hnb31 := NB4_1.out
                  have hnc31 := NB1_4.out
                  have hnb32 := NB4_2.out
                  have hnc32 := NB2_4.out
                  have hnb33 := NB4_5.out
                  have hnc33 := NB5_4.out
                  have hcz34_0 : wr.cell? ⟨B4, 0, none⟩ = some (.int .i64 a4_0) := (blk_cell BK4.out 0).trans rfl
                  have hcz34_1 : wr.cell? ⟨B4, 1, none⟩ = some (.int .i64 a4_1) := (blk_cell BK4.out 1).trans rfl
                  have hfz34_0 := blk_frozen BK4.out 0
                  have hfz34_1 := blk_frozen BK4.out 1
                  have hnb35 := NB2_1.out
                  have hnc35 := NB1_2.out
                  have hnb36 := NB2_5.out
                  have hnc36 := NB5_2.out
                  have hcz37_0 : wr.cell? ⟨B2, 0, none⟩ = some (.slice (some ad200) l2_0.length c2_0) := (blk_cell BK2.out 0).trans rfl
                  have hfz37_0 := blk_frozen BK2.out 0
                  go_wp2_with (first | ((with_reducible refine gate_callee (f := 44) rfl ?_); refine goesL_ (some 40) rfl rfl Try.func44 (by kernel_rfl) rfl #[.agg #[.int .i64 a3_0, .int .i64 a3_1, .int .i64 a3_2, .slice A3_3 l3_3.length c3_3], .agg #[.int .i64 a4_0, .int .i64 a4_1], .int .i64 (wrap64 ((wrap64 (x9_1 + x23_2)) - (wrap64 ((l2_0.length : Int) / 2)))), .int .i64 a0] rfl q60_ ?_; (with_reducible refine (plane_Pixel.calls k2 a3_0 a3_1 a3_2 _ _ l3_3 a4_0 a4_1 (wrap64 ((wrap64 (x9_1 + x23_2)) - (wrap64 ((l2_0.length : Int) / 2)))) a0 t201 _ ?side1 ?side2 A25.out).mono ?_); (case side1 => repeat (first | exact (Kd.C_below HR3_3.out HB.out) | (with_reducible refine Kd.C_alloc ?_ _) | (with_reducible refine Kd.C_drewN ?_ _) | (with_reducible refine Kd.C_drew ?_))); (case side2 => exact HC3_3.out); rintro e w38 ⟨rfl, hb⟩; refine ⟨_, rfl, ?_⟩; have n0_ := Aside0.mk (Kd.R_below q102_ hb); have n1_ := Aside0.mk (blk_below (g := B1) (o := .cells #[.int .i64 a1_0, .int .i64 a1_1, .int .i64 a1_2, .int .i64 a1_3] 33 (0, 0)) q82_ hb); have n2_ := Aside0.mk (blk_below (g := B2) (o := .cells #[.slice (some ad200) l2_0.length c2_0] 22 (0, 0)) q83_ hb); have n3_ := Aside0.mk (blk_below (g := B3) (o := .cells #[.int .i64 a3_0, .int .i64 a3_1, .int .i64 a3_2, .slice A3_3 l3_3.length c3_3] 35 (0, 0)) q84_ hb); have n4_ := Aside0.mk (blk_below (g := B4) (o := .cells #[.int .i64 a4_0, .int .i64 a4_1] 38 (0, 0)) q85_ hb); have n5_ := Aside0.mk (blk_below (g := B5) (o := .cells #[.int .i64 a5_0] 3 (0, 0)) q86_ hb); have n6_ := Aside0.mk (below_step q4_ hb); clear HO_8; clear BK1; clear BK2; clear BK3; clear BK4; clear BK5; clear HB; have HO_8 := n0_; have BK1 := n1_; have BK2 := n2_; have BK3 := n3_; have BK4 := n4_; have BK5 := n5_; have HB := n6_; clear n0_ n1_ n2_ n3_ n4_ n5_ n6_; (try clear hb); (try clear hb2); (try clear hk); (try clear hi)))
                  go_roundg k2
                  case measure => have := HK1.out; have := HK2.out; omega
                  case rel => exact ⟨(wrap64 (x10_2 + (wrap64 ((rd l2_0 x23_2) * t201)))), (wrap64 (x23_2 + 1)), q109_, q109_, H', ⟨by have := HK1.out; have := HK2.out; omega⟩, ⟨q102_⟩, ⟨q82_⟩, ⟨q83_⟩, ⟨q84_⟩, ⟨q85_⟩, ⟨q86_⟩, ⟨q4_⟩⟩
                · rw [if_neg c24] at H
                  exact absurd H (by simp)
              · rw [if_neg c23] at H
                exact absurd H (by simp)
            · rw [if_neg c22] at H
              have c22b0 : decide (x23_2 < (l2_0.length : Int)) = false := decide_eq_false c22
              clear c22
              replace H := Option.bind_eq_some_iff.mp H
              obtain ⟨t202, A390, H⟩ := H
              replace H : (if x8_1.length < 17592186044416 then (separable_Tile_1.l0 k2 a0 (x8_1 ++ [t202]) (wrap64 (x9_1 + 1)) a1_0 a1_1 a1_2 a1_3 l2_0 a3_0 a3_1 a3_2 l3_3 a4_0 a4_1 a5_0) else (none)) = some r := H
              have A39 := Aside0.mk A390
              clear A390
              by_cases c40 : x8_1.length < 17592186044416
              · rw [if_pos c40] at H
                have LMc40 := Aside0.mk c40
                clear c40
                obtain ⟨y203, hy203⟩ : ∃ y_ : List Int, y_ = (x8_1 ++ [t202]) := ⟨_, rfl⟩
                replace H : (separable_Tile_1.l0 k2 a0 y203 (wrap64 (x9_1 + 1)) a1_0 a1_1 a1_2 a1_3 l2_0 a3_0 a3_1 a3_2 l3_3 a4_0 a4_1 a5_0) = some r := by first | (rw [hy203]; with_reducible exact H) | (have H2_ := (Option.bind_some _ _).symm.trans H; rw [hy203]; with_reducible exact H2_) | (have H2_ := (Option.bind_some _ _).symm.trans H; with_reducible exact H2_) | with_reducible exact H | (rw [hy203]; exact H) | exact H
                have Ny203 := Aside0.mk hy203
                clear hy203
                have H' := Aside0.mk H
                clear H
                have hnb41 := NB5_1.out
                have hnc41 := NB1_5.out
                have hnb42 := NB5_2.out
                have hnc42 := NB2_5.out
                have hnb43 := NB5_3.out
                have hnc43 := NB3_5.out
                have hnb44 := NB5_4.out
                have hnc44 := NB4_5.out
                have hcz45_0 : wr.cell? ⟨B5, 0, none⟩ = some (.int .i64 a5_0) := (blk_cell BK5.out 0).trans rfl
                have hfz45_0 := blk_frozen BK5.out 0
                go_wp2_with (first | ((with_reducible refine gate_callee (f := 45) rfl ?_); refine goesL_ (some 47) rfl rfl Try.func45 (by kernel_rfl) rfl #[.int .i64 x10_2, .int .i64 a5_0] rfl q60_ ?_; (with_reducible refine (fixed_Shift.calls k2 x10_2 a5_0 t202 _ A39.out).mono ?_); rintro e w' ⟨rfl, ⟨nd, rfl⟩⟩; refine ⟨_, rfl, ?_⟩) | ((with_reducible refine gate_builtin (b := .append) (xs := #[.tmp 44, .tmp 48]) rfl ?_); at_builtin; refine Kd.R_append (Kd.int .i64) (w0 := w) w.heap.size rfl (.tmp 44) (.tmp 48) 22 3 (.int .i64 0) 8 rfl Try.underlying22 info3 rfl (by decide) (by omega) u8 x8_1 t202 [.int .i64 t202] (fun k_ => k_ ≠ B5) (fun _ => False) rfl rfl ?aP (fun _ hk => hk.elim) ?aF ?aO ?aB ?aS ?aL ?_; (case aP => exact rfl); (case aB => exact q4_); (case aF => exact (fun k_ hk => Kd.freshB (g := B5) (o := .cells #[.int .i64 a5_0] 3 (0, 0)) q86_ k_ hk)); (case aO => exact q102_); (case aS => exact (below_size q4_)); (case aL => have := LMc40.out; omega); intro v204 w46 ho hb hg hat; rw [← Ny203.out] at ho; have n0_ := Aside0.mk (blk_grown (g := B1) (o := .cells #[.int .i64 a1_0, .int .i64 a1_1, .int .i64 a1_2, .int .i64 a1_3] 33 (0, 0)) q82_ hg (Kd.R_ne HO_8.out BK1.out (by decide))); have n1_ := Aside0.mk (blk_grown (g := B2) (o := .cells #[.slice A2_0 l2_0.length c2_0] 22 (0, 0)) q83_ hg (Kd.R_ne HO_8.out BK2.out (by decide))); have n2_ := Aside0.mk (blk_grown (g := B3) (o := .cells #[.int .i64 a3_0, .int .i64 a3_1, .int .i64 a3_2, .slice A3_3 l3_3.length c3_3] 35 (0, 0)) q84_ hg (Kd.R_ne HO_8.out BK3.out (by decide))); have n3_ := Aside0.mk (blk_grown (g := B4) (o := .cells #[.int .i64 a4_0, .int .i64 a4_1] 38 (0, 0)) q85_ hg (Kd.R_ne HO_8.out BK4.out (by decide))); have n4_ := Aside0.mk (blk_grown (g := B5) (o := .cells #[.int .i64 a5_0] 3 (0, 0)) q86_ hg (Kd.R_away HO_8.out (fun _ hk => hk))); have n5_ := Aside0.mk (hb); have n6_ := Aside0.mk (ho); clear BK1; clear BK2; clear BK3; clear BK4; clear BK5; clear HB; clear HO_8; have BK1 := n0_; have BK2 := n1_; have BK3 := n2_; have BK4 := n3_; have BK5 := n4_; have HB := n5_; have HO205 := n6_; clear n0_ n1_ n2_ n3_ n4_ n5_ n6_; clear ho hb hg hat))
                go_roundg k2
                case measure => have := HK1.out; have := HK2.out; omega
                case rel => exact ⟨(y203), (wrap64 (x9_1 + 1)), q109_, H', ⟨by have := HK1.out; have := HK2.out; omega⟩, ⟨by (with_reducible repeat (first | apply Kd.R_alloc | apply Kd.R_drewN | apply Kd.R_drew)); exact HO205.out⟩, ⟨q82_⟩, ⟨q83_⟩, ⟨q84_⟩, ⟨q85_⟩, ⟨q86_⟩, ⟨q4_⟩⟩
              · rw [if_neg c40] at H
                exact absurd H (by simp)
      · rw [if_neg c12] at H
        have c12b0 : decide (x9_1 < a1_2) = false := decide_eq_false c12
        clear c12
        obtain rfl := Option.some.inj H
        have hnb47 := NB1_2.out
        have hnc47 := NB2_1.out
        have hnb48 := NB1_3.out
        have hnc48 := NB3_1.out
        have hnb49 := NB1_4.out
        have hnc49 := NB4_1.out
        have hnb50 := NB1_5.out
        have hnc50 := NB5_1.out
        have hcz51_0 : wr.cell? ⟨B1, 0, none⟩ = some (.int .i64 a1_0) := (blk_cell BK1.out 0).trans rfl
        have hcz51_1 : wr.cell? ⟨B1, 1, none⟩ = some (.int .i64 a1_1) := (blk_cell BK1.out 1).trans rfl
        have hcz51_2 : wr.cell? ⟨B1, 2, none⟩ = some (.int .i64 a1_2) := (blk_cell BK1.out 2).trans rfl
        have hcz51_3 : wr.cell? ⟨B1, 3, none⟩ = some (.int .i64 a1_3) := (blk_cell BK1.out 3).trans rfl
        have hfz51_0 := blk_frozen BK1.out 0
        have hfz51_1 := blk_frozen BK1.out 1
        have hfz51_2 := blk_frozen BK1.out 2
        have hfz51_3 := blk_frozen BK1.out 3
        go_wp2
        go_ret
        exact ⟨_, q103_, by (with_reducible repeat (first | apply Kd.R_alloc | apply Kd.R_drewN | apply Kd.R_drew)); exact Kd.R_mono HO_8.out (fun _ hk => trivial), q4_⟩


def fixed_Clamp.f (a0 : Int) (a1 : Int) : Option (Int) := some (mx (mn a0 a1) 0)
set_option maxHeartbeats 8000000 in
set_option maxRecDepth 100000 in
theorem fixed_Clamp.calls (a0 : Int) (a1 : Int) (r : Int) (w : World) (h : fixed_Clamp.f a0 a1 = some r) :
    Calls Try.prog 46 #[.int .i64 a0, .int .i64 a1] w fun e w' => e = .returned (.int .i64 r) ∧ Below w.heap.size w w' := by
  have HB := Aside0.mk (Below.refl w.heap.size w)
  have H : (some (mx (mn a0 a1) 0)) = some r := h
  clear h
  obtain ⟨ji3, hji3⟩ : ∃ j_ : Int, (mn a0 a1) = j_ := ⟨_, rfl⟩
  replace H : (some (mx (ji3) 0)) = some r := by first | (rw [hji3] at H; exact H) | (simp only [hji3] at H ⊢; exact H)
  have hji3_ : (if a1 < a0 then a1 else a0) = ji3 := hji3
  obtain ⟨ji4, hji4⟩ : ∃ j_ : Int, (mx (ji3) 0) = j_ := ⟨_, rfl⟩
  replace H : (some ji4) = some r := by first | (rw [hji4] at H; exact H) | (simp only [hji4] at H ⊢; exact H)
  have hji4_ : (if (ji3) < 0 then 0 else (ji3)) = ji4 := hji4
  obtain rfl := Option.some.inj H
  go_enter Try.func46, Try.ntmps46
  go_wp2
  go_ret
  exact ⟨by first | rfl | (simp [errW_none, errW_some] <;> rfl) | (simp only [← hji3, ← hji4]; first | rfl | (simp [errW_none, errW_some] <;> rfl)) | (simp [*, errW_none, errW_some] <;> rfl), q62_⟩

end Go.Proofs.Ytcfllciehmgikaa.PSeparableChecks
