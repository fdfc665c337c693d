-- Written by a program of the session (wip/tools/pack.py): the printed texts, pruned; checked by Lean.
import Derived.Test.YthgmndomnibefaaKConvolveMovesa
import Derived.Test.YthgmndomnibefaaKConvolveMovesx0
import Derived.Test.YthgmndomnibefaaKConvolveMovesx6
namespace Go.Proofs.Ythgmndomnibefaa.PConvolveMoves
open Go.RowKit Go.Proofs.YthgmndomnibefaaW.PrintWords Go.Proofs.YthgmndomnibefaaW.PrintLast Go.Proofs.YthgmndomnibefaaW.PrintMore
attribute [local go_sem] max2_int min2_int max_two min_two max_three min_three max_four min_four   -- for this text's walks alone
set_option linter.unusedVariables false
set_option linter.unusedSimpArgs false
mutual
def convolve_sum.j0 : Nat → Int → Int → List Int → Int → Int → Int → Bool → Int → Int → Int → List Int → Int → Int → Option (Int)
  | 0, _, _, _, _, _, _, _, _, _, _, _, _, _ => none
  | k + 1, x2, x3, x4, x5, x6, x15, x16, x165000, x165001, x165002, x165003, x166000, x166001 => convolve_sum.l0 k x2 x4 x5 x6 x15 x16 x3 0 x165000 x165001 x165002 x165003 x166000 x166001
def convolve_sum.l0 : Nat → Int → List Int → Int → Int → Int → Bool → Int → Int → Int → Int → Int → List Int → Int → Int → Option (Int)
  | 0, _, _, _, _, _, _, _, _, _, _, _, _, _, _ => none
  | k + 1, x2, x4, x5, x6, x15, x16, x42, x43, x165000, x165001, x165002, x165003, x166000, x166001 => if x43 < x42 then (convolve_sum.l1 k x2 x4 x5 x6 x15 x16 x43 x42 x43 x2 0 x165000 x165001 x165002 x165003 x166000 x166001) else (some x15)
def convolve_sum.l1 : Nat → Int → List Int → Int → Int → Int → Bool → Int → Int → Int → Int → Int → Int → Int → Int → List Int → Int → Int → Option (Int)
  | 0, _, _, _, _, _, _, _, _, _, _, _, _, _, _, _, _, _ => none
  | k + 1, x2, x4, x5, x6, x15, x16, x17, x42, x43, x46, x47, x165000, x165001, x165002, x165003, x166000, x166001 => if x47 < x46 then (if x16 = true then (if 0 ≤ (wrap64 ((wrap64 ((wrap64 ((wrap64 (x6 + x17)) * x165000)) + x5)) + x47)) then (if (wrap64 ((wrap64 ((wrap64 ((wrap64 (x6 + x17)) * x165000)) + x5)) + x47)) < (x165003.length : Int) then (if 0 ≤ (wrap64 ((wrap64 (x17 * x2)) + x47)) then (if (wrap64 ((wrap64 (x17 * x2)) + x47)) < (x4.length : Int) then (convolve_sum.l1 k x2 x4 x5 x6 (wrap64 (x15 + (wrap64 ((rd x4 (wrap64 ((wrap64 (x17 * x2)) + x47))) * (rd x165003 (wrap64 ((wrap64 ((wrap64 ((wrap64 (x6 + x17)) * x165000)) + x5)) + x47))))))) x16 x17 x42 x43 x46 (wrap64 (x47 + 1)) x165000 x165001 x165002 x165003 x166000 x166001) else (none)) else (none)) else (none)) else (none)) else ((plane_Pixel.f k x165000 x165001 x165002 x165003 x166000 x166001 (wrap64 (x5 + x47)) (wrap64 (x6 + x17))).bind fun t168 => (if 0 ≤ (wrap64 ((wrap64 (x17 * x2)) + x47)) then (if (wrap64 ((wrap64 (x17 * x2)) + x47)) < (x4.length : Int) then (convolve_sum.l1 k x2 x4 x5 x6 (wrap64 (x15 + (wrap64 ((rd x4 (wrap64 ((wrap64 (x17 * x2)) + x47))) * t168)))) x16 x17 x42 x43 x46 (wrap64 (x47 + 1)) x165000 x165001 x165002 x165003 x166000 x166001) else (none)) else (none)))) else (convolve_sum.l0 k x2 x4 x5 x6 x15 x16 x42 (wrap64 (x43 + 1)) x165000 x165001 x165002 x165003 x166000 x166001)
end
def convolve_sum.f (k : Nat) (a0_0 : Int) (a0_1 : Int) (a0_2 : Int) (l0_3 : List Int) (a1_0 : Int) (a1_1 : Int) (a2 : Int) (a3 : Int) (l4 : List Int) (a5 : Int) (a6 : Int) : Option (Int) := if a5 ≥ 0 then (if a6 ≥ 0 then (if (wrap64 (a5 + a2)) ≤ a0_0 then (convolve_sum.j0 k a2 a3 l4 a5 a6 0 (decide ((wrap64 (a6 + a3)) ≤ a0_1)) a0_0 a0_1 a0_2 l0_3 a1_0 a1_1) else (convolve_sum.j0 k a2 a3 l4 a5 a6 0 false a0_0 a0_1 a0_2 l0_3 a1_0 a1_1)) else (convolve_sum.j0 k a2 a3 l4 a5 a6 0 false a0_0 a0_1 a0_2 l0_3 a1_0 a1_1)) else (convolve_sum.j0 k a2 a3 l4 a5 a6 0 false a0_0 a0_1 a0_2 l0_3 a1_0 a1_1)
theorem convolve_sum.mono_l : ∀ k, (∀ y0 y1 y2 y3 y4 y5 y6 y7 y8 y9 y10 y11 y12, LeO (convolve_sum.j0 k y0 y1 y2 y3 y4 y5 y6 y7 y8 y9 y10 y11 y12) (convolve_sum.j0 (k + 1) y0 y1 y2 y3 y4 y5 y6 y7 y8 y9 y10 y11 y12)) ∧ (∀ y0 y1 y2 y3 y4 y5 y6 y7 y8 y9 y10 y11 y12 y13, LeO (convolve_sum.l0 k y0 y1 y2 y3 y4 y5 y6 y7 y8 y9 y10 y11 y12 y13) (convolve_sum.l0 (k + 1) y0 y1 y2 y3 y4 y5 y6 y7 y8 y9 y10 y11 y12 y13)) ∧ (∀ y0 y1 y2 y3 y4 y5 y6 y7 y8 y9 y10 y11 y12 y13 y14 y15 y16, LeO (convolve_sum.l1 k y0 y1 y2 y3 y4 y5 y6 y7 y8 y9 y10 y11 y12 y13 y14 y15 y16) (convolve_sum.l1 (k + 1) y0 y1 y2 y3 y4 y5 y6 y7 y8 y9 y10 y11 y12 y13 y14 y15 y16))
  | 0 => ⟨fun _ _ _ _ _ _ _ _ _ _ _ _ _ r h => by simp [convolve_sum.j0] at h, fun _ _ _ _ _ _ _ _ _ _ _ _ _ _ r h => by simp [convolve_sum.l0] at h, fun _ _ _ _ _ _ _ _ _ _ _ _ _ _ _ _ _ r h => by simp [convolve_sum.l1] at h⟩
  | k + 1 => by
    obtain ⟨ih0, ih1, ih2⟩ := convolve_sum.mono_l k
    refine ⟨?_, ?_, ?_⟩
    · intro y0 y1 y2 y3 y4 y5 y6 y7 y8 y9 y10 y11 y12
      unfold convolve_sum.j0
      repeat' first
      | (with_reducible exact ih0 _ _ _ _ _ _ _ _ _ _ _ _ _)
      | (with_reducible exact ih1 _ _ _ _ _ _ _ _ _ _ _ _ _ _)
      | (with_reducible exact ih2 _ _ _ _ _ _ _ _ _ _ _ _ _ _ _ _ _)
      | (with_reducible exact plane_Pixel.mono _ _ _ _ _ _ _ _ _)
      | (with_reducible exact LeO.refl _)
      | (with_reducible exact LeO.none _)
      | (with_reducible refine LeO.ite ?_ ?_)
      | (with_reducible refine LeO.bind ?_ (fun _ => ?_))
      | exact ih0 _ _ _ _ _ _ _ _ _ _ _ _ _
      | exact ih1 _ _ _ _ _ _ _ _ _ _ _ _ _ _
      | exact ih2 _ _ _ _ _ _ _ _ _ _ _ _ _ _ _ _ _
      | exact plane_Pixel.mono _ _ _ _ _ _ _ _ _
      | exact LeO.none _
      | refine LeO.ite ?_ ?_
      | refine LeO.bind ?_ (fun _ => ?_)
    · intro y0 y1 y2 y3 y4 y5 y6 y7 y8 y9 y10 y11 y12 y13
      unfold convolve_sum.l0
      repeat' first
      | (with_reducible exact ih0 _ _ _ _ _ _ _ _ _ _ _ _ _)
      | (with_reducible exact ih1 _ _ _ _ _ _ _ _ _ _ _ _ _ _)
      | (with_reducible exact ih2 _ _ _ _ _ _ _ _ _ _ _ _ _ _ _ _ _)
      | (with_reducible exact plane_Pixel.mono _ _ _ _ _ _ _ _ _)
      | (with_reducible exact LeO.refl _)
      | (with_reducible exact LeO.none _)
      | (with_reducible refine LeO.ite ?_ ?_)
      | (with_reducible refine LeO.bind ?_ (fun _ => ?_))
      | exact ih0 _ _ _ _ _ _ _ _ _ _ _ _ _
      | exact ih1 _ _ _ _ _ _ _ _ _ _ _ _ _ _
      | exact ih2 _ _ _ _ _ _ _ _ _ _ _ _ _ _ _ _ _
      | exact plane_Pixel.mono _ _ _ _ _ _ _ _ _
      | exact LeO.none _
      | refine LeO.ite ?_ ?_
      | refine LeO.bind ?_ (fun _ => ?_)
    · intro y0 y1 y2 y3 y4 y5 y6 y7 y8 y9 y10 y11 y12 y13 y14 y15 y16
      unfold convolve_sum.l1
      repeat' first
      | (with_reducible exact ih0 _ _ _ _ _ _ _ _ _ _ _ _ _)
      | (with_reducible exact ih1 _ _ _ _ _ _ _ _ _ _ _ _ _ _)
      | (with_reducible exact ih2 _ _ _ _ _ _ _ _ _ _ _ _ _ _ _ _ _)
      | (with_reducible exact plane_Pixel.mono _ _ _ _ _ _ _ _ _)
      | (with_reducible exact LeO.refl _)
      | (with_reducible exact LeO.none _)
      | (with_reducible refine LeO.ite ?_ ?_)
      | (with_reducible refine LeO.bind ?_ (fun _ => ?_))
      | exact ih0 _ _ _ _ _ _ _ _ _ _ _ _ _
      | exact ih1 _ _ _ _ _ _ _ _ _ _ _ _ _ _
      | exact ih2 _ _ _ _ _ _ _ _ _ _ _ _ _ _ _ _ _
      | exact plane_Pixel.mono _ _ _ _ _ _ _ _ _
      | exact LeO.none _
      | refine LeO.ite ?_ ?_
      | refine LeO.bind ?_ (fun _ => ?_)
theorem convolve_sum.mono : ∀ a0 a1 a2 a3 a4 a5 a6 a7 a8 a9 a10 k, LeO (convolve_sum.f k a0 a1 a2 a3 a4 a5 a6 a7 a8 a9 a10) (convolve_sum.f (k + 1) a0 a1 a2 a3 a4 a5 a6 a7 a8 a9 a10) := by
  intro a0 a1 a2 a3 a4 a5 a6 a7 a8 a9 a10 k
  obtain ⟨ih0, ih1, ih2⟩ := convolve_sum.mono_l k
  unfold convolve_sum.f
  repeat' first
      | (with_reducible exact ih0 _ _ _ _ _ _ _ _ _ _ _ _ _)
      | (with_reducible exact ih1 _ _ _ _ _ _ _ _ _ _ _ _ _ _)
      | (with_reducible exact ih2 _ _ _ _ _ _ _ _ _ _ _ _ _ _ _ _ _)
      | (with_reducible exact plane_Pixel.mono _ _ _ _ _ _ _ _ _)
      | (with_reducible exact LeO.refl _)
      | (with_reducible exact LeO.none _)
      | (with_reducible refine LeO.ite ?_ ?_)
      | (with_reducible refine LeO.bind ?_ (fun _ => ?_))
      | exact ih0 _ _ _ _ _ _ _ _ _ _ _ _ _
      | exact ih1 _ _ _ _ _ _ _ _ _ _ _ _ _ _
      | exact ih2 _ _ _ _ _ _ _ _ _ _ _ _ _ _ _ _ _
      | exact plane_Pixel.mono _ _ _ _ _ _ _ _ _
      | exact LeO.none _
      | refine LeO.ite ?_ ?_
      | refine LeO.bind ?_ (fun _ => ?_)
set_option maxHeartbeats 8000000 in
set_option maxRecDepth 100000 in
theorem convolve_sum.calls (k : Nat) (a0_0 : Int) (a0_1 : Int) (a0_2 : Int) (A0_3 : Option Addr) (c0_3 : Nat) (l0_3 : List Int) (a1_0 : Int) (a1_1 : Int) (a2 : Int) (a3 : Int) (A4 : Option Addr) (c4 : Nat) (l4 : List Int) (a5 : Int) (a6 : Int) (r : Int) (w : World) (hr0_3 : Kd.C (Kd.int .i64) w A0_3 l0_3.length l0_3) (hc0_3 : l0_3.length ≤ c0_3) (hr4 : Kd.C (Kd.int .i64) w A4 l4.length l4) (hc4 : l4.length ≤ c4) (h : convolve_sum.f k a0_0 a0_1 a0_2 l0_3 a1_0 a1_1 a2 a3 l4 a5 a6 = some r) :
    Calls Try.prog 42 #[.agg #[.int .i64 a0_0, .int .i64 a0_1, .int .i64 a0_2, .slice A0_3 l0_3.length c0_3], .agg #[.int .i64 a1_0, .int .i64 a1_1], .int .i64 a2, .int .i64 a3, .slice A4 l4.length c4, .int .i64 a5, .int .i64 a6] w fun e w' => e = .returned (.int .i64 r) ∧ Below w.heap.size w w' := by
  have hu35 := Try.underlying35
  have hu38 := Try.underlying38
  have HR0_3 := Aside0.mk hr0_3
  have HC0_3 := Aside0.mk hc0_3
  clear hr0_3 hc0_3
  have HR4 := Aside0.mk hr4
  have HC4 := Aside0.mk hc4
  clear hr4 hc4
  have HB := Aside0.mk (Below.refl w.heap.size w)
  have H : (if a5 ≥ 0 then (if a6 ≥ 0 then (if (wrap64 (a5 + a2)) ≤ a0_0 then (convolve_sum.j0 k a2 a3 l4 a5 a6 0 (decide ((wrap64 (a6 + a3)) ≤ a0_1)) a0_0 a0_1 a0_2 l0_3 a1_0 a1_1) else (convolve_sum.j0 k a2 a3 l4 a5 a6 0 false a0_0 a0_1 a0_2 l0_3 a1_0 a1_1)) else (convolve_sum.j0 k a2 a3 l4 a5 a6 0 false a0_0 a0_1 a0_2 l0_3 a1_0 a1_1)) else (convolve_sum.j0 k a2 a3 l4 a5 a6 0 false a0_0 a0_1 a0_2 l0_3 a1_0 a1_1)) = some r := h
  clear h
  have HC8 := Aside0.mk H
  clear H
  go_enter Try.func42, Try.ntmps42
  go_upto_region 2 with (first | ((with_reducible refine gate_dst (N := 7) rfl ?_); refine box_event ?hg (N := 7) ?hd (cs := #[.int .i64 a0_0, .int .i64 a0_1, .int .i64 a0_2, .slice A0_3 l0_3.length c0_3]) (t := 35) ?hr ?_; (case hd => rfl); (case hg => rfl); (case hr => first | (go_simp; done) | (go_simp; rfl)); intro gb164 hg w9 hbox hb; have n0_ := Aside0.mk (below_step q96_ hb); have n1_ := Aside0.mk (hbox); have n2_ := Aside0.mk ((q76_ : w.heap.size ≤ gb164)); have n3_ := Aside0.mk ((q76_ : w.heap.size ≤ gb164)); clear HB; have HB := n0_; have BK164 := n1_; have GW164 := n2_; have GE164 := n3_; clear n0_ n1_ n2_ n3_; clear hb hbox hg) | ((with_reducible refine gate_dst (N := 8) rfl ?_); refine box_event ?hg (N := 8) ?hd (cs := #[.int .i64 a1_0, .int .i64 a1_1]) (t := 38) ?hr ?_; (case hd => rfl); (case hg => rfl); (case hr => first | (go_simp; done) | (go_simp; rfl)); intro gb165 hg w10 hbox hb; have n0_ := Aside0.mk (blk_below (g := gb164) (o := .cells #[.int .i64 a0_0, .int .i64 a0_1, .int .i64 a0_2, .slice A0_3 l0_3.length c0_3] 35 (0, 0)) q107_ hb); have n1_ := Aside0.mk (below_step q83_ hb); have n2_ := Aside0.mk (hbox); have n3_ := Aside0.mk ((by rw [hg]; exact (below_size q83_) : w.heap.size ≤ gb165)); have n4_ := Aside0.mk ((by rw [hg]; exact (below_size q83_) : w.heap.size ≤ gb165)); have n5_ := Aside0.mk ((by rw [hg]; exact Nat.ne_of_lt (blk_lt (g := gb164) (o := .cells #[.int .i64 a0_0, .int .i64 a0_1, .int .i64 a0_2, .slice A0_3 l0_3.length c0_3] 35 (0, 0)) q107_) : gb164 ≠ gb165)); have n6_ := Aside0.mk ((by rw [hg]; exact Nat.ne_of_gt (blk_lt (g := gb164) (o := .cells #[.int .i64 a0_0, .int .i64 a0_1, .int .i64 a0_2, .slice A0_3 l0_3.length c0_3] 35 (0, 0)) q107_) : gb165 ≠ gb164)); clear BK164; clear HB; have BK164 := n0_; have HB := n1_; have BK165 := n2_; have GW165 := n3_; have GE165 := n4_; have NB164_165 := n5_; have NB165_164 := n6_; clear n0_ n1_ n2_ n3_ n4_ n5_ n6_; clear hb hbox hg))
  (try simp only [Act.put, List.setIfInBounds_toArray, List.set_cons_zero, List.set_cons_succ])
  go_cut [16] (fun v16 wc => ∃ (kq : Nat) (x16_7 : Bool), v16 = .bool x16_7 ∧ Aside0 (convolve_sum.j0 kq a2 a3 l4 a5 a6 0 x16_7 a0_0 a0_1 a0_2 l0_3 a1_0 a1_1 = some r) ∧ Aside0 (kq ≤ k) ∧ Aside0 (wc.heap[gb164]? = some (.cells #[.int .i64 a0_0, .int .i64 a0_1, .int .i64 a0_2, (.slice A0_3 l0_3.length c0_3)] 35 (0, 0))) ∧ Aside0 (wc.heap[gb165]? = some (.cells #[.int .i64 a1_0, .int .i64 a1_1] 38 (0, 0))) ∧ Aside0 (Below w.heap.size w wc))
  case first =>
    have H := HC8.out
    clear HC8
    by_cases c11 : a5 ≥ 0
    · rw [if_pos c11] at H
      have c11b0 : decide (0 ≤ a5) = true := decide_eq_true c11
      clear c11
      (first | rw [c11b0] | (simp only [i64_w, i32_w]; rw [c11b0]) | skip)
      by_cases c12 : a6 ≥ 0
      · rw [if_pos c12] at H
        have c12b0 : decide (0 ≤ a6) = true := decide_eq_true c12
        clear c12
        by_cases c13 : (wrap64 (a5 + a2)) ≤ a0_0
        · rw [if_pos c13] at H
          have c13b0 : decide ((wrap64 (a5 + a2)) ≤ a0_0) = true := decide_eq_true c13
          clear c13
          have H' := Aside0.mk H
          clear H
          have hnb14 := NB164_165.out
          have hnc14 := NB165_164.out
          have hcz15_0 : w10.cell? ⟨gb164, 0, none⟩ = some (.int .i64 a0_0) := (blk_cell BK164.out 0).trans rfl
          have hcz15_1 : w10.cell? ⟨gb164, 1, none⟩ = some (.int .i64 a0_1) := (blk_cell BK164.out 1).trans rfl
          have hcz15_2 : w10.cell? ⟨gb164, 2, none⟩ = some (.int .i64 a0_2) := (blk_cell BK164.out 2).trans rfl
          have hcz15_3 : w10.cell? ⟨gb164, 3, none⟩ = some (.slice A0_3 l0_3.length c0_3) := (blk_cell BK164.out 3).trans rfl
          have hfz15_0 := blk_frozen BK164.out 0
          have hfz15_1 := blk_frozen BK164.out 1
          have hfz15_2 := blk_frozen BK164.out 2
          have hfz15_3 := blk_frozen BK164.out 3
          go_wp2
          go_meet
          case rel => exact ⟨_, (decide ((wrap64 (a6 + a3)) ≤ a0_1)), q146_, H', ⟨by first | omega | exact Nat.le_refl _⟩, ⟨q107_⟩, ⟨q108_⟩, ⟨q65_⟩⟩
        · rw [if_neg c13] at H
          have c13b0 : decide ((wrap64 (a5 + a2)) ≤ a0_0) = false := decide_eq_false c13
          clear c13
          have H' := Aside0.mk H
          clear H
          have hnb16 := NB164_165.out
          have hnc16 := NB165_164.out
          have hcz17_0 : w10.cell? ⟨gb164, 0, none⟩ = some (.int .i64 a0_0) := (blk_cell BK164.out 0).trans rfl
          have hcz17_1 : w10.cell? ⟨gb164, 1, none⟩ = some (.int .i64 a0_1) := (blk_cell BK164.out 1).trans rfl
          have hcz17_2 : w10.cell? ⟨gb164, 2, none⟩ = some (.int .i64 a0_2) := (blk_cell BK164.out 2).trans rfl
          have hcz17_3 : w10.cell? ⟨gb164, 3, none⟩ = some (.slice A0_3 l0_3.length c0_3) := (blk_cell BK164.out 3).trans rfl
          have hfz17_0 := blk_frozen BK164.out 0
          have hfz17_1 := blk_frozen BK164.out 1
          have hfz17_2 := blk_frozen BK164.out 2
          have hfz17_3 := blk_frozen BK164.out 3
          go_wp2
          go_meet
          case rel => exact ⟨_, (false), q146_, H', ⟨by first | omega | exact Nat.le_refl _⟩, ⟨q107_⟩, ⟨q108_⟩, ⟨q65_⟩⟩
      · rw [if_neg c12] at H
        have c12b0 : decide (0 ≤ a6) = false := decide_eq_false c12
        clear c12
        have H' := Aside0.mk H
        clear H
        go_wp2
        go_meet
        case rel => exact ⟨_, (false), q146_, H', ⟨by first | omega | exact Nat.le_refl _⟩, ⟨q107_⟩, ⟨q108_⟩, ⟨q65_⟩⟩
    · rw [if_neg c11] at H
      have c11b0 : decide (0 ≤ a5) = false := decide_eq_false c11
      clear c11
      (first | rw [c11b0] | (simp only [i64_w, i32_w]; rw [c11b0]) | skip)
      have H' := Aside0.mk H
      clear H
      go_wp2
      go_meet
      case rel => exact ⟨_, (false), q146_, H', ⟨by first | omega | exact Nat.le_refl _⟩, ⟨q107_⟩, ⟨q108_⟩, ⟨q65_⟩⟩
  case rest =>
    clear HC8
    try clear c1
    try clear p2
    try clear c4
    try clear p6
    try clear c11
    try clear c11b0
    try clear c12
    try clear c12b0
    try clear c13
    try clear c13b0
    try clear c14
    try clear c16
    try clear hcz15_0
    try clear hcz15_1
    try clear hcz15_2
    try clear hcz15_3
    try clear hcz17_0
    try clear hcz17_1
    try clear hcz17_2
    try clear hcz17_3
    try clear hfz15_0
    try clear hfz15_1
    try clear hfz15_2
    try clear hfz15_3
    try clear hfz17_0
    try clear hfz17_1
    try clear hfz17_2
    try clear hfz17_3
    obtain ⟨kq, x16_7, rfl, HA, HJ7, BK164, BK165, HB⟩ := hcut
    cases kq with
    | zero => exact absurd HA.out (by simp [convolve_sum.j0])
    | succ kj7 =>
      have H := HA.out
      clear HA
      simp only [convolve_sum.j0] at H
      have H' := Aside0.mk H
      clear H
      go_wp2
      go_loopg [15, 43] kj7 (fun kq v15 v43 w' => ∃ (x15_2 : Int) (x43_2 : Int), v15 = .int .i64 x15_2 ∧ v43 = .int .i64 x43_2 ∧ Aside0 (convolve_sum.l0 kq a2 l4 a5 a6 x15_2 x16_7 a3 x43_2 a0_0 a0_1 a0_2 l0_3 a1_0 a1_1 = some r) ∧ Aside0 (kq ≤ kj7) ∧ Aside0 (w'.heap[gb164]? = some (.cells #[.int .i64 a0_0, .int .i64 a0_1, .int .i64 a0_2, (.slice A0_3 l0_3.length c0_3)] 35 (0, 0))) ∧ Aside0 (w'.heap[gb165]? = some (.cells #[.int .i64 a1_0, .int .i64 a1_1] 38 (0, 0))) ∧ Aside0 (Below w.heap.size w w'))
      case atStart => exact ⟨(0), (0), q146_, q146_, H', ⟨Nat.le_refl _⟩, ⟨q107_⟩, ⟨q108_⟩, ⟨q65_⟩⟩
      case round =>
        clear H'
        try clear c1
        try clear p2
        try clear c4
        try clear p6
        try clear c11
        try clear c11b0
        try clear c12
        try clear c12b0
        try clear c13
        try clear c13b0
        try clear c14
        try clear c16
        try clear hcz15_0
        try clear hcz15_1
        try clear hcz15_2
        try clear hcz15_3
        try clear hcz17_0
        try clear hcz17_1
        try clear hcz17_2
        try clear hcz17_3
        try clear hfz15_0
        try clear hfz15_1
        try clear hfz15_2
        try clear hfz15_3
        try clear hfz17_0
        try clear hfz17_1
        try clear hfz17_2
        try clear hfz17_3
        try clear p2
        try clear p6
        obtain ⟨x15_2, x43_2, rfl, rfl, HA, HK2, BK164, BK165, HB⟩ := hrel
        cases gk with
        | zero => exact absurd HA.out (by simp [convolve_sum.l0])
        | succ k2 =>
          have H := HA.out
          clear HA
          simp only [convolve_sum.l0] at H
          by_cases c18 : x43_2 < a3
          · rw [if_pos c18] at H
            have c18b0 : decide (x43_2 < a3) = true := decide_eq_true c18
            clear c18
            have H' := Aside0.mk H
            clear H
            go_wp2
            go_loopg [15, 47] k2 (fun kq v15 v47 w' => ∃ (x15_3 : Int) (x47_3 : Int), v15 = .int .i64 x15_3 ∧ v47 = .int .i64 x47_3 ∧ Aside0 (convolve_sum.l1 kq a2 l4 a5 a6 x15_3 x16_7 x43_2 a3 x43_2 a2 x47_3 a0_0 a0_1 a0_2 l0_3 a1_0 a1_1 = some r) ∧ Aside0 (kq ≤ k2) ∧ Aside0 (w'.heap[gb164]? = some (.cells #[.int .i64 a0_0, .int .i64 a0_1, .int .i64 a0_2, (.slice A0_3 l0_3.length c0_3)] 35 (0, 0))) ∧ Aside0 (w'.heap[gb165]? = some (.cells #[.int .i64 a1_0, .int .i64 a1_1] 38 (0, 0))) ∧ Aside0 (Below w.heap.size w w'))
            case atStart => exact ⟨(x15_2), (0), q146_, q146_, H', ⟨Nat.le_refl _⟩, ⟨q107_⟩, ⟨q108_⟩, ⟨q65_⟩⟩
            case round =>
              clear H'
              try clear c1
              try clear p2
              try clear c4
              try clear p6
              try clear c11
              try clear c11b0
              try clear c12
              try clear c12b0
              try clear c13
              try clear c13b0
              try clear c14
              try clear c16
              try clear c18
              try clear c18b0
              try clear hcz15_0
              try clear hcz15_1
              try clear hcz15_2
              try clear hcz15_3
              try clear hcz17_0
              try clear hcz17_1
              try clear hcz17_2
              try clear hcz17_3
              try clear hfz15_0
              try clear hfz15_1
              try clear hfz15_2
              try clear hfz15_3
              try clear hfz17_0
              try clear hfz17_1
              try clear hfz17_2
              try clear hfz17_3
              try clear p2
              try clear p6
              obtain ⟨x15_3, x47_3, rfl, rfl, HA, HK3, BK164, BK165, HB⟩ := hrel
              cases gk with
              | zero => exact absurd HA.out (by simp [convolve_sum.l1])
              | succ k3 =>
                have H := HA.out
                clear HA
                simp only [convolve_sum.l1] at H
                by_cases c19 : x47_3 < a2
                · rw [if_pos c19] at H
                  have c19b0 : decide (x47_3 < a2) = true := decide_eq_true c19
                  clear c19
                  by_cases c20 : x16_7 = true
                  · subst c20
                    have H1 : (if 0 ≤ (wrap64 ((wrap64 ((wrap64 ((wrap64 (a6 + x43_2)) * a0_0)) + a5)) + x47_3)) then (if (wrap64 ((wrap64 ((wrap64 ((wrap64 (a6 + x43_2)) * a0_0)) + a5)) + x47_3)) < (l0_3.length : Int) then (if 0 ≤ (wrap64 ((wrap64 (x43_2 * a2)) + x47_3)) then (if (wrap64 ((wrap64 (x43_2 * a2)) + x47_3)) < (l4.length : Int) then (convolve_sum.l1 k3 a2 l4 a5 a6 (wrap64 (x15_3 + (wrap64 ((rd l4 (wrap64 ((wrap64 (x43_2 * a2)) + x47_3))) * (rd l0_3 (wrap64 ((wrap64 ((wrap64 ((wrap64 (a6 + x43_2)) * a0_0)) + a5)) + x47_3))))))) true x43_2 a3 x43_2 a2 (wrap64 (x47_3 + 1)) a0_0 a0_1 a0_2 l0_3 a1_0 a1_1) else (none)) else (none)) else (none)) else (none)) = some r := by rw [if_pos rfl] at H; exact H
                    clear H
                    have H := H1
                    clear H1
                    obtain ⟨ji21, hji21⟩ : ∃ j_ : Int, (wrap64 ((wrap64 ((wrap64 ((wrap64 (a6 + x43_2)) * a0_0)) + a5)) + x47_3)) = j_ := ⟨_, rfl⟩
                    replace H : (if 0 ≤ (ji21) then (if (ji21) < (l0_3.length : Int) then (if 0 ≤ (wrap64 ((wrap64 (x43_2 * a2)) + x47_3)) then (if (wrap64 ((wrap64 (x43_2 * a2)) + x47_3)) < (l4.length : Int) then (convolve_sum.l1 k3 a2 l4 a5 a6 (wrap64 (x15_3 + (wrap64 ((rd l4 (wrap64 ((wrap64 (x43_2 * a2)) + x47_3))) * (rd l0_3 (ji21)))))) true x43_2 a3 x43_2 a2 (wrap64 (x47_3 + 1)) a0_0 a0_1 a0_2 l0_3 a1_0 a1_1) else (none)) else (none)) else (none)) else (none)) = some r := by first | (rw [hji21] at H; exact H) | (simp only [hji21] at H ⊢; exact H)
                    have hji21w : (IntKind.i64.wrap ((wrap64 ((wrap64 ((wrap64 (a6 + x43_2)) * a0_0)) + a5)) + x47_3)) = ji21 := (i64_w _).trans hji21
                    by_cases c22 : 0 ≤ (ji21)
                    · rw [if_pos c22] at H
                      have c22b0 : decide (0 ≤ (ji21)) = true := decide_eq_true c22
                      clear c22
                      by_cases c23 : (ji21) < (l0_3.length : Int)
                      · rw [if_pos c23] at H
                        have c23b0 : decide ((ji21) < (l0_3.length : Int)) = true := decide_eq_true c23
                        clear c23
                        obtain ⟨ji24, hji24⟩ : ∃ j_ : Int, (wrap64 ((wrap64 (x43_2 * a2)) + x47_3)) = j_ := ⟨_, rfl⟩
                        replace H : (if 0 ≤ (ji24) then (if (ji24) < (l4.length : Int) then (convolve_sum.l1 k3 a2 l4 a5 a6 (wrap64 (x15_3 + (wrap64 ((rd l4 (ji24)) * (rd l0_3 (ji21)))))) true x43_2 a3 x43_2 a2 (wrap64 (x47_3 + 1)) a0_0 a0_1 a0_2 l0_3 a1_0 a1_1) else (none)) else (none)) = some r := by first | (rw [hji24] at H; exact H) | (simp only [hji24] at H ⊢; exact H)
                        have hji24w : (IntKind.i64.wrap ((wrap64 (x43_2 * a2)) + x47_3)) = ji24 := (i64_w _).trans hji24
                        by_cases c25 : 0 ≤ (ji24)
                        · rw [if_pos c25] at H
                          have c25b0 : decide (0 ≤ (ji24)) = true := decide_eq_true c25
                          clear c25
                          by_cases c26 : (ji24) < (l4.length : Int)
                          · rw [if_pos c26] at H
                            have c26b0 : decide ((ji24) < (l4.length : Int)) = true := decide_eq_true c26
                            clear c26
                            have H' := Aside0.mk H
                            clear H
                            have hnb27 := NB164_165.out
                            have hnc27 := NB165_164.out
                            have hcz28_0 : wr.cell? ⟨gb164, 0, none⟩ = some (.int .i64 a0_0) := (blk_cell BK164.out 0).trans rfl
                            have hcz28_1 : wr.cell? ⟨gb164, 1, none⟩ = some (.int .i64 a0_1) := (blk_cell BK164.out 1).trans rfl
                            have hcz28_2 : wr.cell? ⟨gb164, 2, none⟩ = some (.int .i64 a0_2) := (blk_cell BK164.out 2).trans rfl
                            have hcz28_3 : wr.cell? ⟨gb164, 3, none⟩ = some (.slice A0_3 l0_3.length c0_3) := (blk_cell BK164.out 3).trans rfl
                            have hfz28_0 := blk_frozen BK164.out 0
                            have hfz28_1 := blk_frozen BK164.out 1
                            have hfz28_2 := blk_frozen BK164.out 2
                            have hfz28_3 := blk_frozen BK164.out 3
                            have p166 : 0 ≤ ((ji21) : Int) := of_decide_eq_true q145_
                            have q166 : (ji21) < (l0_3.length : Int) := of_decide_eq_true q145_
                            obtain ⟨ad166, e166, hx166_0⟩ := Kd.at_int HR0_3.out (ji21) p166 q166
                            cases e166
                            replace hx166_0 := (HB.out.cell (World.block_lt_of_cell? w _ hx166_0)).trans hx166_0
                            replace p166 := eq_true p166
                            replace q166 := eq_true q166
                            have p167 : 0 ≤ ((ji24) : Int) := of_decide_eq_true q145_
                            have q167 : (ji24) < (l4.length : Int) := of_decide_eq_true q145_
                            obtain ⟨ad167, e167, hx167_0⟩ := Kd.at_int HR4.out (ji24) p167 q167
                            cases e167
                            replace hx167_0 := (HB.out.cell (World.block_lt_of_cell? w _ hx167_0)).trans hx167_0
                            replace p167 := eq_true p167
                            replace q167 := eq_true q167
                            go_wp2
                            go_roundg k3
                            case measure => have := HJ7.out; have := HK2.out; have := HK3.out; omega
                            case rel => exact ⟨(wrap64 (x15_3 + (wrap64 ((rd l4 (ji24)) * (rd l0_3 (ji21)))))), (wrap64 (x47_3 + 1)), (by first | rfl | (simp; done) | (simp only [← hji21, ← hji24] <;> (first | rfl | simp)) | (simp [*]; done)), q146_, (by first | exact H' | ((try (rw [hji21])); (try (rw [hji24])); exact H')), ⟨q141_⟩, ⟨q107_⟩, ⟨q108_⟩, ⟨q65_⟩⟩
                          · rw [if_neg c26] at H
                            exact absurd H (by simp)
                        · rw [if_neg c25] at H
                          exact absurd H (by simp)
                      · rw [if_neg c23] at H
                        exact absurd H (by simp)
                    · rw [if_neg c22] at H
                      exact absurd H (by simp)
                  · replace c20 := Bool.eq_false_iff.mpr c20
                    subst c20
                    have H1 : ((plane_Pixel.f k3 a0_0 a0_1 a0_2 l0_3 a1_0 a1_1 (wrap64 (a5 + x47_3)) (wrap64 (a6 + x43_2))).bind fun t168 => (if 0 ≤ (wrap64 ((wrap64 (x43_2 * a2)) + x47_3)) then (if (wrap64 ((wrap64 (x43_2 * a2)) + x47_3)) < (l4.length : Int) then (convolve_sum.l1 k3 a2 l4 a5 a6 (wrap64 (x15_3 + (wrap64 ((rd l4 (wrap64 ((wrap64 (x43_2 * a2)) + x47_3))) * t168)))) false x43_2 a3 x43_2 a2 (wrap64 (x47_3 + 1)) a0_0 a0_1 a0_2 l0_3 a1_0 a1_1) else (none)) else (none))) = some r := by rw [if_neg (show ¬ (false = true) by decide)] at H; exact H
                    clear H
                    have H := H1
                    clear H1
                    replace H := Option.bind_eq_some_iff.mp H
                    obtain ⟨t168, A290, H⟩ := H
                    replace H : (if 0 ≤ (wrap64 ((wrap64 (x43_2 * a2)) + x47_3)) then (if (wrap64 ((wrap64 (x43_2 * a2)) + x47_3)) < (l4.length : Int) then (convolve_sum.l1 k3 a2 l4 a5 a6 (wrap64 (x15_3 + (wrap64 ((rd l4 (wrap64 ((wrap64 (x43_2 * a2)) + x47_3))) * t168)))) false x43_2 a3 x43_2 a2 (wrap64 (x47_3 + 1)) a0_0 a0_1 a0_2 l0_3 a1_0 a1_1) else (none)) else (none)) = some r := H
                    have A29 := Aside0.mk A290
                    clear A290
                    obtain ⟨ji30, hji30⟩ : ∃ j_ : Int, (wrap64 ((wrap64 (x43_2 * a2)) + x47_3)) = j_ := ⟨_, rfl⟩
                    replace H : (if 0 ≤ (ji30) then (if (ji30) < (l4.length : Int) then (convolve_sum.l1 k3 a2 l4 a5 a6 (wrap64 (x15_3 + (wrap64 ((rd l4 (ji30)) * t168)))) false x43_2 a3 x43_2 a2 (wrap64 (x47_3 + 1)) a0_0 a0_1 a0_2 l0_3 a1_0 a1_1) else (none)) else (none)) = some r := by first | (rw [hji30] at H; exact H) | (simp only [hji30] at H ⊢; exact H)
                    (try rw [hji30] at A29)
                    have hji30w : (IntKind.i64.wrap ((wrap64 (x43_2 * a2)) + x47_3)) = ji30 := (i64_w _).trans hji30
                    by_cases c31 : 0 ≤ (ji30)
                    · rw [if_pos c31] at H
                      have c31b0 : decide (0 ≤ (ji30)) = true := decide_eq_true c31
                      clear c31
                      by_cases c32 : (ji30) < (l4.length : Int)
                      · rw [if_pos c32] at H
                        have c32b0 : decide ((ji30) < (l4.length : Int)) = true := decide_eq_true c32
                        clear c32
                        have H' := Aside0.mk H
                        clear H
                        have hnb33 := NB164_165.out
                        have hnc33 := NB165_164.out
                        have hcz34_0 : wr.cell? ⟨gb164, 0, none⟩ = some (.int .i64 a0_0) := (blk_cell BK164.out 0).trans rfl
                        have hcz34_1 : wr.cell? ⟨gb164, 1, none⟩ = some (.int .i64 a0_1) := (blk_cell BK164.out 1).trans rfl
                        have hcz34_2 : wr.cell? ⟨gb164, 2, none⟩ = some (.int .i64 a0_2) := (blk_cell BK164.out 2).trans rfl
                        have hcz34_3 : wr.cell? ⟨gb164, 3, none⟩ = some (.slice A0_3 l0_3.length c0_3) := (blk_cell BK164.out 3).trans rfl
                        have hfz34_0 := blk_frozen BK164.out 0
                        have hfz34_1 := blk_frozen BK164.out 1
                        have hfz34_2 := blk_frozen BK164.out 2
                        have hfz34_3 := blk_frozen BK164.out 3
                        have hcz35_0 : wr.cell? ⟨gb165, 0, none⟩ = some (.int .i64 a1_0) := (blk_cell BK165.out 0).trans rfl
                        have hcz35_1 : wr.cell? ⟨gb165, 1, none⟩ = some (.int .i64 a1_1) := (blk_cell BK165.out 1).trans rfl
                        have hfz35_0 := blk_frozen BK165.out 0
                        have hfz35_1 := blk_frozen BK165.out 1
                        go_wp2_with (first | ((with_reducible refine gate_callee (f := 63) rfl ?_); refine goesL_ (some 73) rfl rfl Try.func63 (by kernel_rfl) rfl #[.agg #[.int .i64 a0_0, .int .i64 a0_1, .int .i64 a0_2, .slice A0_3 l0_3.length c0_3], .agg #[.int .i64 a1_0, .int .i64 a1_1], .int .i64 (wrap64 (a5 + x47_3)), .int .i64 (wrap64 (a6 + x43_2))] rfl q93_ ?_; (with_reducible refine (plane_Pixel.calls k3 a0_0 a0_1 a0_2 _ _ l0_3 a1_0 a1_1 (wrap64 (a5 + x47_3)) (wrap64 (a6 + x43_2)) t168 _ ?side1 ?side2 A29.out).mono ?_); (case side1 => repeat (first | exact (Kd.C_below HR0_3.out HB.out) | (with_reducible refine Kd.C_alloc ?_ _) | (with_reducible refine Kd.C_drewN ?_ _) | (with_reducible refine Kd.C_drew ?_))); (case side2 => exact HC0_3.out); rintro e w36 ⟨rfl, hb⟩; refine ⟨_, rfl, ?_⟩; have n0_ := Aside0.mk (blk_below (g := gb164) (o := .cells #[.int .i64 a0_0, .int .i64 a0_1, .int .i64 a0_2, .slice A0_3 l0_3.length c0_3] 35 (0, 0)) q107_ hb); have n1_ := Aside0.mk (blk_below (g := gb165) (o := .cells #[.int .i64 a1_0, .int .i64 a1_1] 38 (0, 0)) q108_ hb); have n2_ := Aside0.mk (below_step q65_ hb); clear BK164; clear BK165; clear HB; have BK164 := n0_; have BK165 := n1_; have HB := n2_; clear n0_ n1_ n2_; (try clear hb); (try clear hb2); (try clear hk); (try clear hi); have p169 : 0 ≤ ((ji30) : Int) := of_decide_eq_true q145_; have q169 : (ji30) < (l4.length : Int) := of_decide_eq_true q145_; obtain ⟨ad169, e169, hx169_0⟩ := Kd.at_int HR4.out (ji30) p169 q169; cases e169; replace hx169_0 := (HB.out.cell (World.block_lt_of_cell? w _ hx169_0)).trans hx169_0; replace p169 := eq_true p169; replace q169 := eq_true q169))
                        go_roundg k3
                        case measure => have := HJ7.out; have := HK2.out; have := HK3.out; omega
                        case rel => exact ⟨(wrap64 (x15_3 + (wrap64 ((rd l4 (ji30)) * t168)))), (wrap64 (x47_3 + 1)), (by first | rfl | (simp; done) | (simp only [← hji30] <;> (first | rfl | simp)) | (simp [*]; done)), q146_, (by first | exact H' | ((try (rw [hji21])); (try (rw [hji24])); (try (rw [hji30])); exact H')), ⟨q141_⟩, ⟨q107_⟩, ⟨q108_⟩, ⟨q65_⟩⟩
                      · rw [if_neg c32] at H
                        exact absurd H (by simp)
                    · rw [if_neg c31] at H
                      exact absurd H (by simp)
                · rw [if_neg c19] at H
                  have c19b0 : decide (x47_3 < a2) = false := decide_eq_false c19
                  clear c19
                  have H' := Aside0.mk H
                  clear H
                  go_wp2
                  go_roundg k3
                  case measure => have := HJ7.out; have := HK2.out; have := HK3.out; omega
                  case rel => exact ⟨(x15_3), (wrap64 (x43_2 + 1)), q146_, q146_, (by first | exact H' | ((try (rw [hji21])); (try (rw [hji24])); (try (rw [hji30])); exact H')), ⟨q141_⟩, ⟨q107_⟩, ⟨q108_⟩, ⟨q65_⟩⟩
          · rw [if_neg c18] at H
            have c18b0 : decide (x43_2 < a3) = false := decide_eq_false c18
            clear c18
            obtain rfl := Option.some.inj H
            go_wp2
            go_ret
            exact ⟨q138_, q65_⟩

end Go.Proofs.Ythgmndomnibefaa.PConvolveMoves
