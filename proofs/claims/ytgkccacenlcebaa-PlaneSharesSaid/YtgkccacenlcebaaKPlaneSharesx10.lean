-- Written by a program of the session (wip/tools/pack.py): the printed texts, pruned; checked by Lean.
import Derived.Test.YtgkccacenlcebaaKPlaneSharesa
import Derived.Test.YtgkccacenlcebaaKPlaneSharesx0
import Derived.Test.YtgkccacenlcebaaKPlaneSharesx4
namespace Go.Proofs.Ytgkccacenlcebaa.PPlaneShares
open Go.RowKit Go.Proofs.YtgkccacenlcebaaW.PrintWords Go.Proofs.YtgkccacenlcebaaW.PrintLast Go.Proofs.YtgkccacenlcebaaW.PrintMore
attribute [local go_sem] max2_int min2_int max_two min_two max_three min_three max_four min_four   -- for this text's walks alone
set_option linter.unusedVariables false
set_option linter.unusedSimpArgs false
def slices_Equal_int_int.l0 : Nat → List Int → List Int → Int → Int → Option (Bool)
  | 0, _, _, _, _ => none
  | k + 1, x0, x1, x12, x13 => if x13 < x12 then (if 0 ≤ x13 then (if x13 < (x0.length : Int) then (if x13 < (x1.length : Int) then (if (rd x0 x13) = (rd x1 x13) then (slices_Equal_int_int.l0 k x0 x1 x12 (wrap64 (x13 + 1))) else (some false)) else (none)) else (none)) else (none)) else (some true)
def slices_Equal_int_int.f (k : Nat) (l0 : List Int) (l1 : List Int) : Option (Bool) := if (l0.length : Int) = (l1.length : Int) then (slices_Equal_int_int.l0 k l0 l1 (l0.length : Int) 0) else (some false)
theorem slices_Equal_int_int.mono_l : ∀ k, (∀ y0 y1 y2 y3, LeO (slices_Equal_int_int.l0 k y0 y1 y2 y3) (slices_Equal_int_int.l0 (k + 1) y0 y1 y2 y3))
  | 0 => fun _ _ _ _ r h => by simp [slices_Equal_int_int.l0] at h
  | k + 1 => by
    have ih0 := slices_Equal_int_int.mono_l k
    · intro y0 y1 y2 y3
      unfold slices_Equal_int_int.l0
      repeat' first
      | (with_reducible exact ih0 _ _ _ _)
      | (with_reducible exact LeO.refl _)
      | (with_reducible exact LeO.none _)
      | (with_reducible refine LeO.ite ?_ ?_)
      | (with_reducible refine LeO.bind ?_ (fun _ => ?_))
      | exact ih0 _ _ _ _
      | exact LeO.none _
      | refine LeO.ite ?_ ?_
      | refine LeO.bind ?_ (fun _ => ?_)
theorem slices_Equal_int_int.mono : ∀ a0 a1 k, LeO (slices_Equal_int_int.f k a0 a1) (slices_Equal_int_int.f (k + 1) a0 a1) := by
  intro a0 a1 k
  have ih0 := slices_Equal_int_int.mono_l k
  unfold slices_Equal_int_int.f
  repeat' first
      | (with_reducible exact ih0 _ _ _ _)
      | (with_reducible exact LeO.refl _)
      | (with_reducible exact LeO.none _)
      | (with_reducible refine LeO.ite ?_ ?_)
      | (with_reducible refine LeO.bind ?_ (fun _ => ?_))
      | exact ih0 _ _ _ _
      | exact LeO.none _
      | refine LeO.ite ?_ ?_
      | refine LeO.bind ?_ (fun _ => ?_)
set_option maxHeartbeats 8000000 in
set_option maxRecDepth 100000 in
theorem slices_Equal_int_int.calls (k : Nat) (A0 : Option Addr) (c0 : Nat) (l0 : List Int) (A1 : Option Addr) (c1 : Nat) (l1 : List Int) (r : Bool) (w : World) (hr0 : Kd.C (Kd.int .i64) w A0 l0.length l0) (hc0 : l0.length ≤ c0) (hr1 : Kd.C (Kd.int .i64) w A1 l1.length l1) (hc1 : l1.length ≤ c1) (h : slices_Equal_int_int.f k l0 l1 = some r) :
    Calls Try.prog 38 #[.slice A0 l0.length c0, .slice A1 l1.length c1] w fun e w' => e = .returned (.bool r) ∧ Drawn0 w w' := by
  have HR0 := Aside0.mk hr0
  have HC0 := Aside0.mk hc0
  clear hr0 hc0
  have HR1 := Aside0.mk hr1
  have HC1 := Aside0.mk hc1
  clear hr1 hc1
  have H : (if (l0.length : Int) = (l1.length : Int) then (slices_Equal_int_int.l0 k l0 l1 (l0.length : Int) 0) else (some false)) = some r := h
  clear h
  by_cases c3 : (l0.length : Int) = (l1.length : Int)
  · rw [if_pos c3] at H
    have c3b0 : ((l0.length : Int) == (l1.length : Int)) = true := beq_iff_eq.mpr c3
    have c3b1 : ((l0.length : Int) != (l1.length : Int)) = false := bne_eq_false_iff_eq.mpr c3
    have c3b2 : (l0.length == l1.length) = true := by first | simpa using c3 | (simp at c3 ⊢; omega)
    clear c3
    have H' := Aside0.mk H
    clear H
    go_enter Try.func38, Try.ntmps38
    go_wp2
    repeat (go_quiet (fail); try go_wp2)
    go_loopg [13] k (fun kq v13 w' => ∃ (x13_1 : Int), v13 = .int .i64 x13_1 ∧ Aside0 (slices_Equal_int_int.l0 kq l0 l1 (l0.length : Int) x13_1 = some r) ∧ Aside0 (kq ≤ k) ∧ Drawn0 w w')
    case atStart => exact ⟨(0), q198_, H', ⟨Nat.le_refl _⟩, q196_⟩
    case round =>
      clear H'
      try clear c1
      try clear p2
      try clear c3
      try clear c3b0
      try clear c3b1
      try clear c3b2
      obtain ⟨x13_1, rfl, HA, HK1, ⟨m1, rfl⟩⟩ := hrel
      cases gk with
      | zero => exact absurd HA.out (by simp [slices_Equal_int_int.l0])
      | succ k1 =>
        have H := HA.out
        clear HA
        simp only [slices_Equal_int_int.l0] at H
        by_cases c4 : x13_1 < (l0.length : Int)
        · rw [if_pos c4] at H
          have c4b0 : decide (x13_1 < (l0.length : Int)) = true := decide_eq_true c4
          clear c4
          by_cases c5 : 0 ≤ x13_1
          · rw [if_pos c5] at H
            have c5b0 : decide (0 ≤ x13_1) = true := decide_eq_true c5
            clear c5
            by_cases c6 : x13_1 < (l0.length : Int)
            · rw [if_pos c6] at H
              have c6b0 : decide (x13_1 < (l0.length : Int)) = true := decide_eq_true c6
              clear c6
              by_cases c7 : x13_1 < (l1.length : Int)
              · rw [if_pos c7] at H
                have c7b0 : decide (x13_1 < (l1.length : Int)) = true := decide_eq_true c7
                clear c7
                by_cases c8 : (rd l0 x13_1) = (rd l1 x13_1)
                · rw [if_pos c8] at H
                  have c8b0 : ((rd l0 x13_1) == (rd l1 x13_1)) = true := beq_iff_eq.mpr c8
                  have c8b1 : ((rd l0 x13_1) != (rd l1 x13_1)) = false := bne_eq_false_iff_eq.mpr c8
                  clear c8
                  have H' := Aside0.mk H
                  clear H
                  have p202 : 0 ≤ (x13_1 : Int) := of_decide_eq_true q197_
                  have q202 : x13_1 < (l0.length : Int) := of_decide_eq_true q197_
                  obtain ⟨ad202, e202, hx202_0⟩ := Kd.at_int HR0.out x13_1 p202 q202
                  cases e202
                  replace p202 := eq_true p202
                  replace q202 := eq_true q202
                  have p203 : 0 ≤ (x13_1 : Int) := of_decide_eq_true q197_
                  have q203 : x13_1 < (l1.length : Int) := of_decide_eq_true q197_
                  obtain ⟨ad203, e203, hx203_0⟩ := Kd.at_int HR1.out x13_1 p203 q203
                  cases e203
                  replace p203 := eq_true p203
                  replace q203 := eq_true q203
                  go_wp2
                  repeat (go_quiet (fail); try go_wp2)
                  go_roundg k1
                  case measure => have := HK1.out; omega
                  case rel => exact ⟨(wrap64 (x13_1 + 1)), q198_, H', ⟨by have := HK1.out; omega⟩, q196_⟩
                · rw [if_neg c8] at H
                  have c8b0 : ((rd l0 x13_1) == (rd l1 x13_1)) = false := beq_eq_false_iff_ne.mpr c8
                  have c8b1 : ((rd l0 x13_1) != (rd l1 x13_1)) = true := bne_iff_ne.mpr c8
                  obtain rfl := Option.some.inj H
                  have p202 : 0 ≤ (x13_1 : Int) := of_decide_eq_true q197_
                  have q202 : x13_1 < (l0.length : Int) := of_decide_eq_true q197_
                  obtain ⟨ad202, e202, hx202_0⟩ := Kd.at_int HR0.out x13_1 p202 q202
                  cases e202
                  replace p202 := eq_true p202
                  replace q202 := eq_true q202
                  have p203 : 0 ≤ (x13_1 : Int) := of_decide_eq_true q197_
                  have q203 : x13_1 < (l1.length : Int) := of_decide_eq_true q197_
                  obtain ⟨ad203, e203, hx203_0⟩ := Kd.at_int HR1.out x13_1 p203 q203
                  cases e203
                  replace p203 := eq_true p203
                  replace q203 := eq_true q203
                  go_wp2
                  repeat (go_quiet (fail); try go_wp2)
                  go_ret
                  exact ⟨q198_, q196_⟩
              · rw [if_neg c7] at H
                exact absurd H (by simp)
            · rw [if_neg c6] at H
              exact absurd H (by simp)
          · rw [if_neg c5] at H
            exact absurd H (by simp)
        · rw [if_neg c4] at H
          have c4b0 : decide (x13_1 < (l0.length : Int)) = false := decide_eq_false c4
          clear c4
          obtain rfl := Option.some.inj H
          go_wp2
          repeat (go_quiet (fail); try go_wp2)
          go_ret
          exact ⟨q198_, q196_⟩
  · rw [if_neg c3] at H
    have c3b0 : ((l0.length : Int) == (l1.length : Int)) = false := beq_eq_false_iff_ne.mpr c3
    have c3b1 : ((l0.length : Int) != (l1.length : Int)) = true := bne_iff_ne.mpr c3
    have c3b2 : (l0.length == l1.length) = false := by first | simpa using c3 | (simp at c3 ⊢; omega)
    obtain rfl := Option.some.inj H
    go_enter Try.func38, Try.ntmps38
    go_wp2
    repeat (go_quiet (fail); try go_wp2)
    go_ret
    exact ⟨q198_, q196_⟩


def plane_Equal.f (k : Nat) (a0_0 : Int) (a0_1 : Int) (a0_2 : Int) (l0_3 : List Int) (a1_0 : Int) (a1_1 : Int) (a1_2 : Int) (l1_3 : List Int) : Option (Bool) := if a0_0 = a1_0 then (if a0_1 = a1_1 then (if a0_2 = a1_2 then ((slices_Equal_int_int.f k l0_3 l1_3).bind fun t206 => (some t206)) else (some false)) else (some false)) else (some false)
theorem plane_Equal.mono : ∀ a0 a1 a2 a3 a4 a5 a6 a7 k, LeO (plane_Equal.f k a0 a1 a2 a3 a4 a5 a6 a7) (plane_Equal.f (k + 1) a0 a1 a2 a3 a4 a5 a6 a7) := by
  intro a0 a1 a2 a3 a4 a5 a6 a7 k
  unfold plane_Equal.f
  repeat' first
      | (with_reducible exact slices_Equal_int_int.mono _ _ _)
      | (with_reducible exact LeO.refl _)
      | (with_reducible exact LeO.none _)
      | (with_reducible refine LeO.ite ?_ ?_)
      | (with_reducible refine LeO.bind ?_ (fun _ => ?_))
      | exact slices_Equal_int_int.mono _ _ _
      | exact LeO.none _
      | refine LeO.ite ?_ ?_
      | refine LeO.bind ?_ (fun _ => ?_)
set_option maxHeartbeats 8000000 in
set_option maxRecDepth 100000 in
theorem plane_Equal.calls (k : Nat) (a0_0 : Int) (a0_1 : Int) (a0_2 : Int) (A0_3 : Option Addr) (c0_3 : Nat) (l0_3 : List Int) (a1_0 : Int) (a1_1 : Int) (a1_2 : Int) (A1_3 : Option Addr) (c1_3 : Nat) (l1_3 : List Int) (r : Bool) (w : World) (hr0_3 : Kd.C (Kd.int .i64) w A0_3 l0_3.length l0_3) (hc0_3 : l0_3.length ≤ c0_3) (hr1_3 : Kd.C (Kd.int .i64) w A1_3 l1_3.length l1_3) (hc1_3 : l1_3.length ≤ c1_3) (h : plane_Equal.f k a0_0 a0_1 a0_2 l0_3 a1_0 a1_1 a1_2 l1_3 = some r) :
    Calls Try.prog 15 #[.agg #[.int .i64 a0_0, .int .i64 a0_1, .int .i64 a0_2, .slice A0_3 l0_3.length c0_3], .agg #[.int .i64 a1_0, .int .i64 a1_1, .int .i64 a1_2, .slice A1_3 l1_3.length c1_3]] w fun e w' => e = .returned (.bool r) ∧ Below w.heap.size w w' := by
  have hu26 := Try.underlying26
  have HR0_3 := Aside0.mk hr0_3
  have HC0_3 := Aside0.mk hc0_3
  clear hr0_3 hc0_3
  have HR1_3 := Aside0.mk hr1_3
  have HC1_3 := Aside0.mk hc1_3
  clear hr1_3 hc1_3
  have HB := Aside0.mk (Below.refl w.heap.size w)
  have H : (if a0_0 = a1_0 then (if a0_1 = a1_1 then (if a0_2 = a1_2 then ((slices_Equal_int_int.f k l0_3 l1_3).bind fun t206 => (some t206)) else (some false)) else (some false)) else (some false)) = some r := h
  clear h
  by_cases c3 : a0_0 = a1_0
  · rw [if_pos c3] at H
    have c3b0 : (a0_0 == a1_0) = true := beq_iff_eq.mpr c3
    have c3b1 : (a0_0 != a1_0) = false := bne_eq_false_iff_eq.mpr c3
    clear c3
    by_cases c4 : a0_1 = a1_1
    · rw [if_pos c4] at H
      have c4b0 : (a0_1 == a1_1) = true := beq_iff_eq.mpr c4
      have c4b1 : (a0_1 != a1_1) = false := bne_eq_false_iff_eq.mpr c4
      clear c4
      by_cases c5 : a0_2 = a1_2
      · rw [if_pos c5] at H
        have c5b0 : (a0_2 == a1_2) = true := beq_iff_eq.mpr c5
        have c5b1 : (a0_2 != a1_2) = false := bne_eq_false_iff_eq.mpr c5
        clear c5
        replace H := Option.bind_eq_some_iff.mp H
        obtain ⟨t206, A60, H⟩ := H
        replace H : (some t206) = some r := H
        have A6 := Aside0.mk A60
        clear A60
        obtain rfl := Option.some.inj H
        go_enter Try.func15, Try.ntmps15
        go_wp2_with (first | ((with_reducible refine gate_dst (N := 2) rfl ?_); refine box_event ?hg (N := 2) ?hd (cs := #[.int .i64 a0_0, .int .i64 a0_1, .int .i64 a0_2, .slice A0_3 l0_3.length c0_3]) (t := 26) ?hr ?_; (case hd => rfl); (case hg => rfl); (case hr => first | (go_simp; done) | (go_simp; rfl)); intro gb204 hg w7 hbox hb; have n0_ := Aside0.mk (below_step q133_ hb); have n1_ := Aside0.mk (hbox); have n2_ := Aside0.mk ((q110_ : w.heap.size ≤ gb204)); have n3_ := Aside0.mk ((q110_ : w.heap.size ≤ gb204)); clear HB; have HB := n0_; have BK204 := n1_; have GW204 := n2_; have GE204 := n3_; clear n0_ n1_ n2_ n3_; clear hb hbox hg) | ((with_reducible refine gate_dst (N := 3) rfl ?_); refine box_event ?hg (N := 3) ?hd (cs := #[.int .i64 a1_0, .int .i64 a1_1, .int .i64 a1_2, .slice A1_3 l1_3.length c1_3]) (t := 26) ?hr ?_; (case hd => rfl); (case hg => rfl); (case hr => first | (go_simp; done) | (go_simp; rfl)); intro gb205 hg w8 hbox hb; have n0_ := Aside0.mk (blk_below (g := gb204) (o := .cells #[.int .i64 a0_0, .int .i64 a0_1, .int .i64 a0_2, .slice A0_3 l0_3.length c0_3] 26 (0, 0)) q152_ hb); have n1_ := Aside0.mk (below_step q119_ hb); have n2_ := Aside0.mk (hbox); have n3_ := Aside0.mk ((q82_ : w.heap.size ≤ gb205)); have n4_ := Aside0.mk ((q82_ : w.heap.size ≤ gb205)); have n5_ := Aside0.mk ((q29_ : gb204 ≠ gb205)); have n6_ := Aside0.mk ((q30_ : gb205 ≠ gb204)); clear BK204; clear HB; have BK204 := n0_; have HB := n1_; have BK205 := n2_; have GW205 := n3_; have GE205 := n4_; have NB204_205 := n5_; have NB205_204 := n6_; clear n0_ n1_ n2_ n3_ n4_ n5_ n6_; clear hb hbox hg; have hnb9 := NB204_205.out; have hnc9 := NB205_204.out; have hcz10_0 : w8.cell? ⟨gb204, 0, none⟩ = some (.int .i64 a0_0) := (blk_cell BK204.out 0).trans rfl; have hcz10_1 : w8.cell? ⟨gb204, 1, none⟩ = some (.int .i64 a0_1) := (blk_cell BK204.out 1).trans rfl; have hcz10_2 : w8.cell? ⟨gb204, 2, none⟩ = some (.int .i64 a0_2) := (blk_cell BK204.out 2).trans rfl; have hcz10_3 : w8.cell? ⟨gb204, 3, none⟩ = some (.slice A0_3 l0_3.length c0_3) := (blk_cell BK204.out 3).trans rfl; have hfz10_0 := blk_frozen BK204.out 0; have hfz10_1 := blk_frozen BK204.out 1; have hfz10_2 := blk_frozen BK204.out 2; have hfz10_3 := blk_frozen BK204.out 3; have hcz11_0 : w8.cell? ⟨gb205, 0, none⟩ = some (.int .i64 a1_0) := (blk_cell BK205.out 0).trans rfl; have hcz11_1 : w8.cell? ⟨gb205, 1, none⟩ = some (.int .i64 a1_1) := (blk_cell BK205.out 1).trans rfl; have hcz11_2 : w8.cell? ⟨gb205, 2, none⟩ = some (.int .i64 a1_2) := (blk_cell BK205.out 2).trans rfl; have hcz11_3 : w8.cell? ⟨gb205, 3, none⟩ = some (.slice A1_3 l1_3.length c1_3) := (blk_cell BK205.out 3).trans rfl; have hfz11_0 := blk_frozen BK205.out 0; have hfz11_1 := blk_frozen BK205.out 1; have hfz11_2 := blk_frozen BK205.out 2; have hfz11_3 := blk_frozen BK205.out 3) | (go_at_call 38; (with_reducible refine (slices_Equal_int_int.calls k _ _ l0_3 _ _ l1_3 t206 _ ?side1 ?side2 ?side3 ?side4 A6.out).mono ?_); (case side1 => repeat (first | exact (Kd.C_below HR0_3.out HB.out) | (with_reducible refine Kd.C_alloc ?_ _) | (with_reducible refine Kd.C_drewN ?_ _) | (with_reducible refine Kd.C_drew ?_))); (case side2 => exact HC0_3.out); (case side3 => repeat (first | exact (Kd.C_below HR1_3.out HB.out) | (with_reducible refine Kd.C_alloc ?_ _) | (with_reducible refine Kd.C_drewN ?_ _) | (with_reducible refine Kd.C_drew ?_))); (case side4 => exact HC1_3.out); rintro e w' ⟨rfl, ⟨nd, rfl⟩⟩))
        go_ret
        exact ⟨q195_, q90_⟩
      · rw [if_neg c5] at H
        have c5b0 : (a0_2 == a1_2) = false := beq_eq_false_iff_ne.mpr c5
        have c5b1 : (a0_2 != a1_2) = true := bne_iff_ne.mpr c5
        obtain rfl := Option.some.inj H
        go_enter Try.func15, Try.ntmps15
        go_wp2_with (first | ((with_reducible refine gate_dst (N := 2) rfl ?_); refine box_event ?hg (N := 2) ?hd (cs := #[.int .i64 a0_0, .int .i64 a0_1, .int .i64 a0_2, .slice A0_3 l0_3.length c0_3]) (t := 26) ?hr ?_; (case hd => rfl); (case hg => rfl); (case hr => first | (go_simp; done) | (go_simp; rfl)); intro gb204 hg w12 hbox hb; have n0_ := Aside0.mk (below_step q133_ hb); have n1_ := Aside0.mk (hbox); have n2_ := Aside0.mk ((q110_ : w.heap.size ≤ gb204)); have n3_ := Aside0.mk ((q110_ : w.heap.size ≤ gb204)); clear HB; have HB := n0_; have BK204 := n1_; have GW204 := n2_; have GE204 := n3_; clear n0_ n1_ n2_ n3_; clear hb hbox hg) | ((with_reducible refine gate_dst (N := 3) rfl ?_); refine box_event ?hg (N := 3) ?hd (cs := #[.int .i64 a1_0, .int .i64 a1_1, .int .i64 a1_2, .slice A1_3 l1_3.length c1_3]) (t := 26) ?hr ?_; (case hd => rfl); (case hg => rfl); (case hr => first | (go_simp; done) | (go_simp; rfl)); intro gb205 hg w13 hbox hb; have n0_ := Aside0.mk (blk_below (g := gb204) (o := .cells #[.int .i64 a0_0, .int .i64 a0_1, .int .i64 a0_2, .slice A0_3 l0_3.length c0_3] 26 (0, 0)) q152_ hb); have n1_ := Aside0.mk (below_step q119_ hb); have n2_ := Aside0.mk (hbox); have n3_ := Aside0.mk ((q82_ : w.heap.size ≤ gb205)); have n4_ := Aside0.mk ((q82_ : w.heap.size ≤ gb205)); have n5_ := Aside0.mk ((q29_ : gb204 ≠ gb205)); have n6_ := Aside0.mk ((q30_ : gb205 ≠ gb204)); clear BK204; clear HB; have BK204 := n0_; have HB := n1_; have BK205 := n2_; have GW205 := n3_; have GE205 := n4_; have NB204_205 := n5_; have NB205_204 := n6_; clear n0_ n1_ n2_ n3_ n4_ n5_ n6_; clear hb hbox hg; have hnb14 := NB204_205.out; have hnc14 := NB205_204.out; have hcz15_0 : w13.cell? ⟨gb204, 0, none⟩ = some (.int .i64 a0_0) := (blk_cell BK204.out 0).trans rfl; have hcz15_1 : w13.cell? ⟨gb204, 1, none⟩ = some (.int .i64 a0_1) := (blk_cell BK204.out 1).trans rfl; have hcz15_2 : w13.cell? ⟨gb204, 2, none⟩ = some (.int .i64 a0_2) := (blk_cell BK204.out 2).trans rfl; have hcz15_3 : w13.cell? ⟨gb204, 3, none⟩ = some (.slice A0_3 l0_3.length c0_3) := (blk_cell BK204.out 3).trans rfl; have hfz15_0 := blk_frozen BK204.out 0; have hfz15_1 := blk_frozen BK204.out 1; have hfz15_2 := blk_frozen BK204.out 2; have hfz15_3 := blk_frozen BK204.out 3; have hcz16_0 : w13.cell? ⟨gb205, 0, none⟩ = some (.int .i64 a1_0) := (blk_cell BK205.out 0).trans rfl; have hcz16_1 : w13.cell? ⟨gb205, 1, none⟩ = some (.int .i64 a1_1) := (blk_cell BK205.out 1).trans rfl; have hcz16_2 : w13.cell? ⟨gb205, 2, none⟩ = some (.int .i64 a1_2) := (blk_cell BK205.out 2).trans rfl; have hcz16_3 : w13.cell? ⟨gb205, 3, none⟩ = some (.slice A1_3 l1_3.length c1_3) := (blk_cell BK205.out 3).trans rfl; have hfz16_0 := blk_frozen BK205.out 0; have hfz16_1 := blk_frozen BK205.out 1; have hfz16_2 := blk_frozen BK205.out 2; have hfz16_3 := blk_frozen BK205.out 3))
        go_ret
        exact ⟨q195_, q90_⟩
    · rw [if_neg c4] at H
      have c4b0 : (a0_1 == a1_1) = false := beq_eq_false_iff_ne.mpr c4
      have c4b1 : (a0_1 != a1_1) = true := bne_iff_ne.mpr c4
      obtain rfl := Option.some.inj H
      go_enter Try.func15, Try.ntmps15
      go_wp2_with (first | ((with_reducible refine gate_dst (N := 2) rfl ?_); refine box_event ?hg (N := 2) ?hd (cs := #[.int .i64 a0_0, .int .i64 a0_1, .int .i64 a0_2, .slice A0_3 l0_3.length c0_3]) (t := 26) ?hr ?_; (case hd => rfl); (case hg => rfl); (case hr => first | (go_simp; done) | (go_simp; rfl)); intro gb204 hg w17 hbox hb; have n0_ := Aside0.mk (below_step q133_ hb); have n1_ := Aside0.mk (hbox); have n2_ := Aside0.mk ((q110_ : w.heap.size ≤ gb204)); have n3_ := Aside0.mk ((q110_ : w.heap.size ≤ gb204)); clear HB; have HB := n0_; have BK204 := n1_; have GW204 := n2_; have GE204 := n3_; clear n0_ n1_ n2_ n3_; clear hb hbox hg) | ((with_reducible refine gate_dst (N := 3) rfl ?_); refine box_event ?hg (N := 3) ?hd (cs := #[.int .i64 a1_0, .int .i64 a1_1, .int .i64 a1_2, .slice A1_3 l1_3.length c1_3]) (t := 26) ?hr ?_; (case hd => rfl); (case hg => rfl); (case hr => first | (go_simp; done) | (go_simp; rfl)); intro gb205 hg w18 hbox hb; have n0_ := Aside0.mk (blk_below (g := gb204) (o := .cells #[.int .i64 a0_0, .int .i64 a0_1, .int .i64 a0_2, .slice A0_3 l0_3.length c0_3] 26 (0, 0)) q152_ hb); have n1_ := Aside0.mk (below_step q119_ hb); have n2_ := Aside0.mk (hbox); have n3_ := Aside0.mk ((q82_ : w.heap.size ≤ gb205)); have n4_ := Aside0.mk ((q82_ : w.heap.size ≤ gb205)); have n5_ := Aside0.mk ((q29_ : gb204 ≠ gb205)); have n6_ := Aside0.mk ((q30_ : gb205 ≠ gb204)); clear BK204; clear HB; have BK204 := n0_; have HB := n1_; have BK205 := n2_; have GW205 := n3_; have GE205 := n4_; have NB204_205 := n5_; have NB205_204 := n6_; clear n0_ n1_ n2_ n3_ n4_ n5_ n6_; clear hb hbox hg; have hnb19 := NB204_205.out; have hnc19 := NB205_204.out; have hcz20_0 : w18.cell? ⟨gb204, 0, none⟩ = some (.int .i64 a0_0) := (blk_cell BK204.out 0).trans rfl; have hcz20_1 : w18.cell? ⟨gb204, 1, none⟩ = some (.int .i64 a0_1) := (blk_cell BK204.out 1).trans rfl; have hcz20_2 : w18.cell? ⟨gb204, 2, none⟩ = some (.int .i64 a0_2) := (blk_cell BK204.out 2).trans rfl; have hcz20_3 : w18.cell? ⟨gb204, 3, none⟩ = some (.slice A0_3 l0_3.length c0_3) := (blk_cell BK204.out 3).trans rfl; have hfz20_0 := blk_frozen BK204.out 0; have hfz20_1 := blk_frozen BK204.out 1; have hfz20_2 := blk_frozen BK204.out 2; have hfz20_3 := blk_frozen BK204.out 3; have hcz21_0 : w18.cell? ⟨gb205, 0, none⟩ = some (.int .i64 a1_0) := (blk_cell BK205.out 0).trans rfl; have hcz21_1 : w18.cell? ⟨gb205, 1, none⟩ = some (.int .i64 a1_1) := (blk_cell BK205.out 1).trans rfl; have hcz21_2 : w18.cell? ⟨gb205, 2, none⟩ = some (.int .i64 a1_2) := (blk_cell BK205.out 2).trans rfl; have hcz21_3 : w18.cell? ⟨gb205, 3, none⟩ = some (.slice A1_3 l1_3.length c1_3) := (blk_cell BK205.out 3).trans rfl; have hfz21_0 := blk_frozen BK205.out 0; have hfz21_1 := blk_frozen BK205.out 1; have hfz21_2 := blk_frozen BK205.out 2; have hfz21_3 := blk_frozen BK205.out 3))
      go_ret
      exact ⟨q195_, q90_⟩
  · rw [if_neg c3] at H
    have c3b0 : (a0_0 == a1_0) = false := beq_eq_false_iff_ne.mpr c3
    have c3b1 : (a0_0 != a1_0) = true := bne_iff_ne.mpr c3
    obtain rfl := Option.some.inj H
    go_enter Try.func15, Try.ntmps15
    go_wp2_with (first | ((with_reducible refine gate_dst (N := 2) rfl ?_); refine box_event ?hg (N := 2) ?hd (cs := #[.int .i64 a0_0, .int .i64 a0_1, .int .i64 a0_2, .slice A0_3 l0_3.length c0_3]) (t := 26) ?hr ?_; (case hd => rfl); (case hg => rfl); (case hr => first | (go_simp; done) | (go_simp; rfl)); intro gb204 hg w22 hbox hb; have n0_ := Aside0.mk (below_step q133_ hb); have n1_ := Aside0.mk (hbox); have n2_ := Aside0.mk ((q110_ : w.heap.size ≤ gb204)); have n3_ := Aside0.mk ((q110_ : w.heap.size ≤ gb204)); clear HB; have HB := n0_; have BK204 := n1_; have GW204 := n2_; have GE204 := n3_; clear n0_ n1_ n2_ n3_; clear hb hbox hg) | ((with_reducible refine gate_dst (N := 3) rfl ?_); refine box_event ?hg (N := 3) ?hd (cs := #[.int .i64 a1_0, .int .i64 a1_1, .int .i64 a1_2, .slice A1_3 l1_3.length c1_3]) (t := 26) ?hr ?_; (case hd => rfl); (case hg => rfl); (case hr => first | (go_simp; done) | (go_simp; rfl)); intro gb205 hg w23 hbox hb; have n0_ := Aside0.mk (blk_below (g := gb204) (o := .cells #[.int .i64 a0_0, .int .i64 a0_1, .int .i64 a0_2, .slice A0_3 l0_3.length c0_3] 26 (0, 0)) q152_ hb); have n1_ := Aside0.mk (below_step q119_ hb); have n2_ := Aside0.mk (hbox); have n3_ := Aside0.mk ((q82_ : w.heap.size ≤ gb205)); have n4_ := Aside0.mk ((q82_ : w.heap.size ≤ gb205)); have n5_ := Aside0.mk ((q29_ : gb204 ≠ gb205)); have n6_ := Aside0.mk ((q30_ : gb205 ≠ gb204)); clear BK204; clear HB; have BK204 := n0_; have HB := n1_; have BK205 := n2_; have GW205 := n3_; have GE205 := n4_; have NB204_205 := n5_; have NB205_204 := n6_; clear n0_ n1_ n2_ n3_ n4_ n5_ n6_; clear hb hbox hg; have hnb24 := NB204_205.out; have hnc24 := NB205_204.out; have hcz25_0 : w23.cell? ⟨gb204, 0, none⟩ = some (.int .i64 a0_0) := (blk_cell BK204.out 0).trans rfl; have hcz25_1 : w23.cell? ⟨gb204, 1, none⟩ = some (.int .i64 a0_1) := (blk_cell BK204.out 1).trans rfl; have hcz25_2 : w23.cell? ⟨gb204, 2, none⟩ = some (.int .i64 a0_2) := (blk_cell BK204.out 2).trans rfl; have hcz25_3 : w23.cell? ⟨gb204, 3, none⟩ = some (.slice A0_3 l0_3.length c0_3) := (blk_cell BK204.out 3).trans rfl; have hfz25_0 := blk_frozen BK204.out 0; have hfz25_1 := blk_frozen BK204.out 1; have hfz25_2 := blk_frozen BK204.out 2; have hfz25_3 := blk_frozen BK204.out 3; have hcz26_0 : w23.cell? ⟨gb205, 0, none⟩ = some (.int .i64 a1_0) := (blk_cell BK205.out 0).trans rfl; have hcz26_1 : w23.cell? ⟨gb205, 1, none⟩ = some (.int .i64 a1_1) := (blk_cell BK205.out 1).trans rfl; have hcz26_2 : w23.cell? ⟨gb205, 2, none⟩ = some (.int .i64 a1_2) := (blk_cell BK205.out 2).trans rfl; have hcz26_3 : w23.cell? ⟨gb205, 3, none⟩ = some (.slice A1_3 l1_3.length c1_3) := (blk_cell BK205.out 3).trans rfl; have hfz26_0 := blk_frozen BK205.out 0; have hfz26_1 := blk_frozen BK205.out 1; have hfz26_2 := blk_frozen BK205.out 2; have hfz26_3 := blk_frozen BK205.out 3))
    go_ret
    exact ⟨q195_, q90_⟩


def tilefarmref4_Size.f (a0 : Int) (a1 : Int) (a2 : Int) : Option (Bool) := if a0 ≥ 1 then (if a0 ≤ 128 then (if a1 ≥ 1 then (if a1 ≤ 128 then (if (wrap64 (a0 * a1)) ≤ 4096 then (if a2 ≥ 1 then (some (decide (a2 ≤ 4294967296))) else (some false)) else (some false)) else (some false)) else (some false)) else (some false)) else (some false)
set_option maxHeartbeats 8000000 in
set_option maxRecDepth 100000 in
theorem tilefarmref4_Size.calls (a0 : Int) (a1 : Int) (a2 : Int) (r : Bool) (w : World) (h : tilefarmref4_Size.f a0 a1 a2 = some r) :
    Calls Try.prog 39 #[.int .i64 a0, .int .i64 a1, .int .i64 a2] w fun e w' => e = .returned (.bool r) ∧ Drawn0 w w' := by
  have H : (if a0 ≥ 1 then (if a0 ≤ 128 then (if a1 ≥ 1 then (if a1 ≤ 128 then (if (wrap64 (a0 * a1)) ≤ 4096 then (if a2 ≥ 1 then (some (decide (a2 ≤ 4294967296))) else (some false)) else (some false)) else (some false)) else (some false)) else (some false)) else (some false)) = some r := h
  clear h
  by_cases c4 : a0 ≥ 1
  · rw [if_pos c4] at H
    have c4b0 : decide (1 ≤ a0) = true := decide_eq_true c4
    clear c4
    by_cases c5 : a0 ≤ 128
    · rw [if_pos c5] at H
      have c5b0 : decide (a0 ≤ 128) = true := decide_eq_true c5
      clear c5
      by_cases c6 : a1 ≥ 1
      · rw [if_pos c6] at H
        have c6b0 : decide (1 ≤ a1) = true := decide_eq_true c6
        clear c6
        by_cases c7 : a1 ≤ 128
        · rw [if_pos c7] at H
          have c7b0 : decide (a1 ≤ 128) = true := decide_eq_true c7
          clear c7
          by_cases c8 : (wrap64 (a0 * a1)) ≤ 4096
          · rw [if_pos c8] at H
            have c8b0 : decide ((wrap64 (a0 * a1)) ≤ 4096) = true := decide_eq_true c8
            clear c8
            by_cases c9 : a2 ≥ 1
            · rw [if_pos c9] at H
              have c9b0 : decide (1 ≤ a2) = true := decide_eq_true c9
              clear c9
              obtain rfl := Option.some.inj H
              go_enter Try.func39, Try.ntmps39
              go_wp2
              go_ret
              exact ⟨q198_, q196_⟩
            · rw [if_neg c9] at H
              have c9b0 : decide (1 ≤ a2) = false := decide_eq_false c9
              clear c9
              obtain rfl := Option.some.inj H
              go_enter Try.func39, Try.ntmps39
              go_wp2
              go_ret
              exact ⟨q198_, q196_⟩
          · rw [if_neg c8] at H
            have c8b0 : decide ((wrap64 (a0 * a1)) ≤ 4096) = false := decide_eq_false c8
            clear c8
            obtain rfl := Option.some.inj H
            go_enter Try.func39, Try.ntmps39
            go_wp2
            go_ret
            exact ⟨q198_, q196_⟩
        · rw [if_neg c7] at H
          have c7b0 : decide (a1 ≤ 128) = false := decide_eq_false c7
          clear c7
          obtain rfl := Option.some.inj H
          go_enter Try.func39, Try.ntmps39
          go_wp2
          go_ret
          exact ⟨q198_, q196_⟩
      · rw [if_neg c6] at H
        have c6b0 : decide (1 ≤ a1) = false := decide_eq_false c6
        clear c6
        obtain rfl := Option.some.inj H
        go_enter Try.func39, Try.ntmps39
        go_wp2
        go_ret
        exact ⟨q198_, q196_⟩
    · rw [if_neg c5] at H
      have c5b0 : decide (a0 ≤ 128) = false := decide_eq_false c5
      clear c5
      obtain rfl := Option.some.inj H
      go_enter Try.func39, Try.ntmps39
      go_wp2
      go_ret
      exact ⟨q198_, q196_⟩
  · rw [if_neg c4] at H
    have c4b0 : decide (1 ≤ a0) = false := decide_eq_false c4
    clear c4
    obtain rfl := Option.some.inj H
    go_enter Try.func39, Try.ntmps39
    go_wp2
    go_ret
    exact ⟨q198_, q196_⟩


mutual
def tilefarmref4_Valid.j0 : Nat → Bool → Int → Int → Int → List Int → Option (Bool)
  | 0, _, _, _, _, _ => none
  | k + 1, x22, x208000, x208001, x208002, x208003 => if x22 = true then (some false) else (tilefarmref4_Valid.l0 k 0 x208000 x208001 x208002 x208003)
def tilefarmref4_Valid.l0 : Nat → Int → Int → Int → Int → List Int → Option (Bool)
  | 0, _, _, _, _, _ => none
  | k + 1, x3, x208000, x208001, x208002, x208003 => if x3 < (x208003.length : Int) then (if 0 ≤ x3 then (if (rd x208003 x3) < 0 then (some false) else (if (rd x208003 x3) > x208002 then (some false) else (tilefarmref4_Valid.l0 k (wrap64 (x3 + 1)) x208000 x208001 x208002 x208003))) else (none)) else (some true)
end
def tilefarmref4_Valid.f (k : Nat) (a0_0 : Int) (a0_1 : Int) (a0_2 : Int) (l0_3 : List Int) : Option (Bool) := (tilefarmref4_Size.f a0_0 a0_1 a0_2).bind fun t208 => (if t208 = true then (tilefarmref4_Valid.j0 k ((l0_3.length : Int) != (wrap64 (a0_0 * a0_1))) a0_0 a0_1 a0_2 l0_3) else (tilefarmref4_Valid.j0 k true a0_0 a0_1 a0_2 l0_3))
theorem tilefarmref4_Valid.mono_l : ∀ k, (∀ y0 y1 y2 y3 y4, LeO (tilefarmref4_Valid.j0 k y0 y1 y2 y3 y4) (tilefarmref4_Valid.j0 (k + 1) y0 y1 y2 y3 y4)) ∧ (∀ y0 y1 y2 y3 y4, LeO (tilefarmref4_Valid.l0 k y0 y1 y2 y3 y4) (tilefarmref4_Valid.l0 (k + 1) y0 y1 y2 y3 y4))
  | 0 => ⟨fun _ _ _ _ _ r h => by simp [tilefarmref4_Valid.j0] at h, fun _ _ _ _ _ r h => by simp [tilefarmref4_Valid.l0] at h⟩
  | k + 1 => by
    obtain ⟨ih0, ih1⟩ := tilefarmref4_Valid.mono_l k
    refine ⟨?_, ?_⟩
    · intro y0 y1 y2 y3 y4
      unfold tilefarmref4_Valid.j0
      repeat' first
      | (with_reducible exact ih0 _ _ _ _ _)
      | (with_reducible exact ih1 _ _ _ _ _)
      | (with_reducible exact LeO.refl _)
      | (with_reducible exact LeO.none _)
      | (with_reducible refine LeO.ite ?_ ?_)
      | (with_reducible refine LeO.bind ?_ (fun _ => ?_))
      | exact ih0 _ _ _ _ _
      | exact ih1 _ _ _ _ _
      | exact LeO.none _
      | refine LeO.ite ?_ ?_
      | refine LeO.bind ?_ (fun _ => ?_)
    · intro y0 y1 y2 y3 y4
      unfold tilefarmref4_Valid.l0
      repeat' first
      | (with_reducible exact ih0 _ _ _ _ _)
      | (with_reducible exact ih1 _ _ _ _ _)
      | (with_reducible exact LeO.refl _)
      | (with_reducible exact LeO.none _)
      | (with_reducible refine LeO.ite ?_ ?_)
      | (with_reducible refine LeO.bind ?_ (fun _ => ?_))
      | exact ih0 _ _ _ _ _
      | exact ih1 _ _ _ _ _
      | exact LeO.none _
      | refine LeO.ite ?_ ?_
      | refine LeO.bind ?_ (fun _ => ?_)
theorem tilefarmref4_Valid.mono : ∀ a0 a1 a2 a3 k, LeO (tilefarmref4_Valid.f k a0 a1 a2 a3) (tilefarmref4_Valid.f (k + 1) a0 a1 a2 a3) := by
  intro a0 a1 a2 a3 k
  obtain ⟨ih0, ih1⟩ := tilefarmref4_Valid.mono_l k
  unfold tilefarmref4_Valid.f
  repeat' first
      | (with_reducible exact ih0 _ _ _ _ _)
      | (with_reducible exact ih1 _ _ _ _ _)
      | (with_reducible exact LeO.refl _)
      | (with_reducible exact LeO.none _)
      | (with_reducible refine LeO.ite ?_ ?_)
      | (with_reducible refine LeO.bind ?_ (fun _ => ?_))
      | exact ih0 _ _ _ _ _
      | exact ih1 _ _ _ _ _
      | exact LeO.none _
      | refine LeO.ite ?_ ?_
      | refine LeO.bind ?_ (fun _ => ?_)
set_option maxHeartbeats 8000000 in
set_option maxRecDepth 100000 in
theorem tilefarmref4_Valid.calls (k : Nat) (a0_0 : Int) (a0_1 : Int) (a0_2 : Int) (A0_3 : Option Addr) (c0_3 : Nat) (l0_3 : List Int) (r : Bool) (w : World) (hr0_3 : Kd.C (Kd.int .i64) w A0_3 l0_3.length l0_3) (hc0_3 : l0_3.length ≤ c0_3) (h : tilefarmref4_Valid.f k a0_0 a0_1 a0_2 l0_3 = some r) :
    Calls Try.prog 16 #[.agg #[.int .i64 a0_0, .int .i64 a0_1, .int .i64 a0_2, .slice A0_3 l0_3.length c0_3]] w fun e w' => e = .returned (.bool r) ∧ Below w.heap.size w w' := by
  have hu26 := Try.underlying26
  have HR0_3 := Aside0.mk hr0_3
  have HC0_3 := Aside0.mk hc0_3
  clear hr0_3 hc0_3
  have HB := Aside0.mk (Below.refl w.heap.size w)
  have H : ((tilefarmref4_Size.f a0_0 a0_1 a0_2).bind fun t208 => (if t208 = true then (tilefarmref4_Valid.j0 k ((l0_3.length : Int) != (wrap64 (a0_0 * a0_1))) a0_0 a0_1 a0_2 l0_3) else (tilefarmref4_Valid.j0 k true a0_0 a0_1 a0_2 l0_3))) = some r := h
  clear h
  have HC2 := Aside0.mk H
  clear H
  go_enter Try.func16, Try.ntmps16
  go_upto_region 1 with (first | ((with_reducible refine gate_dst (N := 1) rfl ?_); (try (refine gate_guard (by rfl) ?_; dsimp only)); refine box_event ?hg (N := 1) ?hd (cs := #[.int .i64 a0_0, .int .i64 a0_1, .int .i64 a0_2, .slice A0_3 l0_3.length c0_3]) (t := 26) ?hr ?_; (case hd => rfl); (case hg => rfl); (case hr => first | (go_simp; done) | (go_simp; rfl)); intro gb207 hg w3 hbox hb; have n0_ := Aside0.mk (below_step q133_ hb); have n1_ := Aside0.mk (hbox); have n2_ := Aside0.mk ((q110_ : w.heap.size ≤ gb207)); have n3_ := Aside0.mk ((q110_ : w.heap.size ≤ gb207)); clear HB; have HB := n0_; have BK207 := n1_; have GW207 := n2_; have GE207 := n3_; clear n0_ n1_ n2_ n3_; clear hb hbox hg))
  repeat (go_quiet (first | ((with_reducible refine gate_dst (N := 1) rfl ?_); (try (refine gate_guard (by rfl) ?_; dsimp only)); refine box_event ?hg (N := 1) ?hd (cs := #[.int .i64 a0_0, .int .i64 a0_1, .int .i64 a0_2, .slice A0_3 l0_3.length c0_3]) (t := 26) ?hr ?_; (case hd => rfl); (case hg => rfl); (case hr => first | (go_simp; done) | (go_simp; rfl)); intro gb207 hg w3 hbox hb; have n0_ := Aside0.mk (below_step q133_ hb); have n1_ := Aside0.mk (hbox); have n2_ := Aside0.mk ((q110_ : w.heap.size ≤ gb207)); have n3_ := Aside0.mk ((q110_ : w.heap.size ≤ gb207)); clear HB; have HB := n0_; have BK207 := n1_; have GW207 := n2_; have GE207 := n3_; clear n0_ n1_ n2_ n3_; clear hb hbox hg)); go_upto_region 1 with (first | ((with_reducible refine gate_dst (N := 1) rfl ?_); (try (refine gate_guard (by rfl) ?_; dsimp only)); refine box_event ?hg (N := 1) ?hd (cs := #[.int .i64 a0_0, .int .i64 a0_1, .int .i64 a0_2, .slice A0_3 l0_3.length c0_3]) (t := 26) ?hr ?_; (case hd => rfl); (case hg => rfl); (case hr => first | (go_simp; done) | (go_simp; rfl)); intro gb207 hg w3 hbox hb; have n0_ := Aside0.mk (below_step q133_ hb); have n1_ := Aside0.mk (hbox); have n2_ := Aside0.mk ((q110_ : w.heap.size ≤ gb207)); have n3_ := Aside0.mk ((q110_ : w.heap.size ≤ gb207)); clear HB; have HB := n0_; have BK207 := n1_; have GW207 := n2_; have GE207 := n3_; clear n0_ n1_ n2_ n3_; clear hb hbox hg)))
  (try simp only [Act.put, List.setIfInBounds_toArray, List.set_cons_zero, List.set_cons_succ])
  go_cut [22] (fun v22 wc => ∃ (kq : Nat) (x22_1 : Bool), v22 = .bool x22_1 ∧ Aside0 (tilefarmref4_Valid.j0 kq x22_1 a0_0 a0_1 a0_2 l0_3 = some r) ∧ Aside0 (kq ≤ k) ∧ Aside0 (wc.heap[gb207]? = some (.cells #[.int .i64 a0_0, .int .i64 a0_1, .int .i64 a0_2, (.slice A0_3 l0_3.length c0_3)] 26 (0, 0))) ∧ Aside0 (Below w.heap.size w wc))
  case first =>
    have H := HC2.out
    clear HC2
    replace H := Option.bind_eq_some_iff.mp H
    obtain ⟨t208, A40, H⟩ := H
    replace H : (if t208 = true then (tilefarmref4_Valid.j0 k ((l0_3.length : Int) != (wrap64 (a0_0 * a0_1))) a0_0 a0_1 a0_2 l0_3) else (tilefarmref4_Valid.j0 k true a0_0 a0_1 a0_2 l0_3)) = some r := H
    have A4 := Aside0.mk A40
    clear A40
    by_cases c5 : t208 = true
    · subst c5
      have H1 : (tilefarmref4_Valid.j0 k ((l0_3.length : Int) != (wrap64 (a0_0 * a0_1))) a0_0 a0_1 a0_2 l0_3) = some r := by rw [if_pos rfl] at H; exact H
      clear H
      have H := H1
      clear H1
      have H' := Aside0.mk H
      clear H
      have hcz6_0 : w3.cell? ⟨gb207, 0, none⟩ = some (.int .i64 a0_0) := (blk_cell BK207.out 0).trans rfl
      have hcz6_1 : w3.cell? ⟨gb207, 1, none⟩ = some (.int .i64 a0_1) := (blk_cell BK207.out 1).trans rfl
      have hcz6_2 : w3.cell? ⟨gb207, 2, none⟩ = some (.int .i64 a0_2) := (blk_cell BK207.out 2).trans rfl
      have hcz6_3 : w3.cell? ⟨gb207, 3, none⟩ = some (.slice A0_3 l0_3.length c0_3) := (blk_cell BK207.out 3).trans rfl
      have hfz6_0 := blk_frozen BK207.out 0
      have hfz6_1 := blk_frozen BK207.out 1
      have hfz6_2 := blk_frozen BK207.out 2
      have hfz6_3 := blk_frozen BK207.out 3
      go_wp2_with (first | (go_at_call 39; (with_reducible refine (tilefarmref4_Size.calls a0_0 a0_1 a0_2 true _ A4.out).mono ?_); rintro e w' ⟨rfl, ⟨nd, rfl⟩⟩; (try first | exact ⟨rfl, _, World.drewN_drewN _ _ _⟩ | exact ⟨rfl, _, Eq.trans (World.drewN_drewN _ _ _) (congrArg (World.drewN _) (Nat.add_assoc _ _ _))⟩)))
      repeat (go_quiet (first | (go_at_call 39; (with_reducible refine (tilefarmref4_Size.calls a0_0 a0_1 a0_2 true _ A4.out).mono ?_); rintro e w' ⟨rfl, ⟨nd, rfl⟩⟩; (try first | exact ⟨rfl, _, World.drewN_drewN _ _ _⟩ | exact ⟨rfl, _, Eq.trans (World.drewN_drewN _ _ _) (congrArg (World.drewN _) (Nat.add_assoc _ _ _))⟩))); try go_wp2_with (first | (go_at_call 39; (with_reducible refine (tilefarmref4_Size.calls a0_0 a0_1 a0_2 true _ A4.out).mono ?_); rintro e w' ⟨rfl, ⟨nd, rfl⟩⟩; (try first | exact ⟨rfl, _, World.drewN_drewN _ _ _⟩ | exact ⟨rfl, _, Eq.trans (World.drewN_drewN _ _ _) (congrArg (World.drewN _) (Nat.add_assoc _ _ _))⟩))))
      go_meet
      case rel => exact ⟨_, (((l0_3.length : Int) != (wrap64 (a0_0 * a0_1)))), q198_, H', ⟨by first | omega | exact Nat.le_refl _⟩, ⟨q153_⟩, ⟨q120_⟩⟩
    · replace c5 := Bool.eq_false_iff.mpr c5
      subst c5
      have H1 : (tilefarmref4_Valid.j0 k true a0_0 a0_1 a0_2 l0_3) = some r := by rw [if_neg (show ¬ (false = true) by decide)] at H; exact H
      clear H
      have H := H1
      clear H1
      have H' := Aside0.mk H
      clear H
      have hcz7_0 : w3.cell? ⟨gb207, 0, none⟩ = some (.int .i64 a0_0) := (blk_cell BK207.out 0).trans rfl
      have hcz7_1 : w3.cell? ⟨gb207, 1, none⟩ = some (.int .i64 a0_1) := (blk_cell BK207.out 1).trans rfl
      have hcz7_2 : w3.cell? ⟨gb207, 2, none⟩ = some (.int .i64 a0_2) := (blk_cell BK207.out 2).trans rfl
      have hcz7_3 : w3.cell? ⟨gb207, 3, none⟩ = some (.slice A0_3 l0_3.length c0_3) := (blk_cell BK207.out 3).trans rfl
      have hfz7_0 := blk_frozen BK207.out 0
      have hfz7_1 := blk_frozen BK207.out 1
      have hfz7_2 := blk_frozen BK207.out 2
      have hfz7_3 := blk_frozen BK207.out 3
      go_wp2_with (first | (go_at_call 39; (with_reducible refine (tilefarmref4_Size.calls a0_0 a0_1 a0_2 false _ A4.out).mono ?_); rintro e w' ⟨rfl, ⟨nd, rfl⟩⟩; (try first | exact ⟨rfl, _, World.drewN_drewN _ _ _⟩ | exact ⟨rfl, _, Eq.trans (World.drewN_drewN _ _ _) (congrArg (World.drewN _) (Nat.add_assoc _ _ _))⟩)))
      repeat (go_quiet (first | (go_at_call 39; (with_reducible refine (tilefarmref4_Size.calls a0_0 a0_1 a0_2 false _ A4.out).mono ?_); rintro e w' ⟨rfl, ⟨nd, rfl⟩⟩; (try first | exact ⟨rfl, _, World.drewN_drewN _ _ _⟩ | exact ⟨rfl, _, Eq.trans (World.drewN_drewN _ _ _) (congrArg (World.drewN _) (Nat.add_assoc _ _ _))⟩))); try go_wp2_with (first | (go_at_call 39; (with_reducible refine (tilefarmref4_Size.calls a0_0 a0_1 a0_2 false _ A4.out).mono ?_); rintro e w' ⟨rfl, ⟨nd, rfl⟩⟩; (try first | exact ⟨rfl, _, World.drewN_drewN _ _ _⟩ | exact ⟨rfl, _, Eq.trans (World.drewN_drewN _ _ _) (congrArg (World.drewN _) (Nat.add_assoc _ _ _))⟩))))
      go_meet
      case rel => exact ⟨_, (true), q198_, H', ⟨by first | omega | exact Nat.le_refl _⟩, ⟨q153_⟩, ⟨q120_⟩⟩
  case rest =>
    clear HC2
    try clear c1
    try clear p2
    try clear c5
    try clear p6
    try clear hcz6_0
    try clear hcz6_1
    try clear hcz6_2
    try clear hcz6_3
    try clear hcz7_0
    try clear hcz7_1
    try clear hcz7_2
    try clear hcz7_3
    try clear hfz6_0
    try clear hfz6_1
    try clear hfz6_2
    try clear hfz6_3
    try clear hfz7_0
    try clear hfz7_1
    try clear hfz7_2
    try clear hfz7_3
    obtain ⟨kq, x22_1, rfl, HA, HJ1, BK207, HB⟩ := hcut
    cases kq with
    | zero => exact absurd HA.out (by simp [tilefarmref4_Valid.j0])
    | succ kj1 =>
      have H := HA.out
      clear HA
      simp only [tilefarmref4_Valid.j0] at H
      by_cases c8 : x22_1 = true
      · subst c8
        have H1 : (some false) = some r := by rw [if_pos rfl] at H; exact H
        clear H
        have H := H1
        clear H1
        obtain rfl := Option.some.inj H
        go_wp2
        repeat (go_quiet (fail); try go_wp2)
        go_ret
        exact ⟨q195_, q120_⟩
      · replace c8 := Bool.eq_false_iff.mpr c8
        subst c8
        have H1 : (tilefarmref4_Valid.l0 kj1 0 a0_0 a0_1 a0_2 l0_3) = some r := by rw [if_neg (show ¬ (false = true) by decide)] at H; exact H
        clear H
        have H := H1
        clear H1
        have H' := Aside0.mk H
        clear H
        go_wp2
        repeat (go_quiet (fail); try go_wp2)
        go_loopg [3] kj1 (fun kq v3 w' => ∃ (x3_2 : Int), v3 = .int .i64 x3_2 ∧ Aside0 (tilefarmref4_Valid.l0 kq x3_2 a0_0 a0_1 a0_2 l0_3 = some r) ∧ Aside0 (kq ≤ kj1) ∧ Aside0 (w'.heap[gb207]? = some (.cells #[.int .i64 a0_0, .int .i64 a0_1, .int .i64 a0_2, (.slice A0_3 l0_3.length c0_3)] 26 (0, 0))) ∧ Aside0 (Below w.heap.size w w'))
        case atStart => exact ⟨(0), q198_, H', ⟨Nat.le_refl _⟩, ⟨q153_⟩, ⟨q120_⟩⟩
        case round =>
          clear H'
          try clear c1
          try clear p2
          try clear c5
          try clear p6
          try clear c8
          try clear hcz6_0
          try clear hcz6_1
          try clear hcz6_2
          try clear hcz6_3
          try clear hcz7_0
          try clear hcz7_1
          try clear hcz7_2
          try clear hcz7_3
          try clear hfz6_0
          try clear hfz6_1
          try clear hfz6_2
          try clear hfz6_3
          try clear hfz7_0
          try clear hfz7_1
          try clear hfz7_2
          try clear hfz7_3
          try clear p2
          try clear p6
          obtain ⟨x3_2, rfl, HA, HK2, BK207, HB⟩ := hrel
          cases gk with
          | zero => exact absurd HA.out (by simp [tilefarmref4_Valid.l0])
          | succ k2 =>
            have H := HA.out
            clear HA
            simp only [tilefarmref4_Valid.l0] at H
            by_cases c9 : x3_2 < (l0_3.length : Int)
            · rw [if_pos c9] at H
              have c9b0 : decide (x3_2 < (l0_3.length : Int)) = true := decide_eq_true c9
              clear c9
              by_cases c10 : 0 ≤ x3_2
              · rw [if_pos c10] at H
                have c10b0 : decide (0 ≤ x3_2) = true := decide_eq_true c10
                clear c10
                by_cases c11 : (rd l0_3 x3_2) < 0
                · rw [if_pos c11] at H
                  have c11b0 : decide ((rd l0_3 x3_2) < 0) = true := decide_eq_true c11
                  clear c11
                  obtain rfl := Option.some.inj H
                  have hcz12_0 : wr.cell? ⟨gb207, 0, none⟩ = some (.int .i64 a0_0) := (blk_cell BK207.out 0).trans rfl
                  have hcz12_1 : wr.cell? ⟨gb207, 1, none⟩ = some (.int .i64 a0_1) := (blk_cell BK207.out 1).trans rfl
                  have hcz12_2 : wr.cell? ⟨gb207, 2, none⟩ = some (.int .i64 a0_2) := (blk_cell BK207.out 2).trans rfl
                  have hcz12_3 : wr.cell? ⟨gb207, 3, none⟩ = some (.slice A0_3 l0_3.length c0_3) := (blk_cell BK207.out 3).trans rfl
                  have hfz12_0 := blk_frozen BK207.out 0
                  have hfz12_1 := blk_frozen BK207.out 1
                  have hfz12_2 := blk_frozen BK207.out 2
                  have hfz12_3 := blk_frozen BK207.out 3
                  have p209 : 0 ≤ (x3_2 : Int) := of_decide_eq_true q197_
                  have q209 : x3_2 < (l0_3.length : Int) := of_decide_eq_true q197_
                  obtain ⟨ad209, e209, hx209_0⟩ := Kd.at_int HR0_3.out x3_2 p209 q209
                  cases e209
                  replace hx209_0 := (HB.out.cell (World.block_lt_of_cell? w _ hx209_0)).trans hx209_0
                  replace p209 := eq_true p209
                  replace q209 := eq_true q209
                  go_wp2
                  repeat (go_quiet (fail); try go_wp2)
                  go_ret
                  exact ⟨q195_, q120_⟩
                · rw [if_neg c11] at H
                  have c11b0 : decide ((rd l0_3 x3_2) < 0) = false := decide_eq_false c11
                  clear c11
                  by_cases c13 : (rd l0_3 x3_2) > a0_2
                  · rw [if_pos c13] at H
                    have c13b0 : decide (a0_2 < (rd l0_3 x3_2)) = true := decide_eq_true c13
                    clear c13
                    obtain rfl := Option.some.inj H
                    have hcz14_0 : wr.cell? ⟨gb207, 0, none⟩ = some (.int .i64 a0_0) := (blk_cell BK207.out 0).trans rfl
                    have hcz14_1 : wr.cell? ⟨gb207, 1, none⟩ = some (.int .i64 a0_1) := (blk_cell BK207.out 1).trans rfl
                    have hcz14_2 : wr.cell? ⟨gb207, 2, none⟩ = some (.int .i64 a0_2) := (blk_cell BK207.out 2).trans rfl
                    have hcz14_3 : wr.cell? ⟨gb207, 3, none⟩ = some (.slice A0_3 l0_3.length c0_3) := (blk_cell BK207.out 3).trans rfl
                    have hfz14_0 := blk_frozen BK207.out 0
                    have hfz14_1 := blk_frozen BK207.out 1
                    have hfz14_2 := blk_frozen BK207.out 2
                    have hfz14_3 := blk_frozen BK207.out 3
                    have p209 : 0 ≤ (x3_2 : Int) := of_decide_eq_true q197_
                    have q209 : x3_2 < (l0_3.length : Int) := of_decide_eq_true q197_
                    obtain ⟨ad209, e209, hx209_0⟩ := Kd.at_int HR0_3.out x3_2 p209 q209
                    cases e209
                    replace hx209_0 := (HB.out.cell (World.block_lt_of_cell? w _ hx209_0)).trans hx209_0
                    replace p209 := eq_true p209
                    replace q209 := eq_true q209
                    have p210 : 0 ≤ (x3_2 : Int) := of_decide_eq_true q197_
                    have q210 : x3_2 < (l0_3.length : Int) := of_decide_eq_true q197_
                    obtain ⟨ad210, e210, hx210_0⟩ := Kd.at_int HR0_3.out x3_2 p210 q210
                    obtain rfl : ad209 = ad210 := (by injection e210)
                    replace hx210_0 := (HB.out.cell (World.block_lt_of_cell? w _ hx210_0)).trans hx210_0
                    replace p210 := eq_true p210
                    replace q210 := eq_true q210
                    go_wp2
                    repeat (go_quiet (fail); try go_wp2)
                    go_ret
                    exact ⟨q195_, q120_⟩
                  · rw [if_neg c13] at H
                    have c13b0 : decide (a0_2 < (rd l0_3 x3_2)) = false := decide_eq_false c13
                    clear c13
                    have H' := Aside0.mk H
                    clear H
                    have hcz15_0 : wr.cell? ⟨gb207, 0, none⟩ = some (.int .i64 a0_0) := (blk_cell BK207.out 0).trans rfl
                    have hcz15_1 : wr.cell? ⟨gb207, 1, none⟩ = some (.int .i64 a0_1) := (blk_cell BK207.out 1).trans rfl
                    have hcz15_2 : wr.cell? ⟨gb207, 2, none⟩ = some (.int .i64 a0_2) := (blk_cell BK207.out 2).trans rfl
                    have hcz15_3 : wr.cell? ⟨gb207, 3, none⟩ = some (.slice A0_3 l0_3.length c0_3) := (blk_cell BK207.out 3).trans rfl
                    have hfz15_0 := blk_frozen BK207.out 0
                    have hfz15_1 := blk_frozen BK207.out 1
                    have hfz15_2 := blk_frozen BK207.out 2
                    have hfz15_3 := blk_frozen BK207.out 3
                    have p209 : 0 ≤ (x3_2 : Int) := of_decide_eq_true q197_
                    have q209 : x3_2 < (l0_3.length : Int) := of_decide_eq_true q197_
                    obtain ⟨ad209, e209, hx209_0⟩ := Kd.at_int HR0_3.out x3_2 p209 q209
                    cases e209
                    replace hx209_0 := (HB.out.cell (World.block_lt_of_cell? w _ hx209_0)).trans hx209_0
                    replace p209 := eq_true p209
                    replace q209 := eq_true q209
                    have p210 : 0 ≤ (x3_2 : Int) := of_decide_eq_true q197_
                    have q210 : x3_2 < (l0_3.length : Int) := of_decide_eq_true q197_
                    obtain ⟨ad210, e210, hx210_0⟩ := Kd.at_int HR0_3.out x3_2 p210 q210
                    obtain rfl : ad209 = ad210 := (by injection e210)
                    replace hx210_0 := (HB.out.cell (World.block_lt_of_cell? w _ hx210_0)).trans hx210_0
                    replace p210 := eq_true p210
                    replace q210 := eq_true q210
                    go_wp2
                    repeat (go_quiet (fail); try go_wp2)
                    go_roundg k2
                    case measure => have := HJ1.out; have := HK2.out; omega
                    case rel => exact ⟨(wrap64 (x3_2 + 1)), q198_, H', ⟨by have := HJ1.out; have := HK2.out; omega⟩, ⟨q153_⟩, ⟨q120_⟩⟩
              · rw [if_neg c10] at H
                exact absurd H (by simp)
            · rw [if_neg c9] at H
              have c9b0 : decide (x3_2 < (l0_3.length : Int)) = false := decide_eq_false c9
              clear c9
              obtain rfl := Option.some.inj H
              have hcz16_0 : wr.cell? ⟨gb207, 0, none⟩ = some (.int .i64 a0_0) := (blk_cell BK207.out 0).trans rfl
              have hcz16_1 : wr.cell? ⟨gb207, 1, none⟩ = some (.int .i64 a0_1) := (blk_cell BK207.out 1).trans rfl
              have hcz16_2 : wr.cell? ⟨gb207, 2, none⟩ = some (.int .i64 a0_2) := (blk_cell BK207.out 2).trans rfl
              have hcz16_3 : wr.cell? ⟨gb207, 3, none⟩ = some (.slice A0_3 l0_3.length c0_3) := (blk_cell BK207.out 3).trans rfl
              have hfz16_0 := blk_frozen BK207.out 0
              have hfz16_1 := blk_frozen BK207.out 1
              have hfz16_2 := blk_frozen BK207.out 2
              have hfz16_3 := blk_frozen BK207.out 3
              go_wp2
              repeat (go_quiet (fail); try go_wp2)
              go_ret
              exact ⟨q195_, q120_⟩


def plane_New.f (a0 : Int) (a1 : Int) (a2 : Int) : Option (Int × Int × Int × List Int × Bool) := (plane_size.f a0 a1 a2).bind fun t212 => (if t212 = true then (if 0 ≤ (wrap64 (a0 * a1)) then (if (wrap64 (a0 * a1) : Int).toNat ≤ 35184372088832 then (some (a0, a1, a2, (List.replicate (wrap64 (a0 * a1) : Int).toNat 0), true)) else (none)) else (none)) else (some (0, 0, 0, ([] : List Int), false)))
set_option maxHeartbeats 8000000 in
set_option maxRecDepth 100000 in
theorem plane_New.calls (a0 : Int) (a1 : Int) (a2 : Int) (r1 : Int) (r2 : Int) (r3 : Int) (r4 : List Int) (r5 : Bool) (w : World) (h : plane_New.f a0 a1 a2 = some (r1, r2, r3, r4, r5)) :
    Calls Try.prog 23 #[.int .i64 a0, .int .i64 a1, .int .i64 a2] w fun e w' => ∃ v3_ : Value, e = .returned (.tuple #[.agg #[.int .i64 r1, .int .i64 r2, .int .i64 r3, v3_], .bool r5]) ∧ Kd.R (Kd.int .i64) 3 w' w.heap.size (fun _ => True) v3_ r4 ∧ Below w.heap.size w w' := by
  have hu26 := Try.underlying26
  have HB := Aside0.mk (Below.refl w.heap.size w)
  have H : ((plane_size.f a0 a1 a2).bind fun t212 => (if t212 = true then (if 0 ≤ (wrap64 (a0 * a1)) then (if (wrap64 (a0 * a1) : Int).toNat ≤ 35184372088832 then (some (a0, a1, a2, (List.replicate (wrap64 (a0 * a1) : Int).toNat 0), true)) else (none)) else (none)) else (some (0, 0, 0, ([] : List Int), false)))) = some (r1, r2, r3, r4, r5) := h
  clear h
  replace H := Option.bind_eq_some_iff.mp H
  obtain ⟨t212, A40, H⟩ := H
  replace H : (if t212 = true then (if 0 ≤ (wrap64 (a0 * a1)) then (if (wrap64 (a0 * a1) : Int).toNat ≤ 35184372088832 then (some (a0, a1, a2, (List.replicate (wrap64 (a0 * a1) : Int).toNat 0), true)) else (none)) else (none)) else (some (0, 0, 0, ([] : List Int), false))) = some (r1, r2, r3, r4, r5) := H
  have A4 := Aside0.mk A40
  clear A40
  by_cases c5 : t212 = true
  · subst c5
    have H1 : (if 0 ≤ (wrap64 (a0 * a1)) then (if (wrap64 (a0 * a1) : Int).toNat ≤ 35184372088832 then (some (a0, a1, a2, (List.replicate (wrap64 (a0 * a1) : Int).toNat 0), true)) else (none)) else (none)) = some (r1, r2, r3, r4, r5) := by rw [if_pos rfl] at H; exact H
    clear H
    have H := H1
    clear H1
    obtain ⟨ji6, hji6⟩ : ∃ j_ : Int, (wrap64 (a0 * a1)) = j_ := ⟨_, rfl⟩
    replace H : (if 0 ≤ (ji6) then (if (ji6 : Int).toNat ≤ 35184372088832 then (some (a0, a1, a2, (List.replicate (ji6 : Int).toNat 0), true)) else (none)) else (none)) = some (r1, r2, r3, r4, r5) := by first | (rw [hji6] at H; exact H) | (simp only [hji6] at H ⊢; exact H)
    (try rw [hji6] at A4)
    have hji6w : (IntKind.i64.wrap (a0 * a1)) = ji6 := (i64_w _).trans hji6
    by_cases c7 : 0 ≤ (ji6)
    · rw [if_pos c7] at H
      have c7b0 := eq_true c7
      have c7b1 : decide (0 ≤ (ji6)) = true := decide_eq_true c7
      clear c7
      by_cases c8 : (ji6 : Int).toNat ≤ 35184372088832
      · rw [if_pos c8] at H
        have c8b0 := eq_true c8
        have c8b1 : decide ((ji6 : Int).toNat ≤ 35184372088832) = true := decide_eq_true c8
        clear c8
        obtain ⟨y213, hy213⟩ : ∃ y_ : List Int, y_ = (List.replicate (ji6 : Int).toNat 0) := ⟨_, rfl⟩
        replace H : (some (a0, a1, a2, y213, true)) = some (r1, r2, r3, r4, r5) := by first | (rw [hy213]; with_reducible exact H) | (have H2_ := (Option.bind_some _ _).symm.trans H; rw [hy213]; with_reducible exact H2_) | (have H2_ := (Option.bind_some _ _).symm.trans H; with_reducible exact H2_) | with_reducible exact H | (rw [hy213]; exact H) | exact H
        have Ny213 := Aside0.mk hy213
        clear hy213
        simp only [Option.some.injEq, Prod.mk.injEq] at H
        obtain ⟨rfl, rfl, rfl, rfl, rfl⟩ := H
        go_enter Try.func23, Try.ntmps23
        go_wp2_with (first | ((with_reducible refine gate_dst (N := 6) rfl ?_); refine box_event ?hg (N := 6) ?hd (cs := #[.int .i64 0, .int .i64 0, .int .i64 0, .slice none 0 0]) (t := 26) ?hr ?_; (case hd => rfl); (case hg => rfl); (case hr => first | (go_simp; done) | (go_simp; rfl)); intro gb211 hg w9 hbox hb; have n0_ := Aside0.mk (below_step q133_ hb); have n1_ := Aside0.mk (hbox); have n2_ := Aside0.mk ((q110_ : w.heap.size ≤ gb211)); have n3_ := Aside0.mk ((q110_ : w.heap.size ≤ gb211)); clear HB; have HB := n0_; have BK211 := n1_; have GW211 := n2_; have GE211 := n3_; clear n0_ n1_ n2_ n3_; clear hb hbox hg) | ((with_reducible refine gate_callee (f := 40) rfl ?_); refine goesL_ (some 11) rfl rfl Try.func40 (by kernel_rfl) rfl #[.int .i64 a0, .int .i64 a1, .int .i64 a2] rfl q130_ ?_; (with_reducible refine (plane_size.calls a0 a1 a2 true _ A4.out).mono ?_); rintro e w' ⟨rfl, ⟨nd, rfl⟩⟩; refine ⟨_, rfl, ?_⟩; (try (rw [drewN_self w9]; generalize hq_ : World.drewN w9 _ = w9; have n0_ : Aside0 (w9.heap[gb211]? = some (.cells #[.int .i64 0, .int .i64 0, .int .i64 0, .slice none 0 0] 26 (0, 0))) := ⟨by rw [← hq_]; exact q154_⟩; have n1_ : Aside0 (Below w.heap.size w w9) := ⟨by rw [← hq_]; exact q121_⟩; clear BK211 HB hq_; have BK211 := n0_; have HB := n1_; clear n0_ n1_))) | ((with_reducible refine gate_dst (N := 20) rfl ?_); refine Kd.R_make (Kd.int .i64) _ 3 rfl (N := 20) rfl 22 _ _ rfl ji6 rfl rfl Try.underlying22 (.int .i64 0) 8 info3 rfl (by decide) (by omega) 0 (ok := fun _ => True) (okp := fun _ => True) rfl (fun _ hk => hk) trivial (of_decide_eq_true q197_) (Nat.le_trans (Nat.mul_le_mul_right _ (of_decide_eq_true q197_ : ji6.toNat ≤ 35184372088832)) (by omega)) (Below.refl _ _) (Nat.le_refl _) ?_; intro v214 w10 ho11 hb hg_ hnew_; clear hg_ hnew_; (first | rw [← Ny213.out] at ho11 | (simp only [Int.reduceToNat] at ho11; rw [← Ny213.out] at ho11)); have n0_ := Aside0.mk (Kd.R_lower ho11 (below_size q121_)); have n1_ := Aside0.mk (blk_below (g := gb211) (o := .cells #[.int .i64 0, .int .i64 0, .int .i64 0, .slice none 0 0] 26 (0, 0)) q154_ hb); have n2_ := Aside0.mk (below_step q121_ hb); clear BK211; clear HB; have HO215 := n0_; have BK211 := n1_; have HB := n2_; clear n0_ n1_ n2_; clear hb ho11; obtain ⟨Ao12, co12, eo12⟩ := Kd.R_slice HO215.out; subst eo12; have hcz13_0 : w10.cell? ⟨gb211, 0, none⟩ = some (.int .i64 0) := (blk_cell BK211.out 0).trans rfl; have hcz13_1 : w10.cell? ⟨gb211, 1, none⟩ = some (.int .i64 0) := (blk_cell BK211.out 1).trans rfl; have hcz13_2 : w10.cell? ⟨gb211, 2, none⟩ = some (.int .i64 0) := (blk_cell BK211.out 2).trans rfl; have hcz13_3 : w10.cell? ⟨gb211, 3, none⟩ = some (.slice none 0 0) := (blk_cell BK211.out 3).trans rfl; have hfz13_0 := blk_frozen BK211.out 0; have hfz13_1 := blk_frozen BK211.out 1; have hfz13_2 := blk_frozen BK211.out 2; have hfz13_3 := blk_frozen BK211.out 3))
        refine bodyPost_ret (results_ct rfl _ _ gb211 26 #[.int .i64 a0, .int .i64 a1, .int .i64 a2, .slice Ao12 y213.length co12] (0, 0) _ rfl (by (with_reducible repeat (first | refine blk_drewN ?_ _ | refine blk_drew ?_ | refine blk_alloc ?_ _)); refine blk_put (cs := #[.int .i64 a0, .int .i64 a1, .int .i64 a2, .slice none 0 0]) ?_ 3 _ rfl; (with_reducible repeat (first | refine blk_drewN ?_ _ | refine blk_drew ?_ | refine blk_alloc ?_ _)); refine blk_put (cs := #[.int .i64 a0, .int .i64 a1, .int .i64 0, .slice none 0 0]) ?_ 2 _ rfl; (with_reducible repeat (first | refine blk_drewN ?_ _ | refine blk_drew ?_ | refine blk_alloc ?_ _)); refine blk_put (cs := #[.int .i64 a0, .int .i64 0, .int .i64 0, .slice none 0 0]) ?_ 1 _ rfl; (with_reducible repeat (first | refine blk_drewN ?_ _ | refine blk_drew ?_ | refine blk_alloc ?_ _)); refine blk_put (cs := #[.int .i64 0, .int .i64 0, .int .i64 0, .slice none 0 0]) ?_ 0 _ rfl; (with_reducible repeat (first | refine blk_drewN ?_ _ | refine blk_drew ?_ | refine blk_alloc ?_ _)); exact BK211.out) Try.underlying26 rfl (by kernel_rfl)) rfl ?_
        exact ⟨_, by first | rfl | (simp [errW_none, errW_some] <;> rfl) | (simp only [← hji6]; first | rfl | (simp [errW_none, errW_some] <;> rfl)) | (simp [*, errW_none, errW_some] <;> rfl), by (with_reducible repeat (first | apply Kd.R_alloc | apply Kd.R_drewN | apply Kd.R_drew)); exact Kd.R_mono (Kd.R_far (p := ⟨gb211, 3, none⟩) (Kd.R_far (p := ⟨gb211, 2, none⟩) (Kd.R_far (p := ⟨gb211, 1, none⟩) (Kd.R_far (p := ⟨gb211, 0, none⟩) (Kd.R_types HO215.out BK211.out (by decide)) (fun _ hk => hk.2) (.int .i64 a0)) (fun _ hk => hk.2) (.int .i64 a1)) (fun _ hk => hk.2) (.int .i64 a2)) (fun _ hk => hk.2) (.slice Ao12 y213.length co12)) (fun _ hk => trivial), q121_⟩
      · rw [if_neg c8] at H
        exact absurd H (by simp)
    · rw [if_neg c7] at H
      exact absurd H (by simp)
  · replace c5 := Bool.eq_false_iff.mpr c5
    subst c5
    have H1 : (some (0, 0, 0, ([] : List Int), false)) = some (r1, r2, r3, r4, r5) := by rw [if_neg (show ¬ (false = true) by decide)] at H; exact H
    clear H
    have H := H1
    clear H1
    simp only [Option.some.injEq, Prod.mk.injEq] at H
    obtain ⟨rfl, rfl, rfl, rfl, rfl⟩ := H
    go_enter Try.func23, Try.ntmps23
    go_wp2_with (first | ((with_reducible refine gate_dst (N := 6) rfl ?_); refine box_event ?hg (N := 6) ?hd (cs := #[.int .i64 0, .int .i64 0, .int .i64 0, .slice none 0 0]) (t := 26) ?hr ?_; (case hd => rfl); (case hg => rfl); (case hr => first | (go_simp; done) | (go_simp; rfl)); intro gb211 hg w14 hbox hb; have n0_ := Aside0.mk (below_step q133_ hb); have n1_ := Aside0.mk (hbox); have n2_ := Aside0.mk ((q110_ : w.heap.size ≤ gb211)); have n3_ := Aside0.mk ((q110_ : w.heap.size ≤ gb211)); clear HB; have HB := n0_; have BK211 := n1_; have GW211 := n2_; have GE211 := n3_; clear n0_ n1_ n2_ n3_; clear hb hbox hg) | ((with_reducible refine gate_callee (f := 40) rfl ?_); refine goesL_ (some 11) rfl rfl Try.func40 (by kernel_rfl) rfl #[.int .i64 a0, .int .i64 a1, .int .i64 a2] rfl q130_ ?_; (with_reducible refine (plane_size.calls a0 a1 a2 false _ A4.out).mono ?_); rintro e w' ⟨rfl, ⟨nd, rfl⟩⟩; refine ⟨_, rfl, ?_⟩; (try (rw [drewN_self w14]; generalize hq_ : World.drewN w14 _ = w14; have n0_ : Aside0 (w14.heap[gb211]? = some (.cells #[.int .i64 0, .int .i64 0, .int .i64 0, .slice none 0 0] 26 (0, 0))) := ⟨by rw [← hq_]; exact q154_⟩; have n1_ : Aside0 (Below w.heap.size w w14) := ⟨by rw [← hq_]; exact q121_⟩; clear BK211 HB hq_; have BK211 := n0_; have HB := n1_; clear n0_ n1_)); have hcz15_0 : w14.cell? ⟨gb211, 0, none⟩ = some (.int .i64 0) := (blk_cell BK211.out 0).trans rfl; have hcz15_1 : w14.cell? ⟨gb211, 1, none⟩ = some (.int .i64 0) := (blk_cell BK211.out 1).trans rfl; have hcz15_2 : w14.cell? ⟨gb211, 2, none⟩ = some (.int .i64 0) := (blk_cell BK211.out 2).trans rfl; have hcz15_3 : w14.cell? ⟨gb211, 3, none⟩ = some (.slice none 0 0) := (blk_cell BK211.out 3).trans rfl; have hfz15_0 := blk_frozen BK211.out 0; have hfz15_1 := blk_frozen BK211.out 1; have hfz15_2 := blk_frozen BK211.out 2; have hfz15_3 := blk_frozen BK211.out 3))
    refine bodyPost_ret (results_ct rfl _ _ gb211 26 #[.int .i64 0, .int .i64 0, .int .i64 0, .slice none 0 0] (0, 0) _ rfl (by (with_reducible repeat (first | refine blk_drewN ?_ _ | refine blk_drew ?_ | refine blk_alloc ?_ _)); refine blk_put (cs := #[.int .i64 0, .int .i64 0, .int .i64 0, .slice none 0 0]) ?_ 3 _ rfl; (with_reducible repeat (first | refine blk_drewN ?_ _ | refine blk_drew ?_ | refine blk_alloc ?_ _)); refine blk_put (cs := #[.int .i64 0, .int .i64 0, .int .i64 0, .slice none 0 0]) ?_ 2 _ rfl; (with_reducible repeat (first | refine blk_drewN ?_ _ | refine blk_drew ?_ | refine blk_alloc ?_ _)); refine blk_put (cs := #[.int .i64 0, .int .i64 0, .int .i64 0, .slice none 0 0]) ?_ 1 _ rfl; (with_reducible repeat (first | refine blk_drewN ?_ _ | refine blk_drew ?_ | refine blk_alloc ?_ _)); refine blk_put (cs := #[.int .i64 0, .int .i64 0, .int .i64 0, .slice none 0 0]) ?_ 0 _ rfl; (with_reducible repeat (first | refine blk_drewN ?_ _ | refine blk_drew ?_ | refine blk_alloc ?_ _)); exact BK211.out) Try.underlying26 rfl (by kernel_rfl)) rfl ?_
    exact ⟨_, q195_, q129_, q121_⟩


def border_Valid.j0 : Nat → Int → Int → Bool → Int → Int → Option (Bool)
  | 0, _, _, _, _, _ => none
  | k + 1, x1, x6, x7, x217000, x217001 => if x7 = true then (some (x217001 == 0)) else (if x6 = 3 then (if x217001 ≥ 0 then (some (decide (x217001 ≤ x1))) else (some false)) else (some false))
def border_Valid.f (k : Nat) (a0_0 : Int) (a0_1 : Int) (a1 : Int) : Option (Bool) := if a0_0 = 0 then (border_Valid.j0 k a1 a0_0 (a0_0 == 0) a0_0 a0_1) else (if a0_0 = 1 then (border_Valid.j0 k a1 a0_0 (a0_0 == 1) a0_0 a0_1) else (border_Valid.j0 k a1 a0_0 (a0_0 == 2) a0_0 a0_1))
theorem border_Valid.mono_l : ∀ k, (∀ y0 y1 y2 y3 y4, LeO (border_Valid.j0 k y0 y1 y2 y3 y4) (border_Valid.j0 (k + 1) y0 y1 y2 y3 y4))
  | 0 => fun _ _ _ _ _ r h => by simp [border_Valid.j0] at h
  | k + 1 => by
    have ih0 := border_Valid.mono_l k
    · intro y0 y1 y2 y3 y4
      unfold border_Valid.j0
      repeat' first
      | (with_reducible exact ih0 _ _ _ _ _)
      | (with_reducible exact LeO.refl _)
      | (with_reducible exact LeO.none _)
      | (with_reducible refine LeO.ite ?_ ?_)
      | (with_reducible refine LeO.bind ?_ (fun _ => ?_))
      | exact ih0 _ _ _ _ _
      | exact LeO.none _
      | refine LeO.ite ?_ ?_
      | refine LeO.bind ?_ (fun _ => ?_)
theorem border_Valid.mono : ∀ a0 a1 a2 k, LeO (border_Valid.f k a0 a1 a2) (border_Valid.f (k + 1) a0 a1 a2) := by
  intro a0 a1 a2 k
  have ih0 := border_Valid.mono_l k
  unfold border_Valid.f
  repeat' first
      | (with_reducible exact ih0 _ _ _ _ _)
      | (with_reducible exact LeO.refl _)
      | (with_reducible exact LeO.none _)
      | (with_reducible refine LeO.ite ?_ ?_)
      | (with_reducible refine LeO.bind ?_ (fun _ => ?_))
      | exact ih0 _ _ _ _ _
      | exact LeO.none _
      | refine LeO.ite ?_ ?_
      | refine LeO.bind ?_ (fun _ => ?_)
set_option maxHeartbeats 8000000 in
set_option maxRecDepth 100000 in
theorem border_Valid.calls (k : Nat) (a0_0 : Int) (a0_1 : Int) (a1 : Int) (r : Bool) (w : World) (h : border_Valid.f k a0_0 a0_1 a1 = some r) :
    Calls Try.prog 43 #[.agg #[.int .i64 a0_0, .int .i64 a0_1], .int .i64 a1] w fun e w' => e = .returned (.bool r) ∧ Below w.heap.size w w' := by
  have hu45 := Try.underlying45
  have HB := Aside0.mk (Below.refl w.heap.size w)
  have H : (if a0_0 = 0 then (border_Valid.j0 k a1 a0_0 (a0_0 == 0) a0_0 a0_1) else (if a0_0 = 1 then (border_Valid.j0 k a1 a0_0 (a0_0 == 1) a0_0 a0_1) else (border_Valid.j0 k a1 a0_0 (a0_0 == 2) a0_0 a0_1))) = some r := h
  clear h
  have HC3 := Aside0.mk H
  clear H
  go_enter Try.func43, Try.ntmps43
  go_upto_if 7 with (first | ((with_reducible refine gate_dst (N := 2) rfl ?_); refine box_event ?hg (N := 2) ?hd (cs := #[.int .i64 a0_0, .int .i64 a0_1]) (t := 45) ?hr ?_; (case hd => rfl); (case hg => rfl); (case hr => first | (go_simp; done) | (go_simp; rfl)); intro gb216 hg w4 hbox hb; have n0_ := Aside0.mk (below_step q133_ hb); have n1_ := Aside0.mk (hbox); have n2_ := Aside0.mk ((q110_ : w.heap.size ≤ gb216)); have n3_ := Aside0.mk ((q110_ : w.heap.size ≤ gb216)); clear HB; have HB := n0_; have BK216 := n1_; have GW216 := n2_; have GE216 := n3_; clear n0_ n1_ n2_ n3_; clear hb hbox hg; have hcz5_0 : w4.cell? ⟨gb216, 0, none⟩ = some (.int .i64 a0_0) := (blk_cell BK216.out 0).trans rfl; have hcz5_1 : w4.cell? ⟨gb216, 1, none⟩ = some (.int .i64 a0_1) := (blk_cell BK216.out 1).trans rfl; have hfz5_0 := blk_frozen BK216.out 0; have hfz5_1 := blk_frozen BK216.out 1))
  (try simp only [Act.put, List.setIfInBounds_toArray, List.set_cons_zero, List.set_cons_succ])
  go_cut [7] (fun v7 wc => ∃ (kq : Nat) (x7_2 : Bool), v7 = .bool x7_2 ∧ Aside0 (border_Valid.j0 kq a1 a0_0 x7_2 a0_0 a0_1 = some r) ∧ Aside0 (kq ≤ k) ∧ Aside0 (wc.heap[gb216]? = some (.cells #[.int .i64 a0_0, .int .i64 a0_1] 45 (0, 0))) ∧ Aside0 (Below w.heap.size w wc))
  case first =>
    have H := HC3.out
    clear HC3
    by_cases c6 : a0_0 = 0
    · rw [if_pos c6] at H
      have c6b0 : (a0_0 == 0) = true := beq_iff_eq.mpr c6
      have c6b1 : (a0_0 != 0) = false := bne_eq_false_iff_eq.mpr c6
      clear c6
      (first | rw [c6b0] | (simp only [i64_w, i32_w]; rw [c6b0]) | skip)
      have H' := Aside0.mk H
      clear H
      go_wp2
      go_meet
      case rel => exact ⟨_, ((a0_0 == 0)), q198_, H', ⟨by first | omega | exact Nat.le_refl _⟩, ⟨q155_⟩, ⟨q122_⟩⟩
    · rw [if_neg c6] at H
      have c6b0 : (a0_0 == 0) = false := beq_eq_false_iff_ne.mpr c6
      have c6b1 : (a0_0 != 0) = true := bne_iff_ne.mpr c6
      (first | rw [c6b0] | (simp only [i64_w, i32_w]; rw [c6b0]) | skip)
      by_cases c7 : a0_0 = 1
      · rw [if_pos c7] at H
        have c7b0 : (a0_0 == 1) = true := beq_iff_eq.mpr c7
        have c7b1 : (a0_0 != 1) = false := bne_eq_false_iff_eq.mpr c7
        clear c7
        have H' := Aside0.mk H
        clear H
        go_wp2
        go_meet
        case rel => exact ⟨_, ((a0_0 == 1)), q198_, H', ⟨by first | omega | exact Nat.le_refl _⟩, ⟨q155_⟩, ⟨q122_⟩⟩
      · rw [if_neg c7] at H
        have c7b0 : (a0_0 == 1) = false := beq_eq_false_iff_ne.mpr c7
        have c7b1 : (a0_0 != 1) = true := bne_iff_ne.mpr c7
        have H' := Aside0.mk H
        clear H
        go_wp2
        go_meet
        case rel => exact ⟨_, ((a0_0 == 2)), q198_, H', ⟨by first | omega | exact Nat.le_refl _⟩, ⟨q155_⟩, ⟨q122_⟩⟩
  case rest =>
    clear HC3
    try clear p2
    try clear c4
    try clear c6
    try clear c6b0
    try clear c6b1
    try clear c7
    try clear c7b0
    try clear c7b1
    try clear hcz5_0
    try clear hcz5_1
    try clear hfz5_0
    try clear hfz5_1
    obtain ⟨kq, x7_2, rfl, HA, HJ2, BK216, HB⟩ := hcut
    cases kq with
    | zero => exact absurd HA.out (by simp [border_Valid.j0])
    | succ kj2 =>
      have H := HA.out
      clear HA
      simp only [border_Valid.j0] at H
      by_cases c8 : x7_2 = true
      · subst c8
        have H1 : (some (a0_1 == 0)) = some r := by rw [if_pos rfl] at H; exact H
        clear H
        have H := H1
        clear H1
        obtain rfl := Option.some.inj H
        have hcz9_0 : wc.cell? ⟨gb216, 0, none⟩ = some (.int .i64 a0_0) := (blk_cell BK216.out 0).trans rfl
        have hcz9_1 : wc.cell? ⟨gb216, 1, none⟩ = some (.int .i64 a0_1) := (blk_cell BK216.out 1).trans rfl
        have hfz9_0 := blk_frozen BK216.out 0
        have hfz9_1 := blk_frozen BK216.out 1
        go_wp2
        go_ret
        exact ⟨q195_, q122_⟩
      · replace c8 := Bool.eq_false_iff.mpr c8
        subst c8
        have H1 : (if a0_0 = 3 then (if a0_1 ≥ 0 then (some (decide (a0_1 ≤ a1))) else (some false)) else (some false)) = some r := by rw [if_neg (show ¬ (false = true) by decide)] at H; exact H
        clear H
        have H := H1
        clear H1
        by_cases c10 : a0_0 = 3
        · rw [if_pos c10] at H
          have c10b0 : (a0_0 == 3) = true := beq_iff_eq.mpr c10
          have c10b1 : (a0_0 != 3) = false := bne_eq_false_iff_eq.mpr c10
          clear c10
          by_cases c11 : a0_1 ≥ 0
          · rw [if_pos c11] at H
            have c11b0 : decide (0 ≤ a0_1) = true := decide_eq_true c11
            clear c11
            obtain rfl := Option.some.inj H
            have hcz12_0 : wc.cell? ⟨gb216, 0, none⟩ = some (.int .i64 a0_0) := (blk_cell BK216.out 0).trans rfl
            have hcz12_1 : wc.cell? ⟨gb216, 1, none⟩ = some (.int .i64 a0_1) := (blk_cell BK216.out 1).trans rfl
            have hfz12_0 := blk_frozen BK216.out 0
            have hfz12_1 := blk_frozen BK216.out 1
            go_wp2
            go_ret
            exact ⟨q195_, q122_⟩
          · rw [if_neg c11] at H
            have c11b0 : decide (0 ≤ a0_1) = false := decide_eq_false c11
            clear c11
            obtain rfl := Option.some.inj H
            have hcz13_0 : wc.cell? ⟨gb216, 0, none⟩ = some (.int .i64 a0_0) := (blk_cell BK216.out 0).trans rfl
            have hcz13_1 : wc.cell? ⟨gb216, 1, none⟩ = some (.int .i64 a0_1) := (blk_cell BK216.out 1).trans rfl
            have hfz13_0 := blk_frozen BK216.out 0
            have hfz13_1 := blk_frozen BK216.out 1
            go_wp2
            go_ret
            exact ⟨q195_, q122_⟩
        · rw [if_neg c10] at H
          have c10b0 : (a0_0 == 3) = false := beq_eq_false_iff_ne.mpr c10
          have c10b1 : (a0_0 != 3) = true := bne_iff_ne.mpr c10
          obtain rfl := Option.some.inj H
          go_wp2
          go_ret
          exact ⟨q195_, q122_⟩


def border_mod.f (a0 : Int) (a1 : Int) : Option (Int) := if a1 = 0 then (none) else (if (Int.tmod a0 a1) < 0 then (some (wrap64 ((Int.tmod a0 a1) + a1))) else (some (Int.tmod a0 a1)))
set_option maxHeartbeats 8000000 in
set_option maxRecDepth 100000 in
theorem border_mod.calls (a0 : Int) (a1 : Int) (r : Int) (w : World) (h : border_mod.f a0 a1 = some r) :
    Calls Try.prog 58 #[.int .i64 a0, .int .i64 a1] w fun e w' => e = .returned (.int .i64 r) ∧ Drawn0 w w' := by
  have H : (if a1 = 0 then (none) else (if (Int.tmod a0 a1) < 0 then (some (wrap64 ((Int.tmod a0 a1) + a1))) else (some (Int.tmod a0 a1)))) = some r := h
  clear h
  by_cases c3 : a1 = 0
  · rw [if_pos c3] at H
    exact absurd H (by simp)
  · rw [if_neg c3] at H
    have c3b0 : (a1 == 0) = false := beq_eq_false_iff_ne.mpr c3
    have c3b1 : (a1 != 0) = true := bne_iff_ne.mpr c3
    by_cases c4 : (Int.tmod a0 a1) < 0
    · rw [if_pos c4] at H
      have c4b0 : decide ((Int.tmod a0 a1) < 0) = true := decide_eq_true c4
      clear c4
      obtain rfl := Option.some.inj H
      go_enter Try.func58, Try.ntmps58
      go_wp2
      go_ret
      exact ⟨q198_, q196_⟩
    · rw [if_neg c4] at H
      have c4b0 : decide ((Int.tmod a0 a1) < 0) = false := decide_eq_false c4
      clear c4
      obtain rfl := Option.some.inj H
      go_enter Try.func58, Try.ntmps58
      go_wp2
      go_ret
      exact ⟨q198_, q196_⟩

end Go.Proofs.Ytgkccacenlcebaa.PPlaneShares
