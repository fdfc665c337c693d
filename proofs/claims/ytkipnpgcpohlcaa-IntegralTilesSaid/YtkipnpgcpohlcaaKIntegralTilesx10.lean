-- Written by a program of the session (wip/tools/pack.py): the printed texts, pruned; checked by Lean.
import Derived.Test.YtkipnpgcpohlcaaKIntegralTilesa
import Derived.Test.YtkipnpgcpohlcaaKIntegralTilesx0
namespace Go.Proofs.Ytkipnpgcpohlcaa.PIntegralTiles
open Go.RowKit Go.Proofs.YtkipnpgcpohlcaaW.PrintWords Go.Proofs.YtkipnpgcpohlcaaW.PrintLast Go.Proofs.YtkipnpgcpohlcaaW.PrintMore
attribute [local go_sem] max2_int min2_int max_two min_two max_three min_three max_four min_four   -- for this text's walks alone
set_option linter.unusedVariables false
set_option linter.unusedSimpArgs false
def tilefarmref4_Same.l0 : Nat → List Int → List Int → Int → Option (Bool)
 | 0, _, _, _ => none
 | k + 1, x0, x1, x5 => if x5 < (x0.length : Int) then (if 0 ≤ x5 then (if x5 < (x1.length : Int) then (if (rd x0 x5) = (rd x1 x5) then (tilefarmref4_Same.l0 k x0 x1 (wrap64 (x5 + 1))) else (some false)) else (none)) else (none)) else (some true)
def tilefarmref4_Same.f (k : Nat) (l0 : List Int) (l1 : List Int) : Option (Bool) := if (l0.length : Int) = (l1.length : Int) then (tilefarmref4_Same.l0 k l0 l1 0) else (some false)
theorem tilefarmref4_Same.mono_l : ∀ k, (∀ y0 y1 y2, LeO (tilefarmref4_Same.l0 k y0 y1 y2) (tilefarmref4_Same.l0 (k + 1) y0 y1 y2))
 | 0 => fun _ _ _ r h => by simp [tilefarmref4_Same.l0] at h
 | k + 1 => by
  have ih0 := tilefarmref4_Same.mono_l k
  ·intro y0 y1 y2
   unfold tilefarmref4_Same.l0
   repeat' first
   | (with_reducible exact ih0 _ _ _)
   | (with_reducible exact LeO.refl _)
   | (with_reducible exact LeO.none _)
   | (with_reducible refine LeO.ite ?_ ?_)
   | (with_reducible refine LeO.bind ?_ (fun _ => ?_))
   | exact ih0 _ _ _
   | exact LeO.none _
   | refine LeO.ite ?_ ?_
   | refine LeO.bind ?_ (fun _ => ?_)
theorem tilefarmref4_Same.mono : ∀ a0 a1 k, LeO (tilefarmref4_Same.f k a0 a1) (tilefarmref4_Same.f (k + 1) a0 a1) := by
 intro a0 a1 k; have ih0 := tilefarmref4_Same.mono_l k; unfold tilefarmref4_Same.f
 repeat' first
   | (with_reducible exact ih0 _ _ _)
   | (with_reducible exact LeO.refl _)
   | (with_reducible exact LeO.none _)
   | (with_reducible refine LeO.ite ?_ ?_)
   | (with_reducible refine LeO.bind ?_ (fun _ => ?_))
   | exact ih0 _ _ _
   | exact LeO.none _
   | refine LeO.ite ?_ ?_
   | refine LeO.bind ?_ (fun _ => ?_)
set_option maxHeartbeats 8000000 in
set_option maxRecDepth 100000 in
theorem tilefarmref4_Same.calls (k : Nat) (A0 : Option Addr) (c0 : Nat) (l0 : List Int) (A1 : Option Addr) (c1 : Nat) (l1 : List Int) (r : Bool) (w : World) (hr0 : Kd.C (Kd.int .i64) w A0 l0.length l0) (hc0 : l0.length ≤ c0) (hr1 : Kd.C (Kd.int .i64) w A1 l1.length l1) (hc1 : l1.length ≤ c1) (h : tilefarmref4_Same.f k l0 l1 = some r) :
  Calls Try.prog 44 #[.slice A0 l0.length c0, .slice A1 l1.length c1] w fun e w' => e = .returned (.bool r) ∧ Drawn0 w w' := by
 have HR0 := am_ hr0; have HC0 := am_ hc0; clear hr0 hc0; have HR1 := am_ hr1; have HC1 := am_ hc1; clear hr1 hc1; have H : (if (l0.length : Int) = (l1.length : Int) then (tilefarmref4_Same.l0 k l0 l1 0) else (some false)) = some r := h; clear h
 by_cases c3 : (l0.length : Int) = (l1.length : Int)
 ·rw [if_pos c3] at H
  have c3b0 : ((l0.length : Int) == (l1.length : Int)) = true := beq_iff_eq.mpr c3; have c3b1 : ((l0.length : Int) != (l1.length : Int)) = false := bne_eq_false_iff_eq.mpr c3; have c3b2 : (l0.length == l1.length) = true := by first | simpa using c3 | (simp at c3 ⊢; omega)
  clear c3; have H' := am_ H; clear H
  go_enter Try.func44, Try.ntmps44
  go_wp2
  repeat (go_quiet (fail); try go_wp2)
  go_loopg [5] k (fun kq v5 w' => ∃ (x5_1 : Int), v5 = .int .i64 x5_1 ∧ Aside0 (tilefarmref4_Same.l0 kq l0 l1 x5_1 = some r) ∧ Aside0 (kq ≤ k) ∧ Drawn0 w w')
  case atStart => exact ⟨(0), q184_, H', ⟨Nat.le_refl _⟩, q180_⟩
  case round =>
   clear H'; (try clear c1); (try clear p2); (try clear c3); (try clear c3b0); (try clear c3b1); (try clear c3b2); obtain ⟨x5_1, rfl, HA, HK1, ⟨m1, rfl⟩⟩ := hrel; cases gk with
   | zero => exact absurd HA.out (by simp [tilefarmref4_Same.l0])
   | succ k1 =>
    have H := HA.out; clear HA; simp only [tilefarmref4_Same.l0] at H
    by_cases c4 : x5_1 < (l0.length : Int)
    ·rw [if_pos c4] at H
     have c4b0 : decide (x5_1 < (l0.length : Int)) = true := decide_eq_true c4; clear c4
     by_cases c5 : 0 ≤ x5_1
     ·rw [if_pos c5] at H
      have c5b0 : decide (0 ≤ x5_1) = true := decide_eq_true c5; clear c5
      by_cases c6 : x5_1 < (l1.length : Int)
      ·rw [if_pos c6] at H
       have c6b0 : decide (x5_1 < (l1.length : Int)) = true := decide_eq_true c6; clear c6
       by_cases c7 : (rd l0 x5_1) = (rd l1 x5_1)
       ·rw [if_pos c7] at H
        have c7b0 : ((rd l0 x5_1) == (rd l1 x5_1)) = true := beq_iff_eq.mpr c7; have c7b1 : ((rd l0 x5_1) != (rd l1 x5_1)) = false := bne_eq_false_iff_eq.mpr c7; clear c7; have H' := am_ H; clear H; have p281 : 0 ≤ (x5_1 : Int) := of_decide_eq_true q183_; have q281 : x5_1 < (l0.length : Int) := of_decide_eq_true q183_; obtain ⟨ad281, e281, hx281_0⟩ := Kd.at_int HR0.out x5_1 p281 q281; cases e281; replace p281 := eq_true p281; replace q281 := eq_true q281; have p282 : 0 ≤ (x5_1 : Int) := of_decide_eq_true q183_; have q282 : x5_1 < (l1.length : Int) := of_decide_eq_true q183_; obtain ⟨ad282, e282, hx282_0⟩ := Kd.at_int HR1.out x5_1 p282 q282; cases e282; replace p282 := eq_true p282; replace q282 := eq_true q282
        go_wp2
        repeat (go_quiet (fail); try go_wp2)
        go_roundg k1
        case measure => have := HK1.out; omega
        case rel => exact ⟨(wrap64 (x5_1 + 1)), q184_, H', ⟨by have := HK1.out; omega⟩, q180_⟩
       ·rw [if_neg c7] at H
        have c7b0 : ((rd l0 x5_1) == (rd l1 x5_1)) = false := beq_eq_false_iff_ne.mpr c7; have c7b1 : ((rd l0 x5_1) != (rd l1 x5_1)) = true := bne_iff_ne.mpr c7; obtain rfl := Option.some.inj H; have p281 : 0 ≤ (x5_1 : Int) := of_decide_eq_true q183_; have q281 : x5_1 < (l0.length : Int) := of_decide_eq_true q183_; obtain ⟨ad281, e281, hx281_0⟩ := Kd.at_int HR0.out x5_1 p281 q281; cases e281; replace p281 := eq_true p281; replace q281 := eq_true q281; have p282 : 0 ≤ (x5_1 : Int) := of_decide_eq_true q183_; have q282 : x5_1 < (l1.length : Int) := of_decide_eq_true q183_; obtain ⟨ad282, e282, hx282_0⟩ := Kd.at_int HR1.out x5_1 p282 q282; cases e282; replace p282 := eq_true p282; replace q282 := eq_true q282
        go_wp2
        repeat (go_quiet (fail); try go_wp2)
        go_ret
        exact ⟨q184_, q180_⟩
      ·rw [if_neg c6] at H
       exact absurd H (by simp)
     ·rw [if_neg c5] at H
      exact absurd H (by simp)
    ·rw [if_neg c4] at H
     have c4b0 : decide (x5_1 < (l0.length : Int)) = false := decide_eq_false c4; clear c4; obtain rfl := Option.some.inj H
     go_wp2
     repeat (go_quiet (fail); try go_wp2)
     go_ret
     exact ⟨q184_, q180_⟩
 ·rw [if_neg c3] at H
  have c3b0 : ((l0.length : Int) == (l1.length : Int)) = false := beq_eq_false_iff_ne.mpr c3; have c3b1 : ((l0.length : Int) != (l1.length : Int)) = true := bne_iff_ne.mpr c3; have c3b2 : (l0.length == l1.length) = false := by first | simpa using c3 | (simp at c3 ⊢; omega)
  obtain rfl := Option.some.inj H
  go_enter Try.func44, Try.ntmps44
  go_wp2
  repeat (go_quiet (fail); try go_wp2)
  go_ret
  exact ⟨q184_, q180_⟩


def tilefarmref4_Equal.f (k : Nat) (a0_0 : Int) (a0_1 : Int) (a0_2 : Int) (l0_3 : List Int) (a1_0 : Int) (a1_1 : Int) (a1_2 : Int) (l1_3 : List Int) : Option (Bool) := if a0_0 = a1_0 then (if a0_1 = a1_1 then (if a0_2 = a1_2 then ((tilefarmref4_Same.f k l0_3 l1_3).bind fun t285 => (some t285)) else (some false)) else (some false)) else (some false)
theorem tilefarmref4_Equal.mono : ∀ a0 a1 a2 a3 a4 a5 a6 a7 k, LeO (tilefarmref4_Equal.f k a0 a1 a2 a3 a4 a5 a6 a7) (tilefarmref4_Equal.f (k + 1) a0 a1 a2 a3 a4 a5 a6 a7) := by
 intro a0 a1 a2 a3 a4 a5 a6 a7 k; unfold tilefarmref4_Equal.f
 repeat' first
   | (with_reducible exact tilefarmref4_Same.mono _ _ _)
   | (with_reducible exact LeO.refl _)
   | (with_reducible exact LeO.none _)
   | (with_reducible refine LeO.ite ?_ ?_)
   | (with_reducible refine LeO.bind ?_ (fun _ => ?_))
   | exact tilefarmref4_Same.mono _ _ _
   | exact LeO.none _
   | refine LeO.ite ?_ ?_
   | refine LeO.bind ?_ (fun _ => ?_)
set_option maxHeartbeats 8000000 in
set_option maxRecDepth 100000 in
theorem tilefarmref4_Equal.calls (k : Nat) (a0_0 : Int) (a0_1 : Int) (a0_2 : Int) (A0_3 : Option Addr) (c0_3 : Nat) (l0_3 : List Int) (a1_0 : Int) (a1_1 : Int) (a1_2 : Int) (A1_3 : Option Addr) (c1_3 : Nat) (l1_3 : List Int) (r : Bool) (w : World) (hr0_3 : Kd.C (Kd.int .i64) w A0_3 l0_3.length l0_3) (hc0_3 : l0_3.length ≤ c0_3) (hr1_3 : Kd.C (Kd.int .i64) w A1_3 l1_3.length l1_3) (hc1_3 : l1_3.length ≤ c1_3) (h : tilefarmref4_Equal.f k a0_0 a0_1 a0_2 l0_3 a1_0 a1_1 a1_2 l1_3 = some r) :
  Calls Try.prog 21 #[.agg #[.int .i64 a0_0, .int .i64 a0_1, .int .i64 a0_2, .slice A0_3 l0_3.length c0_3], .agg #[.int .i64 a1_0, .int .i64 a1_1, .int .i64 a1_2, .slice A1_3 l1_3.length c1_3]] w fun e w' => e = .returned (.bool r) ∧ Below w.heap.size w w' := by
 have hu26 := Try.underlying26; have HR0_3 := am_ hr0_3; have HC0_3 := am_ hc0_3; clear hr0_3 hc0_3; have HR1_3 := am_ hr1_3; have HC1_3 := am_ hc1_3; clear hr1_3 hc1_3; have HB := am_ (Below.refl w.heap.size w); have H : (if a0_0 = a1_0 then (if a0_1 = a1_1 then (if a0_2 = a1_2 then ((tilefarmref4_Same.f k l0_3 l1_3).bind fun t285 => (some t285)) else (some false)) else (some false)) else (some false)) = some r := h; clear h
 by_cases c3 : a0_0 = a1_0
 ·rw [if_pos c3] at H
  have c3b0 : (a0_0 == a1_0) = true := beq_iff_eq.mpr c3; have c3b1 : (a0_0 != a1_0) = false := bne_eq_false_iff_eq.mpr c3; clear c3
  by_cases c4 : a0_1 = a1_1
  ·rw [if_pos c4] at H
   have c4b0 : (a0_1 == a1_1) = true := beq_iff_eq.mpr c4; have c4b1 : (a0_1 != a1_1) = false := bne_eq_false_iff_eq.mpr c4; clear c4
   by_cases c5 : a0_2 = a1_2
   ·rw [if_pos c5] at H
    have c5b0 : (a0_2 == a1_2) = true := beq_iff_eq.mpr c5; have c5b1 : (a0_2 != a1_2) = false := bne_eq_false_iff_eq.mpr c5; clear c5; replace H := Option.bind_eq_some_iff.mp H; obtain ⟨t285, A60, H⟩ := H; replace H : (some t285) = some r := H; have A6 := am_ A60; clear A60; obtain rfl := Option.some.inj H
    go_enter Try.func21, Try.ntmps21
    go_wp2_with (first | ((with_reducible refine gate_dst (N := 2) rfl ?_); refine box_event ?hg (N := 2) ?hd (cs := #[.int .i64 a0_0, .int .i64 a0_1, .int .i64 a0_2, .slice A0_3 l0_3.length c0_3]) (t := 26) ?hr ?_; (case hd => rfl); (case hg => rfl); (case hr => first | (go_simp; done) | (go_simp; rfl)); intro gb283 hg w7 hbox hb; have n0_ := am_ (below_step q120_ hb); have n1_ := am_ (hbox); have n2_ := am_ ((q88_ : w.heap.size ≤ gb283)); have n3_ := am_ ((q88_ : w.heap.size ≤ gb283)); clear HB; have HB := n0_; have BK283 := n1_; have GW283 := n2_; have GE283 := n3_; clear n0_ n1_ n2_ n3_; clear hb hbox hg) | ((with_reducible refine gate_dst (N := 3) rfl ?_); refine box_event ?hg (N := 3) ?hd (cs := #[.int .i64 a1_0, .int .i64 a1_1, .int .i64 a1_2, .slice A1_3 l1_3.length c1_3]) (t := 26) ?hr ?_; (case hd => rfl); (case hg => rfl); (case hr => first | (go_simp; done) | (go_simp; rfl)); intro gb284 hg w8 hbox hb; have n0_ := am_ (blk_below (g := gb283) (o := .cells #[.int .i64 a0_0, .int .i64 a0_1, .int .i64 a0_2, .slice A0_3 l0_3.length c0_3] 26 (0, 0)) q146_ hb); have n1_ := am_ (below_step q101_ hb); have n2_ := am_ (hbox); have n3_ := am_ ((q69_ : w.heap.size ≤ gb284)); have n4_ := am_ ((q69_ : w.heap.size ≤ gb284)); have n5_ := am_ ((q9_ : gb283 ≠ gb284)); have n6_ := am_ ((q10_ : gb284 ≠ gb283)); clear BK283 HB; have BK283 := n0_; have HB := n1_; have BK284 := n2_; have GW284 := n3_; have GE284 := n4_; have NB283_284 := n5_; have NB284_283 := n6_; clear n0_ n1_ n2_ n3_ n4_ n5_ n6_; clear hb hbox hg; have hnb9 := NB283_284.out; have hnc9 := NB284_283.out; have hcz10_0 : w8.cell? ⟨gb283, 0, none⟩ = some (.int .i64 a0_0) := (blk_cell BK283.out 0).trans rfl; have hcz10_1 : w8.cell? ⟨gb283, 1, none⟩ = some (.int .i64 a0_1) := (blk_cell BK283.out 1).trans rfl; have hcz10_2 : w8.cell? ⟨gb283, 2, none⟩ = some (.int .i64 a0_2) := (blk_cell BK283.out 2).trans rfl; have hcz10_3 : w8.cell? ⟨gb283, 3, none⟩ = some (.slice A0_3 l0_3.length c0_3) := (blk_cell BK283.out 3).trans rfl; have hfz10_0 := blk_frozen BK283.out 0; have hfz10_1 := blk_frozen BK283.out 1; have hfz10_2 := blk_frozen BK283.out 2; have hfz10_3 := blk_frozen BK283.out 3; have hcz11_0 : w8.cell? ⟨gb284, 0, none⟩ = some (.int .i64 a1_0) := (blk_cell BK284.out 0).trans rfl; have hcz11_1 : w8.cell? ⟨gb284, 1, none⟩ = some (.int .i64 a1_1) := (blk_cell BK284.out 1).trans rfl; have hcz11_2 : w8.cell? ⟨gb284, 2, none⟩ = some (.int .i64 a1_2) := (blk_cell BK284.out 2).trans rfl; have hcz11_3 : w8.cell? ⟨gb284, 3, none⟩ = some (.slice A1_3 l1_3.length c1_3) := (blk_cell BK284.out 3).trans rfl; have hfz11_0 := blk_frozen BK284.out 0; have hfz11_1 := blk_frozen BK284.out 1; have hfz11_2 := blk_frozen BK284.out 2; have hfz11_3 := blk_frozen BK284.out 3) | (go_at_call 44; (with_reducible refine (tilefarmref4_Same.calls k _ _ l0_3 _ _ l1_3 t285 _ ?side1 ?side2 ?side3 ?side4 A6.out).mono ?_); (case side1 => repeat (first | exact (Kd.C_below HR0_3.out HB.out) | (with_reducible refine Kd.C_alloc ?_ _) | (with_reducible refine Kd.C_drewN ?_ _) | (with_reducible refine Kd.C_drew ?_))); (case side2 => exact HC0_3.out); (case side3 => repeat (first | exact (Kd.C_below HR1_3.out HB.out) | (with_reducible refine Kd.C_alloc ?_ _) | (with_reducible refine Kd.C_drewN ?_ _) | (with_reducible refine Kd.C_drew ?_))); (case side4 => exact HC1_3.out); rintro e w' ⟨rfl, ⟨nd, rfl⟩⟩))
    go_ret
    exact ⟨q179_, q78_⟩
   ·rw [if_neg c5] at H
    have c5b0 : (a0_2 == a1_2) = false := beq_eq_false_iff_ne.mpr c5; have c5b1 : (a0_2 != a1_2) = true := bne_iff_ne.mpr c5; obtain rfl := Option.some.inj H
    go_enter Try.func21, Try.ntmps21
    go_wp2_with (first | ((with_reducible refine gate_dst (N := 2) rfl ?_); refine box_event ?hg (N := 2) ?hd (cs := #[.int .i64 a0_0, .int .i64 a0_1, .int .i64 a0_2, .slice A0_3 l0_3.length c0_3]) (t := 26) ?hr ?_; (case hd => rfl); (case hg => rfl); (case hr => first | (go_simp; done) | (go_simp; rfl)); intro gb283 hg w12 hbox hb; have n0_ := am_ (below_step q120_ hb); have n1_ := am_ (hbox); have n2_ := am_ ((q88_ : w.heap.size ≤ gb283)); have n3_ := am_ ((q88_ : w.heap.size ≤ gb283)); clear HB; have HB := n0_; have BK283 := n1_; have GW283 := n2_; have GE283 := n3_; clear n0_ n1_ n2_ n3_; clear hb hbox hg) | ((with_reducible refine gate_dst (N := 3) rfl ?_); refine box_event ?hg (N := 3) ?hd (cs := #[.int .i64 a1_0, .int .i64 a1_1, .int .i64 a1_2, .slice A1_3 l1_3.length c1_3]) (t := 26) ?hr ?_; (case hd => rfl); (case hg => rfl); (case hr => first | (go_simp; done) | (go_simp; rfl)); intro gb284 hg w13 hbox hb; have n0_ := am_ (blk_below (g := gb283) (o := .cells #[.int .i64 a0_0, .int .i64 a0_1, .int .i64 a0_2, .slice A0_3 l0_3.length c0_3] 26 (0, 0)) q146_ hb); have n1_ := am_ (below_step q101_ hb); have n2_ := am_ (hbox); have n3_ := am_ ((q69_ : w.heap.size ≤ gb284)); have n4_ := am_ ((q69_ : w.heap.size ≤ gb284)); have n5_ := am_ ((q9_ : gb283 ≠ gb284)); have n6_ := am_ ((q10_ : gb284 ≠ gb283)); clear BK283 HB; have BK283 := n0_; have HB := n1_; have BK284 := n2_; have GW284 := n3_; have GE284 := n4_; have NB283_284 := n5_; have NB284_283 := n6_; clear n0_ n1_ n2_ n3_ n4_ n5_ n6_; clear hb hbox hg; have hnb14 := NB283_284.out; have hnc14 := NB284_283.out; have hcz15_0 : w13.cell? ⟨gb283, 0, none⟩ = some (.int .i64 a0_0) := (blk_cell BK283.out 0).trans rfl; have hcz15_1 : w13.cell? ⟨gb283, 1, none⟩ = some (.int .i64 a0_1) := (blk_cell BK283.out 1).trans rfl; have hcz15_2 : w13.cell? ⟨gb283, 2, none⟩ = some (.int .i64 a0_2) := (blk_cell BK283.out 2).trans rfl; have hcz15_3 : w13.cell? ⟨gb283, 3, none⟩ = some (.slice A0_3 l0_3.length c0_3) := (blk_cell BK283.out 3).trans rfl; have hfz15_0 := blk_frozen BK283.out 0; have hfz15_1 := blk_frozen BK283.out 1; have hfz15_2 := blk_frozen BK283.out 2; have hfz15_3 := blk_frozen BK283.out 3; have hcz16_0 : w13.cell? ⟨gb284, 0, none⟩ = some (.int .i64 a1_0) := (blk_cell BK284.out 0).trans rfl; have hcz16_1 : w13.cell? ⟨gb284, 1, none⟩ = some (.int .i64 a1_1) := (blk_cell BK284.out 1).trans rfl; have hcz16_2 : w13.cell? ⟨gb284, 2, none⟩ = some (.int .i64 a1_2) := (blk_cell BK284.out 2).trans rfl; have hcz16_3 : w13.cell? ⟨gb284, 3, none⟩ = some (.slice A1_3 l1_3.length c1_3) := (blk_cell BK284.out 3).trans rfl; have hfz16_0 := blk_frozen BK284.out 0; have hfz16_1 := blk_frozen BK284.out 1; have hfz16_2 := blk_frozen BK284.out 2; have hfz16_3 := blk_frozen BK284.out 3))
    go_ret
    exact ⟨q179_, q78_⟩
  ·rw [if_neg c4] at H
   have c4b0 : (a0_1 == a1_1) = false := beq_eq_false_iff_ne.mpr c4; have c4b1 : (a0_1 != a1_1) = true := bne_iff_ne.mpr c4; obtain rfl := Option.some.inj H
   go_enter Try.func21, Try.ntmps21
   go_wp2_with (first | ((with_reducible refine gate_dst (N := 2) rfl ?_); refine box_event ?hg (N := 2) ?hd (cs := #[.int .i64 a0_0, .int .i64 a0_1, .int .i64 a0_2, .slice A0_3 l0_3.length c0_3]) (t := 26) ?hr ?_; (case hd => rfl); (case hg => rfl); (case hr => first | (go_simp; done) | (go_simp; rfl)); intro gb283 hg w17 hbox hb; have n0_ := am_ (below_step q120_ hb); have n1_ := am_ (hbox); have n2_ := am_ ((q88_ : w.heap.size ≤ gb283)); have n3_ := am_ ((q88_ : w.heap.size ≤ gb283)); clear HB; have HB := n0_; have BK283 := n1_; have GW283 := n2_; have GE283 := n3_; clear n0_ n1_ n2_ n3_; clear hb hbox hg) | ((with_reducible refine gate_dst (N := 3) rfl ?_); refine box_event ?hg (N := 3) ?hd (cs := #[.int .i64 a1_0, .int .i64 a1_1, .int .i64 a1_2, .slice A1_3 l1_3.length c1_3]) (t := 26) ?hr ?_; (case hd => rfl); (case hg => rfl); (case hr => first | (go_simp; done) | (go_simp; rfl)); intro gb284 hg w18 hbox hb; have n0_ := am_ (blk_below (g := gb283) (o := .cells #[.int .i64 a0_0, .int .i64 a0_1, .int .i64 a0_2, .slice A0_3 l0_3.length c0_3] 26 (0, 0)) q146_ hb); have n1_ := am_ (below_step q101_ hb); have n2_ := am_ (hbox); have n3_ := am_ ((q69_ : w.heap.size ≤ gb284)); have n4_ := am_ ((q69_ : w.heap.size ≤ gb284)); have n5_ := am_ ((q9_ : gb283 ≠ gb284)); have n6_ := am_ ((q10_ : gb284 ≠ gb283)); clear BK283 HB; have BK283 := n0_; have HB := n1_; have BK284 := n2_; have GW284 := n3_; have GE284 := n4_; have NB283_284 := n5_; have NB284_283 := n6_; clear n0_ n1_ n2_ n3_ n4_ n5_ n6_; clear hb hbox hg; have hnb19 := NB283_284.out; have hnc19 := NB284_283.out; have hcz20_0 : w18.cell? ⟨gb283, 0, none⟩ = some (.int .i64 a0_0) := (blk_cell BK283.out 0).trans rfl; have hcz20_1 : w18.cell? ⟨gb283, 1, none⟩ = some (.int .i64 a0_1) := (blk_cell BK283.out 1).trans rfl; have hcz20_2 : w18.cell? ⟨gb283, 2, none⟩ = some (.int .i64 a0_2) := (blk_cell BK283.out 2).trans rfl; have hcz20_3 : w18.cell? ⟨gb283, 3, none⟩ = some (.slice A0_3 l0_3.length c0_3) := (blk_cell BK283.out 3).trans rfl; have hfz20_0 := blk_frozen BK283.out 0; have hfz20_1 := blk_frozen BK283.out 1; have hfz20_2 := blk_frozen BK283.out 2; have hfz20_3 := blk_frozen BK283.out 3; have hcz21_0 : w18.cell? ⟨gb284, 0, none⟩ = some (.int .i64 a1_0) := (blk_cell BK284.out 0).trans rfl; have hcz21_1 : w18.cell? ⟨gb284, 1, none⟩ = some (.int .i64 a1_1) := (blk_cell BK284.out 1).trans rfl; have hcz21_2 : w18.cell? ⟨gb284, 2, none⟩ = some (.int .i64 a1_2) := (blk_cell BK284.out 2).trans rfl; have hcz21_3 : w18.cell? ⟨gb284, 3, none⟩ = some (.slice A1_3 l1_3.length c1_3) := (blk_cell BK284.out 3).trans rfl; have hfz21_0 := blk_frozen BK284.out 0; have hfz21_1 := blk_frozen BK284.out 1; have hfz21_2 := blk_frozen BK284.out 2; have hfz21_3 := blk_frozen BK284.out 3))
   go_ret
   exact ⟨q179_, q78_⟩
 ·rw [if_neg c3] at H
  have c3b0 : (a0_0 == a1_0) = false := beq_eq_false_iff_ne.mpr c3; have c3b1 : (a0_0 != a1_0) = true := bne_iff_ne.mpr c3; obtain rfl := Option.some.inj H
  go_enter Try.func21, Try.ntmps21
  go_wp2_with (first | ((with_reducible refine gate_dst (N := 2) rfl ?_); refine box_event ?hg (N := 2) ?hd (cs := #[.int .i64 a0_0, .int .i64 a0_1, .int .i64 a0_2, .slice A0_3 l0_3.length c0_3]) (t := 26) ?hr ?_; (case hd => rfl); (case hg => rfl); (case hr => first | (go_simp; done) | (go_simp; rfl)); intro gb283 hg w22 hbox hb; have n0_ := am_ (below_step q120_ hb); have n1_ := am_ (hbox); have n2_ := am_ ((q88_ : w.heap.size ≤ gb283)); have n3_ := am_ ((q88_ : w.heap.size ≤ gb283)); clear HB; have HB := n0_; have BK283 := n1_; have GW283 := n2_; have GE283 := n3_; clear n0_ n1_ n2_ n3_; clear hb hbox hg) | ((with_reducible refine gate_dst (N := 3) rfl ?_); refine box_event ?hg (N := 3) ?hd (cs := #[.int .i64 a1_0, .int .i64 a1_1, .int .i64 a1_2, .slice A1_3 l1_3.length c1_3]) (t := 26) ?hr ?_; (case hd => rfl); (case hg => rfl); (case hr => first | (go_simp; done) | (go_simp; rfl)); intro gb284 hg w23 hbox hb; have n0_ := am_ (blk_below (g := gb283) (o := .cells #[.int .i64 a0_0, .int .i64 a0_1, .int .i64 a0_2, .slice A0_3 l0_3.length c0_3] 26 (0, 0)) q146_ hb); have n1_ := am_ (below_step q101_ hb); have n2_ := am_ (hbox); have n3_ := am_ ((q69_ : w.heap.size ≤ gb284)); have n4_ := am_ ((q69_ : w.heap.size ≤ gb284)); have n5_ := am_ ((q9_ : gb283 ≠ gb284)); have n6_ := am_ ((q10_ : gb284 ≠ gb283)); clear BK283 HB; have BK283 := n0_; have HB := n1_; have BK284 := n2_; have GW284 := n3_; have GE284 := n4_; have NB283_284 := n5_; have NB284_283 := n6_; clear n0_ n1_ n2_ n3_ n4_ n5_ n6_; clear hb hbox hg; have hnb24 := NB283_284.out; have hnc24 := NB284_283.out; have hcz25_0 : w23.cell? ⟨gb283, 0, none⟩ = some (.int .i64 a0_0) := (blk_cell BK283.out 0).trans rfl; have hcz25_1 : w23.cell? ⟨gb283, 1, none⟩ = some (.int .i64 a0_1) := (blk_cell BK283.out 1).trans rfl; have hcz25_2 : w23.cell? ⟨gb283, 2, none⟩ = some (.int .i64 a0_2) := (blk_cell BK283.out 2).trans rfl; have hcz25_3 : w23.cell? ⟨gb283, 3, none⟩ = some (.slice A0_3 l0_3.length c0_3) := (blk_cell BK283.out 3).trans rfl; have hfz25_0 := blk_frozen BK283.out 0; have hfz25_1 := blk_frozen BK283.out 1; have hfz25_2 := blk_frozen BK283.out 2; have hfz25_3 := blk_frozen BK283.out 3; have hcz26_0 : w23.cell? ⟨gb284, 0, none⟩ = some (.int .i64 a1_0) := (blk_cell BK284.out 0).trans rfl; have hcz26_1 : w23.cell? ⟨gb284, 1, none⟩ = some (.int .i64 a1_1) := (blk_cell BK284.out 1).trans rfl; have hcz26_2 : w23.cell? ⟨gb284, 2, none⟩ = some (.int .i64 a1_2) := (blk_cell BK284.out 2).trans rfl; have hcz26_3 : w23.cell? ⟨gb284, 3, none⟩ = some (.slice A1_3 l1_3.length c1_3) := (blk_cell BK284.out 3).trans rfl; have hfz26_0 := blk_frozen BK284.out 0; have hfz26_1 := blk_frozen BK284.out 1; have hfz26_2 := blk_frozen BK284.out 2; have hfz26_3 := blk_frozen BK284.out 3))
  go_ret
  exact ⟨q179_, q78_⟩


def tilefarmref1_Mul.f (a0 : Int) (a1 : Int) (a2 : Int) : Option (Int × Bool) := if a0 < 0 then (some (0, false)) else (if a1 < 0 then (some (0, false)) else (if a2 < 0 then (some (0, false)) else (if a1 > 0 then (if a1 = 0 then (none) else (if a0 > (wrap64 (Int.tdiv a2 a1)) then (some (0, false)) else (some (wrap64 (a0 * a1), true)))) else (some (wrap64 (a0 * a1), true)))))
set_option maxHeartbeats 8000000 in
set_option maxRecDepth 100000 in
theorem tilefarmref1_Mul.calls (a0 : Int) (a1 : Int) (a2 : Int) (r1 : Int) (r2 : Bool) (w : World) (h : tilefarmref1_Mul.f a0 a1 a2 = some (r1, r2)) :
  Calls Try.prog 55 #[.int .i64 a0, .int .i64 a1, .int .i64 a2] w fun e w' => e = .returned (.tuple #[.int .i64 r1, .bool r2]) ∧ Drawn0 w w' := by
 have H : (if a0 < 0 then (some (0, false)) else (if a1 < 0 then (some (0, false)) else (if a2 < 0 then (some (0, false)) else (if a1 > 0 then (if a1 = 0 then (none) else (if a0 > (wrap64 (Int.tdiv a2 a1)) then (some (0, false)) else (some (wrap64 (a0 * a1), true)))) else (some (wrap64 (a0 * a1), true)))))) = some (r1, r2) := h; clear h
 by_cases c4 : a0 < 0
 ·rw [if_pos c4] at H
  have c4b0 : decide (a0 < 0) = true := decide_eq_true c4; clear c4; simp only [Option.some.injEq, Prod.mk.injEq] at H; obtain ⟨rfl, rfl⟩ := H
  go_enter Try.func55, Try.ntmps55
  go_wp2
  go_ret2
  exact ⟨q184_, q180_⟩
 ·rw [if_neg c4] at H
  have c4b0 : decide (a0 < 0) = false := decide_eq_false c4; clear c4
  by_cases c5 : a1 < 0
  ·rw [if_pos c5] at H
   have c5b0 : decide (a1 < 0) = true := decide_eq_true c5; clear c5; simp only [Option.some.injEq, Prod.mk.injEq] at H; obtain ⟨rfl, rfl⟩ := H
   go_enter Try.func55, Try.ntmps55
   go_wp2
   go_ret2
   exact ⟨q184_, q180_⟩
  ·rw [if_neg c5] at H
   have c5b0 : decide (a1 < 0) = false := decide_eq_false c5; clear c5
   by_cases c6 : a2 < 0
   ·rw [if_pos c6] at H
    have c6b0 : decide (a2 < 0) = true := decide_eq_true c6; clear c6; simp only [Option.some.injEq, Prod.mk.injEq] at H; obtain ⟨rfl, rfl⟩ := H
    go_enter Try.func55, Try.ntmps55
    go_wp2
    go_ret2
    exact ⟨q184_, q180_⟩
   ·rw [if_neg c6] at H
    have c6b0 : decide (a2 < 0) = false := decide_eq_false c6; clear c6
    by_cases c7 : a1 > 0
    ·rw [if_pos c7] at H
     have c7b0 : decide (0 < a1) = true := decide_eq_true c7; clear c7
     by_cases c8 : a1 = 0
     ·rw [if_pos c8] at H
      exact absurd H (by simp)
     ·rw [if_neg c8] at H
      have c8b0 : (a1 == 0) = false := beq_eq_false_iff_ne.mpr c8; have c8b1 : (a1 != 0) = true := bne_iff_ne.mpr c8
      by_cases c9 : a0 > (wrap64 (Int.tdiv a2 a1))
      ·rw [if_pos c9] at H
       have c9b0 : decide ((wrap64 (Int.tdiv a2 a1)) < a0) = true := decide_eq_true c9; clear c9; simp only [Option.some.injEq, Prod.mk.injEq] at H; obtain ⟨rfl, rfl⟩ := H
       go_enter Try.func55, Try.ntmps55
       go_wp2
       go_ret2
       exact ⟨q184_, q180_⟩
      ·rw [if_neg c9] at H
       have c9b0 : decide ((wrap64 (Int.tdiv a2 a1)) < a0) = false := decide_eq_false c9; clear c9; simp only [Option.some.injEq, Prod.mk.injEq] at H; obtain ⟨rfl, rfl⟩ := H
       go_enter Try.func55, Try.ntmps55
       go_wp2
       go_ret2
       exact ⟨q184_, q180_⟩
    ·rw [if_neg c7] at H
     have c7b0 : decide (0 < a1) = false := decide_eq_false c7; clear c7; simp only [Option.some.injEq, Prod.mk.injEq] at H; obtain ⟨rfl, rfl⟩ := H
     go_enter Try.func55, Try.ntmps55
     go_wp2
     go_ret2
     exact ⟨q184_, q180_⟩


def tilefarmref13_Most.f (a0_0 : Int) (a0_1 : Int) (a0_2 : Int) : Option (Int × Bool) := (tilefarmref1_Mul.f a0_0 a0_1 4294967296).bind fun bt287 => (if bt287.2 = true then (if a0_0 < 1 then (some (0, false)) else (if a0_1 < 1 then (some (0, false)) else (if a0_2 < 1 then (some (0, false)) else ((tilefarmref1_Mul.f bt287.1 a0_2 4294967296).bind fun bt289 => (some (bt289.1, bt289.2)))))) else (some (0, false)))
set_option maxHeartbeats 8000000 in
set_option maxRecDepth 100000 in
theorem tilefarmref13_Most.calls (a0_0 : Int) (a0_1 : Int) (a0_2 : Int) (r1 : Int) (r2 : Bool) (w : World) (h : tilefarmref13_Most.f a0_0 a0_1 a0_2 = some (r1, r2)) :
  Calls Try.prog 36 #[.agg #[.int .i64 a0_0, .int .i64 a0_1, .int .i64 a0_2]] w fun e w' => e = .returned (.tuple #[.int .i64 r1, .bool r2]) ∧ Below w.heap.size w w' := by
 have hu40 := Try.underlying40; have HB := am_ (Below.refl w.heap.size w); have H : ((tilefarmref1_Mul.f a0_0 a0_1 4294967296).bind fun bt287 => (if bt287.2 = true then (if a0_0 < 1 then (some (0, false)) else (if a0_1 < 1 then (some (0, false)) else (if a0_2 < 1 then (some (0, false)) else ((tilefarmref1_Mul.f bt287.1 a0_2 4294967296).bind fun bt289 => (some (bt289.1, bt289.2)))))) else (some (0, false)))) = some (r1, r2) := h; clear h; replace H := Option.bind_eq_some_iff.mp H; obtain ⟨⟨t287, t288⟩, A20, H⟩ := H; replace H : (if t288 = true then (if a0_0 < 1 then (some (0, false)) else (if a0_1 < 1 then (some (0, false)) else (if a0_2 < 1 then (some (0, false)) else ((tilefarmref1_Mul.f t287 a0_2 4294967296).bind fun bt289 => (some (bt289.1, bt289.2)))))) else (some (0, false))) = some (r1, r2) := H; have A2 := am_ A20; clear A20
 by_cases c3 : t288 = true
 ·subst c3
  have H1 : (if a0_0 < 1 then (some (0, false)) else (if a0_1 < 1 then (some (0, false)) else (if a0_2 < 1 then (some (0, false)) else ((tilefarmref1_Mul.f t287 a0_2 4294967296).bind fun bt289 => (some (bt289.1, bt289.2)))))) = some (r1, r2) := by rw [if_pos rfl] at H; exact H
  clear H; have H := H1; clear H1
  by_cases c4 : a0_0 < 1
  ·rw [if_pos c4] at H
   have c4b0 : decide (a0_0 < 1) = true := decide_eq_true c4; clear c4; simp only [Option.some.injEq, Prod.mk.injEq] at H; obtain ⟨rfl, rfl⟩ := H
   go_enter Try.func36, Try.ntmps36
   go_wp2_with (first | ((with_reducible refine gate_dst (N := 1) rfl ?_); refine box_event ?hg (N := 1) ?hd (cs := #[.int .i64 a0_0, .int .i64 a0_1, .int .i64 a0_2]) (t := 40) ?hr ?_; (case hd => rfl); (case hg => rfl); (case hr => first | (go_simp; done) | (go_simp; rfl)); intro gb286 hg w5 hbox hb; have n0_ := am_ (below_step q120_ hb); have n1_ := am_ (hbox); have n2_ := am_ ((q88_ : w.heap.size ≤ gb286)); have n3_ := am_ ((q88_ : w.heap.size ≤ gb286)); clear HB; have HB := n0_; have BK286 := n1_; have GW286 := n2_; have GE286 := n3_; clear n0_ n1_ n2_ n3_; clear hb hbox hg; have hcz6_0 : w5.cell? ⟨gb286, 0, none⟩ = some (.int .i64 a0_0) := (blk_cell BK286.out 0).trans rfl; have hcz6_1 : w5.cell? ⟨gb286, 1, none⟩ = some (.int .i64 a0_1) := (blk_cell BK286.out 1).trans rfl; have hcz6_2 : w5.cell? ⟨gb286, 2, none⟩ = some (.int .i64 a0_2) := (blk_cell BK286.out 2).trans rfl; have hfz6_0 := blk_frozen BK286.out 0; have hfz6_1 := blk_frozen BK286.out 1; have hfz6_2 := blk_frozen BK286.out 2) | ((with_reducible refine gate_callee (f := 55) rfl ?_); refine goesL_ (some 11) rfl rfl Try.func55 (by kernel_rfl) rfl #[.int .i64 a0_0, .int .i64 a0_1, .int .i64 4294967296] rfl q117_ ?_; (with_reducible refine (tilefarmref1_Mul.calls a0_0 a0_1 4294967296 t287 true _ A2.out).mono ?_); rintro e w' ⟨rfl, ⟨nd, rfl⟩⟩; refine ⟨_, rfl, ?_⟩))
   go_ret2
   exact ⟨q179_, q102_⟩
  ·rw [if_neg c4] at H
   have c4b0 : decide (a0_0 < 1) = false := decide_eq_false c4; clear c4
   by_cases c7 : a0_1 < 1
   ·rw [if_pos c7] at H
    have c7b0 : decide (a0_1 < 1) = true := decide_eq_true c7; clear c7; simp only [Option.some.injEq, Prod.mk.injEq] at H; obtain ⟨rfl, rfl⟩ := H
    go_enter Try.func36, Try.ntmps36
    go_wp2_with (first | ((with_reducible refine gate_dst (N := 1) rfl ?_); refine box_event ?hg (N := 1) ?hd (cs := #[.int .i64 a0_0, .int .i64 a0_1, .int .i64 a0_2]) (t := 40) ?hr ?_; (case hd => rfl); (case hg => rfl); (case hr => first | (go_simp; done) | (go_simp; rfl)); intro gb286 hg w8 hbox hb; have n0_ := am_ (below_step q120_ hb); have n1_ := am_ (hbox); have n2_ := am_ ((q88_ : w.heap.size ≤ gb286)); have n3_ := am_ ((q88_ : w.heap.size ≤ gb286)); clear HB; have HB := n0_; have BK286 := n1_; have GW286 := n2_; have GE286 := n3_; clear n0_ n1_ n2_ n3_; clear hb hbox hg; have hcz9_0 : w8.cell? ⟨gb286, 0, none⟩ = some (.int .i64 a0_0) := (blk_cell BK286.out 0).trans rfl; have hcz9_1 : w8.cell? ⟨gb286, 1, none⟩ = some (.int .i64 a0_1) := (blk_cell BK286.out 1).trans rfl; have hcz9_2 : w8.cell? ⟨gb286, 2, none⟩ = some (.int .i64 a0_2) := (blk_cell BK286.out 2).trans rfl; have hfz9_0 := blk_frozen BK286.out 0; have hfz9_1 := blk_frozen BK286.out 1; have hfz9_2 := blk_frozen BK286.out 2) | ((with_reducible refine gate_callee (f := 55) rfl ?_); refine goesL_ (some 11) rfl rfl Try.func55 (by kernel_rfl) rfl #[.int .i64 a0_0, .int .i64 a0_1, .int .i64 4294967296] rfl q117_ ?_; (with_reducible refine (tilefarmref1_Mul.calls a0_0 a0_1 4294967296 t287 true _ A2.out).mono ?_); rintro e w' ⟨rfl, ⟨nd, rfl⟩⟩; refine ⟨_, rfl, ?_⟩))
    go_ret2
    exact ⟨q179_, q102_⟩
   ·rw [if_neg c7] at H
    have c7b0 : decide (a0_1 < 1) = false := decide_eq_false c7; clear c7
    by_cases c10 : a0_2 < 1
    ·rw [if_pos c10] at H
     have c10b0 : decide (a0_2 < 1) = true := decide_eq_true c10; clear c10; simp only [Option.some.injEq, Prod.mk.injEq] at H; obtain ⟨rfl, rfl⟩ := H
     go_enter Try.func36, Try.ntmps36
     go_wp2_with (first | ((with_reducible refine gate_dst (N := 1) rfl ?_); refine box_event ?hg (N := 1) ?hd (cs := #[.int .i64 a0_0, .int .i64 a0_1, .int .i64 a0_2]) (t := 40) ?hr ?_; (case hd => rfl); (case hg => rfl); (case hr => first | (go_simp; done) | (go_simp; rfl)); intro gb286 hg w11 hbox hb; have n0_ := am_ (below_step q120_ hb); have n1_ := am_ (hbox); have n2_ := am_ ((q88_ : w.heap.size ≤ gb286)); have n3_ := am_ ((q88_ : w.heap.size ≤ gb286)); clear HB; have HB := n0_; have BK286 := n1_; have GW286 := n2_; have GE286 := n3_; clear n0_ n1_ n2_ n3_; clear hb hbox hg; have hcz12_0 : w11.cell? ⟨gb286, 0, none⟩ = some (.int .i64 a0_0) := (blk_cell BK286.out 0).trans rfl; have hcz12_1 : w11.cell? ⟨gb286, 1, none⟩ = some (.int .i64 a0_1) := (blk_cell BK286.out 1).trans rfl; have hcz12_2 : w11.cell? ⟨gb286, 2, none⟩ = some (.int .i64 a0_2) := (blk_cell BK286.out 2).trans rfl; have hfz12_0 := blk_frozen BK286.out 0; have hfz12_1 := blk_frozen BK286.out 1; have hfz12_2 := blk_frozen BK286.out 2) | ((with_reducible refine gate_callee (f := 55) rfl ?_); refine goesL_ (some 11) rfl rfl Try.func55 (by kernel_rfl) rfl #[.int .i64 a0_0, .int .i64 a0_1, .int .i64 4294967296] rfl q117_ ?_; (with_reducible refine (tilefarmref1_Mul.calls a0_0 a0_1 4294967296 t287 true _ A2.out).mono ?_); rintro e w' ⟨rfl, ⟨nd, rfl⟩⟩; refine ⟨_, rfl, ?_⟩))
     go_ret2
     exact ⟨q179_, q102_⟩
    ·rw [if_neg c10] at H
     have c10b0 : decide (a0_2 < 1) = false := decide_eq_false c10; clear c10; replace H := Option.bind_eq_some_iff.mp H; obtain ⟨⟨t289, t290⟩, A130, H⟩ := H; replace H : (some (t289, t290)) = some (r1, r2) := H; have A13 := am_ A130; clear A130; simp only [Option.some.injEq, Prod.mk.injEq] at H; obtain ⟨rfl, rfl⟩ := H
     go_enter Try.func36, Try.ntmps36
     go_wp2_with (first | ((with_reducible refine gate_dst (N := 1) rfl ?_); refine box_event ?hg (N := 1) ?hd (cs := #[.int .i64 a0_0, .int .i64 a0_1, .int .i64 a0_2]) (t := 40) ?hr ?_; (case hd => rfl); (case hg => rfl); (case hr => first | (go_simp; done) | (go_simp; rfl)); intro gb286 hg w14 hbox hb; have n0_ := am_ (below_step q120_ hb); have n1_ := am_ (hbox); have n2_ := am_ ((q88_ : w.heap.size ≤ gb286)); have n3_ := am_ ((q88_ : w.heap.size ≤ gb286)); clear HB; have HB := n0_; have BK286 := n1_; have GW286 := n2_; have GE286 := n3_; clear n0_ n1_ n2_ n3_; clear hb hbox hg; have hcz15_0 : w14.cell? ⟨gb286, 0, none⟩ = some (.int .i64 a0_0) := (blk_cell BK286.out 0).trans rfl; have hcz15_1 : w14.cell? ⟨gb286, 1, none⟩ = some (.int .i64 a0_1) := (blk_cell BK286.out 1).trans rfl; have hcz15_2 : w14.cell? ⟨gb286, 2, none⟩ = some (.int .i64 a0_2) := (blk_cell BK286.out 2).trans rfl; have hfz15_0 := blk_frozen BK286.out 0; have hfz15_1 := blk_frozen BK286.out 1; have hfz15_2 := blk_frozen BK286.out 2) | ((with_reducible refine gate_callee (f := 55) rfl ?_); refine goesL_ (some 11) rfl rfl Try.func55 (by kernel_rfl) rfl #[.int .i64 a0_0, .int .i64 a0_1, .int .i64 4294967296] rfl q117_ ?_; (with_reducible refine (tilefarmref1_Mul.calls a0_0 a0_1 4294967296 t287 true _ A2.out).mono ?_); rintro e w' ⟨rfl, ⟨nd, rfl⟩⟩; refine ⟨_, rfl, ?_⟩) | ((with_reducible refine gate_callee (f := 55) rfl ?_); refine goesL_ (some 34) rfl rfl Try.func55 (by kernel_rfl) rfl #[.int .i64 t287, .int .i64 a0_2, .int .i64 4294967296] rfl q117_ ?_; (with_reducible refine (tilefarmref1_Mul.calls t287 a0_2 4294967296 t289 t290 _ A13.out).mono ?_); rintro e w' ⟨rfl, ⟨nd, rfl⟩⟩; refine ⟨_, rfl, ?_⟩))
     go_ret2
     exact ⟨q179_, q102_⟩
 ·replace c3 := Bool.eq_false_iff.mpr c3
  subst c3; have H1 : (some (0, false)) = some (r1, r2) := by rw [if_neg (show ¬ (false = true) by decide)] at H; exact H
  clear H; have H := H1; clear H1; simp only [Option.some.injEq, Prod.mk.injEq] at H; obtain ⟨rfl, rfl⟩ := H
  go_enter Try.func36, Try.ntmps36
  go_wp2_with (first | ((with_reducible refine gate_dst (N := 1) rfl ?_); refine box_event ?hg (N := 1) ?hd (cs := #[.int .i64 a0_0, .int .i64 a0_1, .int .i64 a0_2]) (t := 40) ?hr ?_; (case hd => rfl); (case hg => rfl); (case hr => first | (go_simp; done) | (go_simp; rfl)); intro gb286 hg w16 hbox hb; have n0_ := am_ (below_step q120_ hb); have n1_ := am_ (hbox); have n2_ := am_ ((q88_ : w.heap.size ≤ gb286)); have n3_ := am_ ((q88_ : w.heap.size ≤ gb286)); clear HB; have HB := n0_; have BK286 := n1_; have GW286 := n2_; have GE286 := n3_; clear n0_ n1_ n2_ n3_; clear hb hbox hg; have hcz17_0 : w16.cell? ⟨gb286, 0, none⟩ = some (.int .i64 a0_0) := (blk_cell BK286.out 0).trans rfl; have hcz17_1 : w16.cell? ⟨gb286, 1, none⟩ = some (.int .i64 a0_1) := (blk_cell BK286.out 1).trans rfl; have hcz17_2 : w16.cell? ⟨gb286, 2, none⟩ = some (.int .i64 a0_2) := (blk_cell BK286.out 2).trans rfl; have hfz17_0 := blk_frozen BK286.out 0; have hfz17_1 := blk_frozen BK286.out 1; have hfz17_2 := blk_frozen BK286.out 2) | ((with_reducible refine gate_callee (f := 55) rfl ?_); refine goesL_ (some 11) rfl rfl Try.func55 (by kernel_rfl) rfl #[.int .i64 a0_0, .int .i64 a0_1, .int .i64 4294967296] rfl q117_ ?_; (with_reducible refine (tilefarmref1_Mul.calls a0_0 a0_1 4294967296 t287 false _ A2.out).mono ?_); rintro e w' ⟨rfl, ⟨nd, rfl⟩⟩; refine ⟨_, rfl, ?_⟩))
  go_ret2
  exact ⟨q179_, q102_⟩


def tilefarmref4_Size.f (a0 : Int) (a1 : Int) (a2 : Int) : Option (Bool) := if a0 ≥ 1 then (if a0 ≤ 128 then (if a1 ≥ 1 then (if a1 ≤ 128 then (if (wrap64 (a0 * a1)) ≤ 4096 then (if a2 ≥ 1 then (some (decide (a2 ≤ 4294967296))) else (some false)) else (some false)) else (some false)) else (some false)) else (some false)) else (some false)
set_option maxHeartbeats 8000000 in
set_option maxRecDepth 100000 in
theorem tilefarmref4_Size.calls (a0 : Int) (a1 : Int) (a2 : Int) (r : Bool) (w : World) (h : tilefarmref4_Size.f a0 a1 a2 = some r) :
  Calls Try.prog 56 #[.int .i64 a0, .int .i64 a1, .int .i64 a2] w fun e w' => e = .returned (.bool r) ∧ Drawn0 w w' := by
 have H : (if a0 ≥ 1 then (if a0 ≤ 128 then (if a1 ≥ 1 then (if a1 ≤ 128 then (if (wrap64 (a0 * a1)) ≤ 4096 then (if a2 ≥ 1 then (some (decide (a2 ≤ 4294967296))) else (some false)) else (some false)) else (some false)) else (some false)) else (some false)) else (some false)) = some r := h; clear h
 by_cases c4 : a0 ≥ 1
 ·rw [if_pos c4] at H
  have c4b0 : decide (1 ≤ a0) = true := decide_eq_true c4; clear c4
  by_cases c5 : a0 ≤ 128
  ·rw [if_pos c5] at H
   have c5b0 : decide (a0 ≤ 128) = true := decide_eq_true c5; clear c5
   by_cases c6 : a1 ≥ 1
   ·rw [if_pos c6] at H
    have c6b0 : decide (1 ≤ a1) = true := decide_eq_true c6; clear c6
    by_cases c7 : a1 ≤ 128
    ·rw [if_pos c7] at H
     have c7b0 : decide (a1 ≤ 128) = true := decide_eq_true c7; clear c7
     by_cases c8 : (wrap64 (a0 * a1)) ≤ 4096
     ·rw [if_pos c8] at H
      have c8b0 : decide ((wrap64 (a0 * a1)) ≤ 4096) = true := decide_eq_true c8; clear c8
      by_cases c9 : a2 ≥ 1
      ·rw [if_pos c9] at H
       have c9b0 : decide (1 ≤ a2) = true := decide_eq_true c9; clear c9; obtain rfl := Option.some.inj H
       go_enter Try.func56, Try.ntmps56
       go_wp2
       go_ret
       exact ⟨q184_, q180_⟩
      ·rw [if_neg c9] at H
       have c9b0 : decide (1 ≤ a2) = false := decide_eq_false c9; clear c9; obtain rfl := Option.some.inj H
       go_enter Try.func56, Try.ntmps56
       go_wp2
       go_ret
       exact ⟨q184_, q180_⟩
     ·rw [if_neg c8] at H
      have c8b0 : decide ((wrap64 (a0 * a1)) ≤ 4096) = false := decide_eq_false c8; clear c8; obtain rfl := Option.some.inj H
      go_enter Try.func56, Try.ntmps56
      go_wp2
      go_ret
      exact ⟨q184_, q180_⟩
    ·rw [if_neg c7] at H
     have c7b0 : decide (a1 ≤ 128) = false := decide_eq_false c7; clear c7; obtain rfl := Option.some.inj H
     go_enter Try.func56, Try.ntmps56
     go_wp2
     go_ret
     exact ⟨q184_, q180_⟩
   ·rw [if_neg c6] at H
    have c6b0 : decide (1 ≤ a1) = false := decide_eq_false c6; clear c6; obtain rfl := Option.some.inj H
    go_enter Try.func56, Try.ntmps56
    go_wp2
    go_ret
    exact ⟨q184_, q180_⟩
  ·rw [if_neg c5] at H
   have c5b0 : decide (a0 ≤ 128) = false := decide_eq_false c5; clear c5; obtain rfl := Option.some.inj H
   go_enter Try.func56, Try.ntmps56
   go_wp2
   go_ret
   exact ⟨q184_, q180_⟩
 ·rw [if_neg c4] at H
  have c4b0 : decide (1 ≤ a0) = false := decide_eq_false c4; clear c4; obtain rfl := Option.some.inj H
  go_enter Try.func56, Try.ntmps56
  go_wp2
  go_ret
  exact ⟨q184_, q180_⟩


mutual
def tilefarmref4_Valid.j0 : Nat → Bool → Int → Int → Int → List Int → Option (Bool)
 | 0, _, _, _, _, _ => none
 | k + 1, x22, x292000, x292001, x292002, x292003 => if x22 = true then (some false) else (tilefarmref4_Valid.l0 k 0 x292000 x292001 x292002 x292003)
def tilefarmref4_Valid.l0 : Nat → Int → Int → Int → Int → List Int → Option (Bool)
 | 0, _, _, _, _, _ => none
 | k + 1, x3, x292000, x292001, x292002, x292003 => if x3 < (x292003.length : Int) then (if 0 ≤ x3 then (if (rd x292003 x3) < 0 then (some false) else (if (rd x292003 x3) > x292002 then (some false) else (tilefarmref4_Valid.l0 k (wrap64 (x3 + 1)) x292000 x292001 x292002 x292003))) else (none)) else (some true)
end
def tilefarmref4_Valid.f (k : Nat) (a0_0 : Int) (a0_1 : Int) (a0_2 : Int) (l0_3 : List Int) : Option (Bool) := (tilefarmref4_Size.f a0_0 a0_1 a0_2).bind fun t292 => (if t292 = true then (tilefarmref4_Valid.j0 k ((l0_3.length : Int) != (wrap64 (a0_0 * a0_1))) a0_0 a0_1 a0_2 l0_3) else (tilefarmref4_Valid.j0 k true a0_0 a0_1 a0_2 l0_3))
theorem tilefarmref4_Valid.mono_l : ∀ k, (∀ y0 y1 y2 y3 y4, LeO (tilefarmref4_Valid.j0 k y0 y1 y2 y3 y4) (tilefarmref4_Valid.j0 (k + 1) y0 y1 y2 y3 y4)) ∧ (∀ y0 y1 y2 y3 y4, LeO (tilefarmref4_Valid.l0 k y0 y1 y2 y3 y4) (tilefarmref4_Valid.l0 (k + 1) y0 y1 y2 y3 y4))
 | 0 => ⟨fun _ _ _ _ _ r h => by simp [tilefarmref4_Valid.j0] at h, fun _ _ _ _ _ r h => by simp [tilefarmref4_Valid.l0] at h⟩
 | k + 1 => by
  obtain ⟨ih0, ih1⟩ := tilefarmref4_Valid.mono_l k; refine ⟨?_, ?_⟩
  ·intro y0 y1 y2 y3 y4
   unfold tilefarmref4_Valid.j0
   repeat' first
   | (with_reducible exact ih0 _ _ _ _ _)
   | (with_reducible exact ih1 _ _ _ _ _)
   | (with_reducible exact LeO.refl _)
   | (with_reducible exact LeO.none _)
   | (with_reducible refine LeO.ite ?_ ?_)
   | (with_reducible refine LeO.bind ?_ (fun _ => ?_))
   | exact ih0 _ _ _ _ _
   | exact ih1 _ _ _ _ _
   | exact LeO.none _
   | refine LeO.ite ?_ ?_
   | refine LeO.bind ?_ (fun _ => ?_)
  ·intro y0 y1 y2 y3 y4
   unfold tilefarmref4_Valid.l0
   repeat' first
   | (with_reducible exact ih0 _ _ _ _ _)
   | (with_reducible exact ih1 _ _ _ _ _)
   | (with_reducible exact LeO.refl _)
   | (with_reducible exact LeO.none _)
   | (with_reducible refine LeO.ite ?_ ?_)
   | (with_reducible refine LeO.bind ?_ (fun _ => ?_))
   | exact ih0 _ _ _ _ _
   | exact ih1 _ _ _ _ _
   | exact LeO.none _
   | refine LeO.ite ?_ ?_
   | refine LeO.bind ?_ (fun _ => ?_)
theorem tilefarmref4_Valid.mono : ∀ a0 a1 a2 a3 k, LeO (tilefarmref4_Valid.f k a0 a1 a2 a3) (tilefarmref4_Valid.f (k + 1) a0 a1 a2 a3) := by
 intro a0 a1 a2 a3 k; obtain ⟨ih0, ih1⟩ := tilefarmref4_Valid.mono_l k; unfold tilefarmref4_Valid.f
 repeat' first
   | (with_reducible exact ih0 _ _ _ _ _)
   | (with_reducible exact ih1 _ _ _ _ _)
   | (with_reducible exact LeO.refl _)
   | (with_reducible exact LeO.none _)
   | (with_reducible refine LeO.ite ?_ ?_)
   | (with_reducible refine LeO.bind ?_ (fun _ => ?_))
   | exact ih0 _ _ _ _ _
   | exact ih1 _ _ _ _ _
   | exact LeO.none _
   | refine LeO.ite ?_ ?_
   | refine LeO.bind ?_ (fun _ => ?_)
set_option maxHeartbeats 8000000 in
set_option maxRecDepth 100000 in
theorem tilefarmref4_Valid.calls (k : Nat) (a0_0 : Int) (a0_1 : Int) (a0_2 : Int) (A0_3 : Option Addr) (c0_3 : Nat) (l0_3 : List Int) (r : Bool) (w : World) (hr0_3 : Kd.C (Kd.int .i64) w A0_3 l0_3.length l0_3) (hc0_3 : l0_3.length ≤ c0_3) (h : tilefarmref4_Valid.f k a0_0 a0_1 a0_2 l0_3 = some r) :
  Calls Try.prog 39 #[.agg #[.int .i64 a0_0, .int .i64 a0_1, .int .i64 a0_2, .slice A0_3 l0_3.length c0_3]] w fun e w' => e = .returned (.bool r) ∧ Below w.heap.size w w' := by
 have hu26 := Try.underlying26; have HR0_3 := am_ hr0_3; have HC0_3 := am_ hc0_3; clear hr0_3 hc0_3; have HB := am_ (Below.refl w.heap.size w); have H : ((tilefarmref4_Size.f a0_0 a0_1 a0_2).bind fun t292 => (if t292 = true then (tilefarmref4_Valid.j0 k ((l0_3.length : Int) != (wrap64 (a0_0 * a0_1))) a0_0 a0_1 a0_2 l0_3) else (tilefarmref4_Valid.j0 k true a0_0 a0_1 a0_2 l0_3))) = some r := h; clear h; have HC2 := am_ H; clear H
 go_enter Try.func39, Try.ntmps39
 go_upto_region 1 with (first | ((with_reducible refine gate_dst (N := 1) rfl ?_); (try (refine gate_guard (by rfl) ?_; dsimp only)); refine box_event ?hg (N := 1) ?hd (cs := #[.int .i64 a0_0, .int .i64 a0_1, .int .i64 a0_2, .slice A0_3 l0_3.length c0_3]) (t := 26) ?hr ?_; (case hd => rfl); (case hg => rfl); (case hr => first | (go_simp; done) | (go_simp; rfl)); intro gb291 hg w3 hbox hb; have n0_ := am_ (below_step q120_ hb); have n1_ := am_ (hbox); have n2_ := am_ ((q88_ : w.heap.size ≤ gb291)); have n3_ := am_ ((q88_ : w.heap.size ≤ gb291)); clear HB; have HB := n0_; have BK291 := n1_; have GW291 := n2_; have GE291 := n3_; clear n0_ n1_ n2_ n3_; clear hb hbox hg))
 repeat (go_quiet (first | ((with_reducible refine gate_dst (N := 1) rfl ?_); (try (refine gate_guard (by rfl) ?_; dsimp only)); refine box_event ?hg (N := 1) ?hd (cs := #[.int .i64 a0_0, .int .i64 a0_1, .int .i64 a0_2, .slice A0_3 l0_3.length c0_3]) (t := 26) ?hr ?_; (case hd => rfl); (case hg => rfl); (case hr => first | (go_simp; done) | (go_simp; rfl)); intro gb291 hg w3 hbox hb; have n0_ := am_ (below_step q120_ hb); have n1_ := am_ (hbox); have n2_ := am_ ((q88_ : w.heap.size ≤ gb291)); have n3_ := am_ ((q88_ : w.heap.size ≤ gb291)); clear HB; have HB := n0_; have BK291 := n1_; have GW291 := n2_; have GE291 := n3_; clear n0_ n1_ n2_ n3_; clear hb hbox hg)); go_upto_region 1 with (first | ((with_reducible refine gate_dst (N := 1) rfl ?_); (try (refine gate_guard (by rfl) ?_; dsimp only)); refine box_event ?hg (N := 1) ?hd (cs := #[.int .i64 a0_0, .int .i64 a0_1, .int .i64 a0_2, .slice A0_3 l0_3.length c0_3]) (t := 26) ?hr ?_; (case hd => rfl); (case hg => rfl); (case hr => first | (go_simp; done) | (go_simp; rfl)); intro gb291 hg w3 hbox hb; have n0_ := am_ (below_step q120_ hb); have n1_ := am_ (hbox); have n2_ := am_ ((q88_ : w.heap.size ≤ gb291)); have n3_ := am_ ((q88_ : w.heap.size ≤ gb291)); clear HB; have HB := n0_; have BK291 := n1_; have GW291 := n2_; have GE291 := n3_; clear n0_ n1_ n2_ n3_; clear hb hbox hg)))
 (try simp only [Act.put, la_, lz_, ls_])
 go_cut [22] (fun v22 wc => ∃ (kq : Nat) (x22_1 : Bool), v22 = .bool x22_1 ∧ Aside0 (tilefarmref4_Valid.j0 kq x22_1 a0_0 a0_1 a0_2 l0_3 = some r) ∧ Aside0 (kq ≤ k) ∧ Aside0 (wc.heap[gb291]? = some (.cells #[.int .i64 a0_0, .int .i64 a0_1, .int .i64 a0_2, (.slice A0_3 l0_3.length c0_3)] 26 (0, 0))) ∧ Aside0 (Below w.heap.size w wc))
 case first =>
  have H := HC2.out; clear HC2; replace H := Option.bind_eq_some_iff.mp H; obtain ⟨t292, A40, H⟩ := H; replace H : (if t292 = true then (tilefarmref4_Valid.j0 k ((l0_3.length : Int) != (wrap64 (a0_0 * a0_1))) a0_0 a0_1 a0_2 l0_3) else (tilefarmref4_Valid.j0 k true a0_0 a0_1 a0_2 l0_3)) = some r := H; have A4 := am_ A40; clear A40
  by_cases c5 : t292 = true
  ·subst c5
   have H1 : (tilefarmref4_Valid.j0 k ((l0_3.length : Int) != (wrap64 (a0_0 * a0_1))) a0_0 a0_1 a0_2 l0_3) = some r := by rw [if_pos rfl] at H; exact H
   clear H; have H := H1; clear H1; have H' := am_ H; clear H; have hcz6_0 : w3.cell? ⟨gb291, 0, none⟩ = some (.int .i64 a0_0) := (blk_cell BK291.out 0).trans rfl; have hcz6_1 : w3.cell? ⟨gb291, 1, none⟩ = some (.int .i64 a0_1) := (blk_cell BK291.out 1).trans rfl; have hcz6_2 : w3.cell? ⟨gb291, 2, none⟩ = some (.int .i64 a0_2) := (blk_cell BK291.out 2).trans rfl; have hcz6_3 : w3.cell? ⟨gb291, 3, none⟩ = some (.slice A0_3 l0_3.length c0_3) := (blk_cell BK291.out 3).trans rfl; have hfz6_0 := blk_frozen BK291.out 0; have hfz6_1 := blk_frozen BK291.out 1; have hfz6_2 := blk_frozen BK291.out 2; have hfz6_3 := blk_frozen BK291.out 3
   go_wp2_with (first | (go_at_call 56; (with_reducible refine (tilefarmref4_Size.calls a0_0 a0_1 a0_2 true _ A4.out).mono ?_); rintro e w' ⟨rfl, ⟨nd, rfl⟩⟩; (try first | exact ⟨rfl, _, World.drewN_drewN _ _ _⟩ | exact ⟨rfl, _, Eq.trans (World.drewN_drewN _ _ _) (congrArg (World.drewN _) (Nat.add_assoc _ _ _))⟩)))
   repeat (go_quiet (first | (go_at_call 56; (with_reducible refine (tilefarmref4_Size.calls a0_0 a0_1 a0_2 true _ A4.out).mono ?_); rintro e w' ⟨rfl, ⟨nd, rfl⟩⟩; (try first | exact ⟨rfl, _, World.drewN_drewN _ _ _⟩ | exact ⟨rfl, _, Eq.trans (World.drewN_drewN _ _ _) (congrArg (World.drewN _) (Nat.add_assoc _ _ _))⟩))); try go_wp2_with (first | (go_at_call 56; (with_reducible refine (tilefarmref4_Size.calls a0_0 a0_1 a0_2 true _ A4.out).mono ?_); rintro e w' ⟨rfl, ⟨nd, rfl⟩⟩; (try first | exact ⟨rfl, _, World.drewN_drewN _ _ _⟩ | exact ⟨rfl, _, Eq.trans (World.drewN_drewN _ _ _) (congrArg (World.drewN _) (Nat.add_assoc _ _ _))⟩))))
   go_meet
   case rel => exact ⟨_, (((l0_3.length : Int) != (wrap64 (a0_0 * a0_1)))), q184_, H', ⟨by first | omega | exact Nat.le_refl _⟩, ⟨q147_⟩, ⟨q103_⟩⟩
  ·replace c5 := Bool.eq_false_iff.mpr c5
   subst c5; have H1 : (tilefarmref4_Valid.j0 k true a0_0 a0_1 a0_2 l0_3) = some r := by rw [if_neg (show ¬ (false = true) by decide)] at H; exact H
   clear H; have H := H1; clear H1; have H' := am_ H; clear H; have hcz7_0 : w3.cell? ⟨gb291, 0, none⟩ = some (.int .i64 a0_0) := (blk_cell BK291.out 0).trans rfl; have hcz7_1 : w3.cell? ⟨gb291, 1, none⟩ = some (.int .i64 a0_1) := (blk_cell BK291.out 1).trans rfl; have hcz7_2 : w3.cell? ⟨gb291, 2, none⟩ = some (.int .i64 a0_2) := (blk_cell BK291.out 2).trans rfl; have hcz7_3 : w3.cell? ⟨gb291, 3, none⟩ = some (.slice A0_3 l0_3.length c0_3) := (blk_cell BK291.out 3).trans rfl; have hfz7_0 := blk_frozen BK291.out 0; have hfz7_1 := blk_frozen BK291.out 1; have hfz7_2 := blk_frozen BK291.out 2; have hfz7_3 := blk_frozen BK291.out 3
   go_wp2_with (first | (go_at_call 56; (with_reducible refine (tilefarmref4_Size.calls a0_0 a0_1 a0_2 false _ A4.out).mono ?_); rintro e w' ⟨rfl, ⟨nd, rfl⟩⟩; (try first | exact ⟨rfl, _, World.drewN_drewN _ _ _⟩ | exact ⟨rfl, _, Eq.trans (World.drewN_drewN _ _ _) (congrArg (World.drewN _) (Nat.add_assoc _ _ _))⟩)))
   repeat (go_quiet (first | (go_at_call 56; (with_reducible refine (tilefarmref4_Size.calls a0_0 a0_1 a0_2 false _ A4.out).mono ?_); rintro e w' ⟨rfl, ⟨nd, rfl⟩⟩; (try first | exact ⟨rfl, _, World.drewN_drewN _ _ _⟩ | exact ⟨rfl, _, Eq.trans (World.drewN_drewN _ _ _) (congrArg (World.drewN _) (Nat.add_assoc _ _ _))⟩))); try go_wp2_with (first | (go_at_call 56; (with_reducible refine (tilefarmref4_Size.calls a0_0 a0_1 a0_2 false _ A4.out).mono ?_); rintro e w' ⟨rfl, ⟨nd, rfl⟩⟩; (try first | exact ⟨rfl, _, World.drewN_drewN _ _ _⟩ | exact ⟨rfl, _, Eq.trans (World.drewN_drewN _ _ _) (congrArg (World.drewN _) (Nat.add_assoc _ _ _))⟩))))
   go_meet
   case rel => exact ⟨_, (true), q184_, H', ⟨by first | omega | exact Nat.le_refl _⟩, ⟨q147_⟩, ⟨q103_⟩⟩
 case rest =>
  clear HC2; (try clear p2); (try clear c3); (try clear c5); (try clear p6); (try clear hcz6_0); (try clear hcz6_1); (try clear hcz6_2); (try clear hcz6_3); (try clear hcz7_0); (try clear hcz7_1); (try clear hcz7_2); (try clear hcz7_3); (try clear hfz6_0); (try clear hfz6_1); (try clear hfz6_2); (try clear hfz6_3); (try clear hfz7_0); (try clear hfz7_1); (try clear hfz7_2); (try clear hfz7_3); obtain ⟨kq, x22_1, rfl, HA, HJ1, BK291, HB⟩ := hcut; cases kq with
  | zero => exact absurd HA.out (by simp [tilefarmref4_Valid.j0])
  | succ kj1 =>
   have H := HA.out; clear HA; simp only [tilefarmref4_Valid.j0] at H
   by_cases c8 : x22_1 = true
   ·subst c8
    have H1 : (some false) = some r := by rw [if_pos rfl] at H; exact H
    clear H; have H := H1; clear H1; obtain rfl := Option.some.inj H
    go_wp2
    repeat (go_quiet (fail); try go_wp2)
    go_ret
    exact ⟨q179_, q103_⟩
   ·replace c8 := Bool.eq_false_iff.mpr c8
    subst c8; have H1 : (tilefarmref4_Valid.l0 kj1 0 a0_0 a0_1 a0_2 l0_3) = some r := by rw [if_neg (show ¬ (false = true) by decide)] at H; exact H
    clear H; have H := H1; clear H1; have H' := am_ H; clear H
    go_wp2
    repeat (go_quiet (fail); try go_wp2)
    go_loopg [3] kj1 (fun kq v3 w' => ∃ (x3_2 : Int), v3 = .int .i64 x3_2 ∧ Aside0 (tilefarmref4_Valid.l0 kq x3_2 a0_0 a0_1 a0_2 l0_3 = some r) ∧ Aside0 (kq ≤ kj1) ∧ Aside0 (w'.heap[gb291]? = some (.cells #[.int .i64 a0_0, .int .i64 a0_1, .int .i64 a0_2, (.slice A0_3 l0_3.length c0_3)] 26 (0, 0))) ∧ Aside0 (Below w.heap.size w w'))
    case atStart => exact ⟨(0), q184_, H', ⟨Nat.le_refl _⟩, ⟨q147_⟩, ⟨q103_⟩⟩
    case round =>
     clear H'; (try clear p2); (try clear c3); (try clear c5); (try clear p6); (try clear c8); (try clear hcz6_0); (try clear hcz6_1); (try clear hcz6_2); (try clear hcz6_3); (try clear hcz7_0); (try clear hcz7_1); (try clear hcz7_2); (try clear hcz7_3); (try clear hfz6_0); (try clear hfz6_1); (try clear hfz6_2); (try clear hfz6_3); (try clear hfz7_0); (try clear hfz7_1); (try clear hfz7_2); (try clear hfz7_3); (try clear p2); (try clear p6); obtain ⟨x3_2, rfl, HA, HK2, BK291, HB⟩ := hrel; cases gk with
     | zero => exact absurd HA.out (by simp [tilefarmref4_Valid.l0])
     | succ k2 =>
      have H := HA.out; clear HA; simp only [tilefarmref4_Valid.l0] at H
      by_cases c9 : x3_2 < (l0_3.length : Int)
      ·rw [if_pos c9] at H
       have c9b0 : decide (x3_2 < (l0_3.length : Int)) = true := decide_eq_true c9; clear c9
       by_cases c10 : 0 ≤ x3_2
       ·rw [if_pos c10] at H
        have c10b0 : decide (0 ≤ x3_2) = true := decide_eq_true c10; clear c10
        by_cases c11 : (rd l0_3 x3_2) < 0
        ·rw [if_pos c11] at H
         have c11b0 : decide ((rd l0_3 x3_2) < 0) = true := decide_eq_true c11; clear c11; obtain rfl := Option.some.inj H; have hcz12_0 : wr.cell? ⟨gb291, 0, none⟩ = some (.int .i64 a0_0) := (blk_cell BK291.out 0).trans rfl; have hcz12_1 : wr.cell? ⟨gb291, 1, none⟩ = some (.int .i64 a0_1) := (blk_cell BK291.out 1).trans rfl; have hcz12_2 : wr.cell? ⟨gb291, 2, none⟩ = some (.int .i64 a0_2) := (blk_cell BK291.out 2).trans rfl; have hcz12_3 : wr.cell? ⟨gb291, 3, none⟩ = some (.slice A0_3 l0_3.length c0_3) := (blk_cell BK291.out 3).trans rfl; have hfz12_0 := blk_frozen BK291.out 0; have hfz12_1 := blk_frozen BK291.out 1; have hfz12_2 := blk_frozen BK291.out 2; have hfz12_3 := blk_frozen BK291.out 3; have p293 : 0 ≤ (x3_2 : Int) := of_decide_eq_true q183_; have q293 : x3_2 < (l0_3.length : Int) := of_decide_eq_true q183_; obtain ⟨ad293, e293, hx293_0⟩ := Kd.at_int HR0_3.out x3_2 p293 q293; cases e293; replace hx293_0 := (HB.out.cell (World.block_lt_of_cell? w _ hx293_0)).trans hx293_0; replace p293 := eq_true p293; replace q293 := eq_true q293
         go_wp2
         repeat (go_quiet (fail); try go_wp2)
         go_ret
         exact ⟨q179_, q103_⟩
        ·rw [if_neg c11] at H
         have c11b0 : decide ((rd l0_3 x3_2) < 0) = false := decide_eq_false c11; clear c11
         by_cases c13 : (rd l0_3 x3_2) > a0_2
         ·rw [if_pos c13] at H
          have c13b0 : decide (a0_2 < (rd l0_3 x3_2)) = true := decide_eq_true c13; clear c13; obtain rfl := Option.some.inj H; have hcz14_0 : wr.cell? ⟨gb291, 0, none⟩ = some (.int .i64 a0_0) := (blk_cell BK291.out 0).trans rfl; have hcz14_1 : wr.cell? ⟨gb291, 1, none⟩ = some (.int .i64 a0_1) := (blk_cell BK291.out 1).trans rfl; have hcz14_2 : wr.cell? ⟨gb291, 2, none⟩ = some (.int .i64 a0_2) := (blk_cell BK291.out 2).trans rfl; have hcz14_3 : wr.cell? ⟨gb291, 3, none⟩ = some (.slice A0_3 l0_3.length c0_3) := (blk_cell BK291.out 3).trans rfl; have hfz14_0 := blk_frozen BK291.out 0; have hfz14_1 := blk_frozen BK291.out 1; have hfz14_2 := blk_frozen BK291.out 2; have hfz14_3 := blk_frozen BK291.out 3; have p293 : 0 ≤ (x3_2 : Int) := of_decide_eq_true q183_; have q293 : x3_2 < (l0_3.length : Int) := of_decide_eq_true q183_; obtain ⟨ad293, e293, hx293_0⟩ := Kd.at_int HR0_3.out x3_2 p293 q293; cases e293; replace hx293_0 := (HB.out.cell (World.block_lt_of_cell? w _ hx293_0)).trans hx293_0; replace p293 := eq_true p293; replace q293 := eq_true q293; have p294 : 0 ≤ (x3_2 : Int) := of_decide_eq_true q183_; have q294 : x3_2 < (l0_3.length : Int) := of_decide_eq_true q183_; obtain ⟨ad294, e294, hx294_0⟩ := Kd.at_int HR0_3.out x3_2 p294 q294; obtain rfl : ad293 = ad294 := (by injection e294); replace hx294_0 := (HB.out.cell (World.block_lt_of_cell? w _ hx294_0)).trans hx294_0; replace p294 := eq_true p294; replace q294 := eq_true q294
          go_wp2
          repeat (go_quiet (fail); try go_wp2)
          go_ret
          exact ⟨q179_, q103_⟩
         ·rw [if_neg c13] at H
          have c13b0 : decide (a0_2 < (rd l0_3 x3_2)) = false := decide_eq_false c13; clear c13; have H' := am_ H; clear H; have hcz15_0 : wr.cell? ⟨gb291, 0, none⟩ = some (.int .i64 a0_0) := (blk_cell BK291.out 0).trans rfl; have hcz15_1 : wr.cell? ⟨gb291, 1, none⟩ = some (.int .i64 a0_1) := (blk_cell BK291.out 1).trans rfl; have hcz15_2 : wr.cell? ⟨gb291, 2, none⟩ = some (.int .i64 a0_2) := (blk_cell BK291.out 2).trans rfl; have hcz15_3 : wr.cell? ⟨gb291, 3, none⟩ = some (.slice A0_3 l0_3.length c0_3) := (blk_cell BK291.out 3).trans rfl; have hfz15_0 := blk_frozen BK291.out 0; have hfz15_1 := blk_frozen BK291.out 1; have hfz15_2 := blk_frozen BK291.out 2; have hfz15_3 := blk_frozen BK291.out 3; have p293 : 0 ≤ (x3_2 : Int) := of_decide_eq_true q183_; have q293 : x3_2 < (l0_3.length : Int) := of_decide_eq_true q183_; obtain ⟨ad293, e293, hx293_0⟩ := Kd.at_int HR0_3.out x3_2 p293 q293; cases e293; replace hx293_0 := (HB.out.cell (World.block_lt_of_cell? w _ hx293_0)).trans hx293_0; replace p293 := eq_true p293; replace q293 := eq_true q293; have p294 : 0 ≤ (x3_2 : Int) := of_decide_eq_true q183_; have q294 : x3_2 < (l0_3.length : Int) := of_decide_eq_true q183_; obtain ⟨ad294, e294, hx294_0⟩ := Kd.at_int HR0_3.out x3_2 p294 q294; obtain rfl : ad293 = ad294 := (by injection e294); replace hx294_0 := (HB.out.cell (World.block_lt_of_cell? w _ hx294_0)).trans hx294_0; replace p294 := eq_true p294; replace q294 := eq_true q294
          go_wp2
          repeat (go_quiet (fail); try go_wp2)
          go_roundg k2
          case measure => have := HJ1.out; have := HK2.out; omega
          case rel => exact ⟨(wrap64 (x3_2 + 1)), q184_, H', ⟨by have := HJ1.out; have := HK2.out; omega⟩, ⟨q147_⟩, ⟨q103_⟩⟩
       ·rw [if_neg c10] at H
        exact absurd H (by simp)
      ·rw [if_neg c9] at H
       have c9b0 : decide (x3_2 < (l0_3.length : Int)) = false := decide_eq_false c9; clear c9; obtain rfl := Option.some.inj H; have hcz16_0 : wr.cell? ⟨gb291, 0, none⟩ = some (.int .i64 a0_0) := (blk_cell BK291.out 0).trans rfl; have hcz16_1 : wr.cell? ⟨gb291, 1, none⟩ = some (.int .i64 a0_1) := (blk_cell BK291.out 1).trans rfl; have hcz16_2 : wr.cell? ⟨gb291, 2, none⟩ = some (.int .i64 a0_2) := (blk_cell BK291.out 2).trans rfl; have hcz16_3 : wr.cell? ⟨gb291, 3, none⟩ = some (.slice A0_3 l0_3.length c0_3) := (blk_cell BK291.out 3).trans rfl; have hfz16_0 := blk_frozen BK291.out 0; have hfz16_1 := blk_frozen BK291.out 1; have hfz16_2 := blk_frozen BK291.out 2; have hfz16_3 := blk_frozen BK291.out 3
       go_wp2
       repeat (go_quiet (fail); try go_wp2)
       go_ret
       exact ⟨q179_, q103_⟩


def tilefarmref13_check.f (k : Nat) (a0_0 : Int) (a0_1 : Int) (a0_2 : Int) (l0_3 : List Int) : Option (Int × Int) := (tilefarmref4_Valid.f k a0_0 a0_1 a0_2 l0_3).bind fun t296 => (if t296 = true then ((tilefarmref13_Most.f a0_0 a0_1 a0_2).bind fun bt297 => (if bt297.2 = true then (some (bt297.1, 0)) else (some (0, 11)))) else (some (0, 1)))
theorem tilefarmref13_check.mono : ∀ a0 a1 a2 a3 k, LeO (tilefarmref13_check.f k a0 a1 a2 a3) (tilefarmref13_check.f (k + 1) a0 a1 a2 a3) := by
 intro a0 a1 a2 a3 k; unfold tilefarmref13_check.f
 repeat' first
   | (with_reducible exact tilefarmref4_Valid.mono _ _ _ _ _)
   | (with_reducible exact LeO.refl _)
   | (with_reducible exact LeO.none _)
   | (with_reducible refine LeO.ite ?_ ?_)
   | (with_reducible refine LeO.bind ?_ (fun _ => ?_))
   | exact tilefarmref4_Valid.mono _ _ _ _ _
   | exact LeO.none _
   | refine LeO.ite ?_ ?_
   | refine LeO.bind ?_ (fun _ => ?_)
set_option maxHeartbeats 8000000 in
set_option maxRecDepth 100000 in
theorem tilefarmref13_check.calls (k : Nat) (a0_0 : Int) (a0_1 : Int) (a0_2 : Int) (A0_3 : Option Addr) (c0_3 : Nat) (l0_3 : List Int) (r1 : Int) (r2 : Int) (w : World) (hr0_3 : Kd.C (Kd.int .i64) w A0_3 l0_3.length l0_3) (hc0_3 : l0_3.length ≤ c0_3) (h : tilefarmref13_check.f k a0_0 a0_1 a0_2 l0_3 = some (r1, r2)) :
  Calls Try.prog 37 #[.agg #[.int .i64 a0_0, .int .i64 a0_1, .int .i64 a0_2, .slice A0_3 l0_3.length c0_3]] w fun e w' => e = .returned (.tuple #[.int .i64 r1, .int .i64 r2]) ∧ Below w.heap.size w w' := by
 have hu26 := Try.underlying26; have hu40 := Try.underlying40; have HR0_3 := am_ hr0_3; have HC0_3 := am_ hc0_3; clear hr0_3 hc0_3; have HB := am_ (Below.refl w.heap.size w); have H : ((tilefarmref4_Valid.f k a0_0 a0_1 a0_2 l0_3).bind fun t296 => (if t296 = true then ((tilefarmref13_Most.f a0_0 a0_1 a0_2).bind fun bt297 => (if bt297.2 = true then (some (bt297.1, 0)) else (some (0, 11)))) else (some (0, 1)))) = some (r1, r2) := h; clear h; replace H := Option.bind_eq_some_iff.mp H; obtain ⟨t296, A20, H⟩ := H; replace H : (if t296 = true then ((tilefarmref13_Most.f a0_0 a0_1 a0_2).bind fun bt297 => (if bt297.2 = true then (some (bt297.1, 0)) else (some (0, 11)))) else (some (0, 1))) = some (r1, r2) := H; have A2 := am_ A20; clear A20
 by_cases c3 : t296 = true
 ·subst c3
  have H1 : ((tilefarmref13_Most.f a0_0 a0_1 a0_2).bind fun bt297 => (if bt297.2 = true then (some (bt297.1, 0)) else (some (0, 11)))) = some (r1, r2) := by rw [if_pos rfl] at H; exact H
  clear H; have H := H1; clear H1; replace H := Option.bind_eq_some_iff.mp H; obtain ⟨⟨t297, t298⟩, A40, H⟩ := H; replace H : (if t298 = true then (some (t297, 0)) else (some (0, 11))) = some (r1, r2) := H; have A4 := am_ A40; clear A40
  by_cases c5 : t298 = true
  ·subst c5
   have H1 : (some (t297, 0)) = some (r1, r2) := by rw [if_pos rfl] at H; exact H
   clear H; have H := H1; clear H1; simp only [Option.some.injEq, Prod.mk.injEq] at H; obtain ⟨rfl, rfl⟩ := H
   go_enter Try.func37, Try.ntmps37
   go_wp2_with (first | ((with_reducible refine gate_dst (N := 1) rfl ?_); refine box_event ?hg (N := 1) ?hd (cs := #[.int .i64 a0_0, .int .i64 a0_1, .int .i64 a0_2, .slice A0_3 l0_3.length c0_3]) (t := 26) ?hr ?_; (case hd => rfl); (case hg => rfl); (case hr => first | (go_simp; done) | (go_simp; rfl)); intro gb295 hg w6 hbox hb; have n0_ := am_ (below_step q120_ hb); have n1_ := am_ (hbox); have n2_ := am_ ((q88_ : w.heap.size ≤ gb295)); have n3_ := am_ ((q88_ : w.heap.size ≤ gb295)); clear HB; have HB := n0_; have BK295 := n1_; have GW295 := n2_; have GE295 := n3_; clear n0_ n1_ n2_ n3_; clear hb hbox hg; have hcz7_0 : w6.cell? ⟨gb295, 0, none⟩ = some (.int .i64 a0_0) := (blk_cell BK295.out 0).trans rfl; have hcz7_1 : w6.cell? ⟨gb295, 1, none⟩ = some (.int .i64 a0_1) := (blk_cell BK295.out 1).trans rfl; have hcz7_2 : w6.cell? ⟨gb295, 2, none⟩ = some (.int .i64 a0_2) := (blk_cell BK295.out 2).trans rfl; have hcz7_3 : w6.cell? ⟨gb295, 3, none⟩ = some (.slice A0_3 l0_3.length c0_3) := (blk_cell BK295.out 3).trans rfl; have hfz7_0 := blk_frozen BK295.out 0; have hfz7_1 := blk_frozen BK295.out 1; have hfz7_2 := blk_frozen BK295.out 2; have hfz7_3 := blk_frozen BK295.out 3) | ((with_reducible refine gate_callee (f := 39) rfl ?_); refine goesL_ (some 7) rfl rfl Try.func39 (by kernel_rfl) rfl #[.agg #[.int .i64 a0_0, .int .i64 a0_1, .int .i64 a0_2, .slice A0_3 l0_3.length c0_3]] rfl q117_ ?_; (with_reducible refine (tilefarmref4_Valid.calls k a0_0 a0_1 a0_2 _ _ l0_3 true _ ?side1 ?side2 A2.out).mono ?_); (case side1 => repeat (first | exact (Kd.C_below HR0_3.out HB.out) | (with_reducible refine Kd.C_alloc ?_ _) | (with_reducible refine Kd.C_drewN ?_ _) | (with_reducible refine Kd.C_drew ?_))); (case side2 => exact HC0_3.out); rintro e w8 ⟨rfl, hb⟩; refine ⟨_, rfl, ?_⟩; have n0_ := am_ (blk_below (g := gb295) (o := .cells #[.int .i64 a0_0, .int .i64 a0_1, .int .i64 a0_2, .slice A0_3 l0_3.length c0_3] 26 (0, 0)) q148_ hb); have n1_ := am_ (below_step q104_ hb); clear BK295 HB; have BK295 := n0_; have HB := n1_; clear n0_ n1_; (try clear hb); (try clear hb2); (try clear hk); (try clear hi); have hcz9_0 : w8.cell? ⟨gb295, 0, none⟩ = some (.int .i64 a0_0) := (blk_cell BK295.out 0).trans rfl; have hcz9_1 : w8.cell? ⟨gb295, 1, none⟩ = some (.int .i64 a0_1) := (blk_cell BK295.out 1).trans rfl; have hcz9_2 : w8.cell? ⟨gb295, 2, none⟩ = some (.int .i64 a0_2) := (blk_cell BK295.out 2).trans rfl; have hcz9_3 : w8.cell? ⟨gb295, 3, none⟩ = some (.slice A0_3 l0_3.length c0_3) := (blk_cell BK295.out 3).trans rfl; have hfz9_0 := blk_frozen BK295.out 0; have hfz9_1 := blk_frozen BK295.out 1; have hfz9_2 := blk_frozen BK295.out 2; have hfz9_3 := blk_frozen BK295.out 3) | ((with_reducible refine gate_callee (f := 36) rfl ?_); refine goesL_ (some 17) rfl rfl Try.func36 (by kernel_rfl) rfl #[.agg #[.int .i64 a0_0, .int .i64 a0_1, .int .i64 a0_2]] rfl q117_ ?_; (with_reducible refine (tilefarmref13_Most.calls a0_0 a0_1 a0_2 t297 true _ A4.out).mono ?_); rintro e w10 ⟨rfl, hb⟩; refine ⟨_, rfl, ?_⟩; have n0_ := am_ (blk_below (g := gb295) (o := .cells #[.int .i64 a0_0, .int .i64 a0_1, .int .i64 a0_2, .slice A0_3 l0_3.length c0_3] 26 (0, 0)) q148_ hb); have n1_ := am_ (below_step q104_ hb); clear BK295 HB; have BK295 := n0_; have HB := n1_; clear n0_ n1_; (try clear hb); (try clear hb2); (try clear hk); (try clear hi)))
   go_ret2
   exact ⟨q179_, q104_⟩
  ·replace c5 := Bool.eq_false_iff.mpr c5
   subst c5; have H1 : (some (0, 11)) = some (r1, r2) := by rw [if_neg (show ¬ (false = true) by decide)] at H; exact H
   clear H; have H := H1; clear H1; simp only [Option.some.injEq, Prod.mk.injEq] at H; obtain ⟨rfl, rfl⟩ := H
   go_enter Try.func37, Try.ntmps37
   go_wp2_with (first | ((with_reducible refine gate_dst (N := 1) rfl ?_); refine box_event ?hg (N := 1) ?hd (cs := #[.int .i64 a0_0, .int .i64 a0_1, .int .i64 a0_2, .slice A0_3 l0_3.length c0_3]) (t := 26) ?hr ?_; (case hd => rfl); (case hg => rfl); (case hr => first | (go_simp; done) | (go_simp; rfl)); intro gb295 hg w11 hbox hb; have n0_ := am_ (below_step q120_ hb); have n1_ := am_ (hbox); have n2_ := am_ ((q88_ : w.heap.size ≤ gb295)); have n3_ := am_ ((q88_ : w.heap.size ≤ gb295)); clear HB; have HB := n0_; have BK295 := n1_; have GW295 := n2_; have GE295 := n3_; clear n0_ n1_ n2_ n3_; clear hb hbox hg; have hcz12_0 : w11.cell? ⟨gb295, 0, none⟩ = some (.int .i64 a0_0) := (blk_cell BK295.out 0).trans rfl; have hcz12_1 : w11.cell? ⟨gb295, 1, none⟩ = some (.int .i64 a0_1) := (blk_cell BK295.out 1).trans rfl; have hcz12_2 : w11.cell? ⟨gb295, 2, none⟩ = some (.int .i64 a0_2) := (blk_cell BK295.out 2).trans rfl; have hcz12_3 : w11.cell? ⟨gb295, 3, none⟩ = some (.slice A0_3 l0_3.length c0_3) := (blk_cell BK295.out 3).trans rfl; have hfz12_0 := blk_frozen BK295.out 0; have hfz12_1 := blk_frozen BK295.out 1; have hfz12_2 := blk_frozen BK295.out 2; have hfz12_3 := blk_frozen BK295.out 3) | ((with_reducible refine gate_callee (f := 39) rfl ?_); refine goesL_ (some 7) rfl rfl Try.func39 (by kernel_rfl) rfl #[.agg #[.int .i64 a0_0, .int .i64 a0_1, .int .i64 a0_2, .slice A0_3 l0_3.length c0_3]] rfl q117_ ?_; (with_reducible refine (tilefarmref4_Valid.calls k a0_0 a0_1 a0_2 _ _ l0_3 true _ ?side1 ?side2 A2.out).mono ?_); (case side1 => repeat (first | exact (Kd.C_below HR0_3.out HB.out) | (with_reducible refine Kd.C_alloc ?_ _) | (with_reducible refine Kd.C_drewN ?_ _) | (with_reducible refine Kd.C_drew ?_))); (case side2 => exact HC0_3.out); rintro e w13 ⟨rfl, hb⟩; refine ⟨_, rfl, ?_⟩; have n0_ := am_ (blk_below (g := gb295) (o := .cells #[.int .i64 a0_0, .int .i64 a0_1, .int .i64 a0_2, .slice A0_3 l0_3.length c0_3] 26 (0, 0)) q148_ hb); have n1_ := am_ (below_step q104_ hb); clear BK295 HB; have BK295 := n0_; have HB := n1_; clear n0_ n1_; (try clear hb); (try clear hb2); (try clear hk); (try clear hi); have hcz14_0 : w13.cell? ⟨gb295, 0, none⟩ = some (.int .i64 a0_0) := (blk_cell BK295.out 0).trans rfl; have hcz14_1 : w13.cell? ⟨gb295, 1, none⟩ = some (.int .i64 a0_1) := (blk_cell BK295.out 1).trans rfl; have hcz14_2 : w13.cell? ⟨gb295, 2, none⟩ = some (.int .i64 a0_2) := (blk_cell BK295.out 2).trans rfl; have hcz14_3 : w13.cell? ⟨gb295, 3, none⟩ = some (.slice A0_3 l0_3.length c0_3) := (blk_cell BK295.out 3).trans rfl; have hfz14_0 := blk_frozen BK295.out 0; have hfz14_1 := blk_frozen BK295.out 1; have hfz14_2 := blk_frozen BK295.out 2; have hfz14_3 := blk_frozen BK295.out 3) | ((with_reducible refine gate_callee (f := 36) rfl ?_); refine goesL_ (some 17) rfl rfl Try.func36 (by kernel_rfl) rfl #[.agg #[.int .i64 a0_0, .int .i64 a0_1, .int .i64 a0_2]] rfl q117_ ?_; (with_reducible refine (tilefarmref13_Most.calls a0_0 a0_1 a0_2 t297 false _ A4.out).mono ?_); rintro e w15 ⟨rfl, hb⟩; refine ⟨_, rfl, ?_⟩; have n0_ := am_ (blk_below (g := gb295) (o := .cells #[.int .i64 a0_0, .int .i64 a0_1, .int .i64 a0_2, .slice A0_3 l0_3.length c0_3] 26 (0, 0)) q148_ hb); have n1_ := am_ (below_step q104_ hb); clear BK295 HB; have BK295 := n0_; have HB := n1_; clear n0_ n1_; (try clear hb); (try clear hb2); (try clear hk); (try clear hi)))
   go_ret2
   exact ⟨q179_, q104_⟩
 ·replace c3 := Bool.eq_false_iff.mpr c3
  subst c3; have H1 : (some (0, 1)) = some (r1, r2) := by rw [if_neg (show ¬ (false = true) by decide)] at H; exact H
  clear H; have H := H1; clear H1; simp only [Option.some.injEq, Prod.mk.injEq] at H; obtain ⟨rfl, rfl⟩ := H
  go_enter Try.func37, Try.ntmps37
  go_wp2_with (first | ((with_reducible refine gate_dst (N := 1) rfl ?_); refine box_event ?hg (N := 1) ?hd (cs := #[.int .i64 a0_0, .int .i64 a0_1, .int .i64 a0_2, .slice A0_3 l0_3.length c0_3]) (t := 26) ?hr ?_; (case hd => rfl); (case hg => rfl); (case hr => first | (go_simp; done) | (go_simp; rfl)); intro gb295 hg w16 hbox hb; have n0_ := am_ (below_step q120_ hb); have n1_ := am_ (hbox); have n2_ := am_ ((q88_ : w.heap.size ≤ gb295)); have n3_ := am_ ((q88_ : w.heap.size ≤ gb295)); clear HB; have HB := n0_; have BK295 := n1_; have GW295 := n2_; have GE295 := n3_; clear n0_ n1_ n2_ n3_; clear hb hbox hg; have hcz17_0 : w16.cell? ⟨gb295, 0, none⟩ = some (.int .i64 a0_0) := (blk_cell BK295.out 0).trans rfl; have hcz17_1 : w16.cell? ⟨gb295, 1, none⟩ = some (.int .i64 a0_1) := (blk_cell BK295.out 1).trans rfl; have hcz17_2 : w16.cell? ⟨gb295, 2, none⟩ = some (.int .i64 a0_2) := (blk_cell BK295.out 2).trans rfl; have hcz17_3 : w16.cell? ⟨gb295, 3, none⟩ = some (.slice A0_3 l0_3.length c0_3) := (blk_cell BK295.out 3).trans rfl; have hfz17_0 := blk_frozen BK295.out 0; have hfz17_1 := blk_frozen BK295.out 1; have hfz17_2 := blk_frozen BK295.out 2; have hfz17_3 := blk_frozen BK295.out 3) | ((with_reducible refine gate_callee (f := 39) rfl ?_); refine goesL_ (some 7) rfl rfl Try.func39 (by kernel_rfl) rfl #[.agg #[.int .i64 a0_0, .int .i64 a0_1, .int .i64 a0_2, .slice A0_3 l0_3.length c0_3]] rfl q117_ ?_; (with_reducible refine (tilefarmref4_Valid.calls k a0_0 a0_1 a0_2 _ _ l0_3 false _ ?side1 ?side2 A2.out).mono ?_); (case side1 => repeat (first | exact (Kd.C_below HR0_3.out HB.out) | (with_reducible refine Kd.C_alloc ?_ _) | (with_reducible refine Kd.C_drewN ?_ _) | (with_reducible refine Kd.C_drew ?_))); (case side2 => exact HC0_3.out); rintro e w18 ⟨rfl, hb⟩; refine ⟨_, rfl, ?_⟩; have n0_ := am_ (blk_below (g := gb295) (o := .cells #[.int .i64 a0_0, .int .i64 a0_1, .int .i64 a0_2, .slice A0_3 l0_3.length c0_3] 26 (0, 0)) q148_ hb); have n1_ := am_ (below_step q104_ hb); clear BK295 HB; have BK295 := n0_; have HB := n1_; clear n0_ n1_; (try clear hb); (try clear hb2); (try clear hk); (try clear hi)))
  go_ret2
  exact ⟨q179_, q104_⟩

end Go.Proofs.Ytkipnpgcpohlcaa.PIntegralTiles
