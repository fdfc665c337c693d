-- Written by a program of the session (wip/tools/pack.py): the printed texts, pruned; checked by Lean.
import Derived.Test.YticicecobchdiaaKHistogramCountsa
import Derived.Test.YticicecobchdiaaKHistogramCountsx0
import Derived.Test.YticicecobchdiaaKHistogramCountsx4
import Derived.Test.YticicecobchdiaaKHistogramCountsx6
namespace Go.Proofs.Yticicecobchdiaa.PHistogramCounts
open Go.RowKit Go.Proofs.YticicecobchdiaaW.PrintWords Go.Proofs.YticicecobchdiaaW.PrintLast Go.Proofs.YticicecobchdiaaW.PrintMore
attribute [local go_sem] max2_int min2_int max_two min_two max_three min_three max_four min_four   -- for this text's walks alone
set_option linter.unusedVariables false
set_option linter.unusedSimpArgs false
def tilefarmref4_Equal.f (k : Nat) (a0_0 : Int) (a0_1 : Int) (a0_2 : Int) (l0_3 : List Int) (a1_0 : Int) (a1_1 : Int) (a1_2 : Int) (l1_3 : List Int) : Option (Bool) := if a0_0 = a1_0 then (if a0_1 = a1_1 then (if a0_2 = a1_2 then ((tilefarmref4_Same.f k l0_3 l1_3).bind fun t192 => (some t192)) else (some false)) else (some false)) else (some false)
theorem tilefarmref4_Equal.mono : ∀ a0 a1 a2 a3 a4 a5 a6 a7 k, LeO (tilefarmref4_Equal.f k a0 a1 a2 a3 a4 a5 a6 a7) (tilefarmref4_Equal.f (k + 1) a0 a1 a2 a3 a4 a5 a6 a7) := by
  intro a0 a1 a2 a3 a4 a5 a6 a7 k
  unfold tilefarmref4_Equal.f
  repeat' first
      | (with_reducible exact tilefarmref4_Same.mono _ _ _)
      | (with_reducible exact LeO.refl _)
      | (with_reducible exact LeO.none _)
      | (with_reducible refine LeO.ite ?_ ?_)
      | (with_reducible refine LeO.bind ?_ (fun _ => ?_))
      | exact tilefarmref4_Same.mono _ _ _
      | exact LeO.none _
      | refine LeO.ite ?_ ?_
      | refine LeO.bind ?_ (fun _ => ?_)
set_option maxHeartbeats 8000000 in
set_option maxRecDepth 100000 in
theorem tilefarmref4_Equal.calls (k : Nat) (a0_0 : Int) (a0_1 : Int) (a0_2 : Int) (A0_3 : Option Addr) (c0_3 : Nat) (l0_3 : List Int) (a1_0 : Int) (a1_1 : Int) (a1_2 : Int) (A1_3 : Option Addr) (c1_3 : Nat) (l1_3 : List Int) (r : Bool) (w : World) (hr0_3 : Kd.C (Kd.int .i64) w A0_3 l0_3.length l0_3) (hc0_3 : l0_3.length ≤ c0_3) (hr1_3 : Kd.C (Kd.int .i64) w A1_3 l1_3.length l1_3) (hc1_3 : l1_3.length ≤ c1_3) (h : tilefarmref4_Equal.f k a0_0 a0_1 a0_2 l0_3 a1_0 a1_1 a1_2 l1_3 = some r) :
    Calls Try.prog 14 #[.agg #[.int .i64 a0_0, .int .i64 a0_1, .int .i64 a0_2, .slice A0_3 l0_3.length c0_3], .agg #[.int .i64 a1_0, .int .i64 a1_1, .int .i64 a1_2, .slice A1_3 l1_3.length c1_3]] w fun e w' => e = .returned (.bool r) ∧ Below w.heap.size w w' := by
  have hu26 := Try.underlying26
  have HR0_3 := Aside0.mk hr0_3
  have HC0_3 := Aside0.mk hc0_3
  clear hr0_3 hc0_3
  have HR1_3 := Aside0.mk hr1_3
  have HC1_3 := Aside0.mk hc1_3
  clear hr1_3 hc1_3
  have HB := Aside0.mk (Below.refl w.heap.size w)
  have H : (if a0_0 = a1_0 then (if a0_1 = a1_1 then (if a0_2 = a1_2 then ((tilefarmref4_Same.f k l0_3 l1_3).bind fun t192 => (some t192)) else (some false)) else (some false)) else (some false)) = some r := h
  clear h
  by_cases c3 : a0_0 = a1_0
  · rw [if_pos c3] at H
    have c3b0 : (a0_0 == a1_0) = true := beq_iff_eq.mpr c3
    have c3b1 : (a0_0 != a1_0) = false := bne_eq_false_iff_eq.mpr c3
    clear c3
    by_cases c4 : a0_1 = a1_1
    · rw [if_pos c4] at H
      have c4b0 : (a0_1 == a1_1) = true := beq_iff_eq.mpr c4
      have c4b1 : (a0_1 != a1_1) = false := bne_eq_false_iff_eq.mpr c4
      clear c4
      by_cases c5 : a0_2 = a1_2
      · rw [if_pos c5] at H
        have c5b0 : (a0_2 == a1_2) = true := beq_iff_eq.mpr c5
        have c5b1 : (a0_2 != a1_2) = false := bne_eq_false_iff_eq.mpr c5
        clear c5
        replace H := Option.bind_eq_some_iff.mp H
        obtain ⟨t192, A60, H⟩ := H
        replace H : (some t192) = some r := H
        have A6 := Aside0.mk A60
        clear A60
        obtain rfl := Option.some.inj H
        go_enter Try.func14, Try.ntmps14
        go_wp2_with (first | ((with_reducible refine gate_dst (N := 2) rfl ?_); refine box_event ?hg (N := 2) ?hd (cs := #[.int .i64 a0_0, .int .i64 a0_1, .int .i64 a0_2, .slice A0_3 l0_3.length c0_3]) (t := 26) ?hr ?_; (case hd => rfl); (case hg => rfl); (case hr => first | (go_simp; done) | (go_simp; rfl)); intro gb190 hg w7 hbox hb; have n0_ := Aside0.mk (below_step q103_ hb); have n1_ := Aside0.mk (hbox); have n2_ := Aside0.mk ((q79_ : w.heap.size ≤ gb190)); have n3_ := Aside0.mk ((q79_ : w.heap.size ≤ gb190)); clear HB; have HB := n0_; have BK190 := n1_; have GW190 := n2_; have GE190 := n3_; clear n0_ n1_ n2_ n3_; clear hb hbox hg) | ((with_reducible refine gate_dst (N := 3) rfl ?_); refine box_event ?hg (N := 3) ?hd (cs := #[.int .i64 a1_0, .int .i64 a1_1, .int .i64 a1_2, .slice A1_3 l1_3.length c1_3]) (t := 26) ?hr ?_; (case hd => rfl); (case hg => rfl); (case hr => first | (go_simp; done) | (go_simp; rfl)); intro gb191 hg w8 hbox hb; have n0_ := Aside0.mk (blk_below (g := gb190) (o := .cells #[.int .i64 a0_0, .int .i64 a0_1, .int .i64 a0_2, .slice A0_3 l0_3.length c0_3] 26 (0, 0)) q117_ hb); have n1_ := Aside0.mk (below_step q86_ hb); have n2_ := Aside0.mk (hbox); have n3_ := Aside0.mk ((q58_ : w.heap.size ≤ gb191)); have n4_ := Aside0.mk ((q58_ : w.heap.size ≤ gb191)); have n5_ := Aside0.mk ((q6_ : gb190 ≠ gb191)); have n6_ := Aside0.mk ((q7_ : gb191 ≠ gb190)); clear BK190; clear HB; have BK190 := n0_; have HB := n1_; have BK191 := n2_; have GW191 := n3_; have GE191 := n4_; have NB190_191 := n5_; have NB191_190 := n6_; clear n0_ n1_ n2_ n3_ n4_ n5_ n6_; clear hb hbox hg; have hnb9 := NB190_191.out; have hnc9 := NB191_190.out; have hcz10_0 : w8.cell? ⟨gb190, 0, none⟩ = some (.int .i64 a0_0) := (blk_cell BK190.out 0).trans rfl; have hcz10_1 : w8.cell? ⟨gb190, 1, none⟩ = some (.int .i64 a0_1) := (blk_cell BK190.out 1).trans rfl; have hcz10_2 : w8.cell? ⟨gb190, 2, none⟩ = some (.int .i64 a0_2) := (blk_cell BK190.out 2).trans rfl; have hcz10_3 : w8.cell? ⟨gb190, 3, none⟩ = some (.slice A0_3 l0_3.length c0_3) := (blk_cell BK190.out 3).trans rfl; have hfz10_0 := blk_frozen BK190.out 0; have hfz10_1 := blk_frozen BK190.out 1; have hfz10_2 := blk_frozen BK190.out 2; have hfz10_3 := blk_frozen BK190.out 3; have hcz11_0 : w8.cell? ⟨gb191, 0, none⟩ = some (.int .i64 a1_0) := (blk_cell BK191.out 0).trans rfl; have hcz11_1 : w8.cell? ⟨gb191, 1, none⟩ = some (.int .i64 a1_1) := (blk_cell BK191.out 1).trans rfl; have hcz11_2 : w8.cell? ⟨gb191, 2, none⟩ = some (.int .i64 a1_2) := (blk_cell BK191.out 2).trans rfl; have hcz11_3 : w8.cell? ⟨gb191, 3, none⟩ = some (.slice A1_3 l1_3.length c1_3) := (blk_cell BK191.out 3).trans rfl; have hfz11_0 := blk_frozen BK191.out 0; have hfz11_1 := blk_frozen BK191.out 1; have hfz11_2 := blk_frozen BK191.out 2; have hfz11_3 := blk_frozen BK191.out 3) | (go_at_call 24; (with_reducible refine (tilefarmref4_Same.calls k _ _ l0_3 _ _ l1_3 t192 _ ?side1 ?side2 ?side3 ?side4 A6.out).mono ?_); (case side1 => repeat (first | exact (Kd.C_below HR0_3.out HB.out) | (with_reducible refine Kd.C_alloc ?_ _) | (with_reducible refine Kd.C_drewN ?_ _) | (with_reducible refine Kd.C_drew ?_))); (case side2 => exact HC0_3.out); (case side3 => repeat (first | exact (Kd.C_below HR1_3.out HB.out) | (with_reducible refine Kd.C_alloc ?_ _) | (with_reducible refine Kd.C_drewN ?_ _) | (with_reducible refine Kd.C_drew ?_))); (case side4 => exact HC1_3.out); rintro e w' ⟨rfl, ⟨nd, rfl⟩⟩))
        go_ret
        exact ⟨q152_, q66_⟩
      · rw [if_neg c5] at H
        have c5b0 : (a0_2 == a1_2) = false := beq_eq_false_iff_ne.mpr c5
        have c5b1 : (a0_2 != a1_2) = true := bne_iff_ne.mpr c5
        obtain rfl := Option.some.inj H
        go_enter Try.func14, Try.ntmps14
        go_wp2_with (first | ((with_reducible refine gate_dst (N := 2) rfl ?_); refine box_event ?hg (N := 2) ?hd (cs := #[.int .i64 a0_0, .int .i64 a0_1, .int .i64 a0_2, .slice A0_3 l0_3.length c0_3]) (t := 26) ?hr ?_; (case hd => rfl); (case hg => rfl); (case hr => first | (go_simp; done) | (go_simp; rfl)); intro gb190 hg w12 hbox hb; have n0_ := Aside0.mk (below_step q103_ hb); have n1_ := Aside0.mk (hbox); have n2_ := Aside0.mk ((q79_ : w.heap.size ≤ gb190)); have n3_ := Aside0.mk ((q79_ : w.heap.size ≤ gb190)); clear HB; have HB := n0_; have BK190 := n1_; have GW190 := n2_; have GE190 := n3_; clear n0_ n1_ n2_ n3_; clear hb hbox hg) | ((with_reducible refine gate_dst (N := 3) rfl ?_); refine box_event ?hg (N := 3) ?hd (cs := #[.int .i64 a1_0, .int .i64 a1_1, .int .i64 a1_2, .slice A1_3 l1_3.length c1_3]) (t := 26) ?hr ?_; (case hd => rfl); (case hg => rfl); (case hr => first | (go_simp; done) | (go_simp; rfl)); intro gb191 hg w13 hbox hb; have n0_ := Aside0.mk (blk_below (g := gb190) (o := .cells #[.int .i64 a0_0, .int .i64 a0_1, .int .i64 a0_2, .slice A0_3 l0_3.length c0_3] 26 (0, 0)) q117_ hb); have n1_ := Aside0.mk (below_step q86_ hb); have n2_ := Aside0.mk (hbox); have n3_ := Aside0.mk ((q58_ : w.heap.size ≤ gb191)); have n4_ := Aside0.mk ((q58_ : w.heap.size ≤ gb191)); have n5_ := Aside0.mk ((q6_ : gb190 ≠ gb191)); have n6_ := Aside0.mk ((q7_ : gb191 ≠ gb190)); clear BK190; clear HB; have BK190 := n0_; have HB := n1_; have BK191 := n2_; have GW191 := n3_; have GE191 := n4_; have NB190_191 := n5_; have NB191_190 := n6_; clear n0_ n1_ n2_ n3_ n4_ n5_ n6_; clear hb hbox hg; have hnb14 := NB190_191.out; have hnc14 := NB191_190.out; have hcz15_0 : w13.cell? ⟨gb190, 0, none⟩ = some (.int .i64 a0_0) := (blk_cell BK190.out 0).trans rfl; have hcz15_1 : w13.cell? ⟨gb190, 1, none⟩ = some (.int .i64 a0_1) := (blk_cell BK190.out 1).trans rfl; have hcz15_2 : w13.cell? ⟨gb190, 2, none⟩ = some (.int .i64 a0_2) := (blk_cell BK190.out 2).trans rfl; have hcz15_3 : w13.cell? ⟨gb190, 3, none⟩ = some (.slice A0_3 l0_3.length c0_3) := (blk_cell BK190.out 3).trans rfl; have hfz15_0 := blk_frozen BK190.out 0; have hfz15_1 := blk_frozen BK190.out 1; have hfz15_2 := blk_frozen BK190.out 2; have hfz15_3 := blk_frozen BK190.out 3; have hcz16_0 : w13.cell? ⟨gb191, 0, none⟩ = some (.int .i64 a1_0) := (blk_cell BK191.out 0).trans rfl; have hcz16_1 : w13.cell? ⟨gb191, 1, none⟩ = some (.int .i64 a1_1) := (blk_cell BK191.out 1).trans rfl; have hcz16_2 : w13.cell? ⟨gb191, 2, none⟩ = some (.int .i64 a1_2) := (blk_cell BK191.out 2).trans rfl; have hcz16_3 : w13.cell? ⟨gb191, 3, none⟩ = some (.slice A1_3 l1_3.length c1_3) := (blk_cell BK191.out 3).trans rfl; have hfz16_0 := blk_frozen BK191.out 0; have hfz16_1 := blk_frozen BK191.out 1; have hfz16_2 := blk_frozen BK191.out 2; have hfz16_3 := blk_frozen BK191.out 3))
        go_ret
        exact ⟨q152_, q66_⟩
    · rw [if_neg c4] at H
      have c4b0 : (a0_1 == a1_1) = false := beq_eq_false_iff_ne.mpr c4
      have c4b1 : (a0_1 != a1_1) = true := bne_iff_ne.mpr c4
      obtain rfl := Option.some.inj H
      go_enter Try.func14, Try.ntmps14
      go_wp2_with (first | ((with_reducible refine gate_dst (N := 2) rfl ?_); refine box_event ?hg (N := 2) ?hd (cs := #[.int .i64 a0_0, .int .i64 a0_1, .int .i64 a0_2, .slice A0_3 l0_3.length c0_3]) (t := 26) ?hr ?_; (case hd => rfl); (case hg => rfl); (case hr => first | (go_simp; done) | (go_simp; rfl)); intro gb190 hg w17 hbox hb; have n0_ := Aside0.mk (below_step q103_ hb); have n1_ := Aside0.mk (hbox); have n2_ := Aside0.mk ((q79_ : w.heap.size ≤ gb190)); have n3_ := Aside0.mk ((q79_ : w.heap.size ≤ gb190)); clear HB; have HB := n0_; have BK190 := n1_; have GW190 := n2_; have GE190 := n3_; clear n0_ n1_ n2_ n3_; clear hb hbox hg) | ((with_reducible refine gate_dst (N := 3) rfl ?_); refine box_event ?hg (N := 3) ?hd (cs := #[.int .i64 a1_0, .int .i64 a1_1, .int .i64 a1_2, .slice A1_3 l1_3.length c1_3]) (t := 26) ?hr ?_; (case hd => rfl); (case hg => rfl); (case hr => first | (go_simp; done) | (go_simp; rfl)); intro gb191 hg w18 hbox hb; have n0_ := Aside0.mk (blk_below (g := gb190) (o := .cells #[.int .i64 a0_0, .int .i64 a0_1, .int .i64 a0_2, .slice A0_3 l0_3.length c0_3] 26 (0, 0)) q117_ hb); have n1_ := Aside0.mk (below_step q86_ hb); have n2_ := Aside0.mk (hbox); have n3_ := Aside0.mk ((q58_ : w.heap.size ≤ gb191)); have n4_ := Aside0.mk ((q58_ : w.heap.size ≤ gb191)); have n5_ := Aside0.mk ((q6_ : gb190 ≠ gb191)); have n6_ := Aside0.mk ((q7_ : gb191 ≠ gb190)); clear BK190; clear HB; have BK190 := n0_; have HB := n1_; have BK191 := n2_; have GW191 := n3_; have GE191 := n4_; have NB190_191 := n5_; have NB191_190 := n6_; clear n0_ n1_ n2_ n3_ n4_ n5_ n6_; clear hb hbox hg; have hnb19 := NB190_191.out; have hnc19 := NB191_190.out; have hcz20_0 : w18.cell? ⟨gb190, 0, none⟩ = some (.int .i64 a0_0) := (blk_cell BK190.out 0).trans rfl; have hcz20_1 : w18.cell? ⟨gb190, 1, none⟩ = some (.int .i64 a0_1) := (blk_cell BK190.out 1).trans rfl; have hcz20_2 : w18.cell? ⟨gb190, 2, none⟩ = some (.int .i64 a0_2) := (blk_cell BK190.out 2).trans rfl; have hcz20_3 : w18.cell? ⟨gb190, 3, none⟩ = some (.slice A0_3 l0_3.length c0_3) := (blk_cell BK190.out 3).trans rfl; have hfz20_0 := blk_frozen BK190.out 0; have hfz20_1 := blk_frozen BK190.out 1; have hfz20_2 := blk_frozen BK190.out 2; have hfz20_3 := blk_frozen BK190.out 3; have hcz21_0 : w18.cell? ⟨gb191, 0, none⟩ = some (.int .i64 a1_0) := (blk_cell BK191.out 0).trans rfl; have hcz21_1 : w18.cell? ⟨gb191, 1, none⟩ = some (.int .i64 a1_1) := (blk_cell BK191.out 1).trans rfl; have hcz21_2 : w18.cell? ⟨gb191, 2, none⟩ = some (.int .i64 a1_2) := (blk_cell BK191.out 2).trans rfl; have hcz21_3 : w18.cell? ⟨gb191, 3, none⟩ = some (.slice A1_3 l1_3.length c1_3) := (blk_cell BK191.out 3).trans rfl; have hfz21_0 := blk_frozen BK191.out 0; have hfz21_1 := blk_frozen BK191.out 1; have hfz21_2 := blk_frozen BK191.out 2; have hfz21_3 := blk_frozen BK191.out 3))
      go_ret
      exact ⟨q152_, q66_⟩
  · rw [if_neg c3] at H
    have c3b0 : (a0_0 == a1_0) = false := beq_eq_false_iff_ne.mpr c3
    have c3b1 : (a0_0 != a1_0) = true := bne_iff_ne.mpr c3
    obtain rfl := Option.some.inj H
    go_enter Try.func14, Try.ntmps14
    go_wp2_with (first | ((with_reducible refine gate_dst (N := 2) rfl ?_); refine box_event ?hg (N := 2) ?hd (cs := #[.int .i64 a0_0, .int .i64 a0_1, .int .i64 a0_2, .slice A0_3 l0_3.length c0_3]) (t := 26) ?hr ?_; (case hd => rfl); (case hg => rfl); (case hr => first | (go_simp; done) | (go_simp; rfl)); intro gb190 hg w22 hbox hb; have n0_ := Aside0.mk (below_step q103_ hb); have n1_ := Aside0.mk (hbox); have n2_ := Aside0.mk ((q79_ : w.heap.size ≤ gb190)); have n3_ := Aside0.mk ((q79_ : w.heap.size ≤ gb190)); clear HB; have HB := n0_; have BK190 := n1_; have GW190 := n2_; have GE190 := n3_; clear n0_ n1_ n2_ n3_; clear hb hbox hg) | ((with_reducible refine gate_dst (N := 3) rfl ?_); refine box_event ?hg (N := 3) ?hd (cs := #[.int .i64 a1_0, .int .i64 a1_1, .int .i64 a1_2, .slice A1_3 l1_3.length c1_3]) (t := 26) ?hr ?_; (case hd => rfl); (case hg => rfl); (case hr => first | (go_simp; done) | (go_simp; rfl)); intro gb191 hg w23 hbox hb; have n0_ := Aside0.mk (blk_below (g := gb190) (o := .cells #[.int .i64 a0_0, .int .i64 a0_1, .int .i64 a0_2, .slice A0_3 l0_3.length c0_3] 26 (0, 0)) q117_ hb); have n1_ := Aside0.mk (below_step q86_ hb); have n2_ := Aside0.mk (hbox); have n3_ := Aside0.mk ((q58_ : w.heap.size ≤ gb191)); have n4_ := Aside0.mk ((q58_ : w.heap.size ≤ gb191)); have n5_ := Aside0.mk ((q6_ : gb190 ≠ gb191)); have n6_ := Aside0.mk ((q7_ : gb191 ≠ gb190)); clear BK190; clear HB; have BK190 := n0_; have HB := n1_; have BK191 := n2_; have GW191 := n3_; have GE191 := n4_; have NB190_191 := n5_; have NB191_190 := n6_; clear n0_ n1_ n2_ n3_ n4_ n5_ n6_; clear hb hbox hg; have hnb24 := NB190_191.out; have hnc24 := NB191_190.out; have hcz25_0 : w23.cell? ⟨gb190, 0, none⟩ = some (.int .i64 a0_0) := (blk_cell BK190.out 0).trans rfl; have hcz25_1 : w23.cell? ⟨gb190, 1, none⟩ = some (.int .i64 a0_1) := (blk_cell BK190.out 1).trans rfl; have hcz25_2 : w23.cell? ⟨gb190, 2, none⟩ = some (.int .i64 a0_2) := (blk_cell BK190.out 2).trans rfl; have hcz25_3 : w23.cell? ⟨gb190, 3, none⟩ = some (.slice A0_3 l0_3.length c0_3) := (blk_cell BK190.out 3).trans rfl; have hfz25_0 := blk_frozen BK190.out 0; have hfz25_1 := blk_frozen BK190.out 1; have hfz25_2 := blk_frozen BK190.out 2; have hfz25_3 := blk_frozen BK190.out 3; have hcz26_0 : w23.cell? ⟨gb191, 0, none⟩ = some (.int .i64 a1_0) := (blk_cell BK191.out 0).trans rfl; have hcz26_1 : w23.cell? ⟨gb191, 1, none⟩ = some (.int .i64 a1_1) := (blk_cell BK191.out 1).trans rfl; have hcz26_2 : w23.cell? ⟨gb191, 2, none⟩ = some (.int .i64 a1_2) := (blk_cell BK191.out 2).trans rfl; have hcz26_3 : w23.cell? ⟨gb191, 3, none⟩ = some (.slice A1_3 l1_3.length c1_3) := (blk_cell BK191.out 3).trans rfl; have hfz26_0 := blk_frozen BK191.out 0; have hfz26_1 := blk_frozen BK191.out 1; have hfz26_2 := blk_frozen BK191.out 2; have hfz26_3 := blk_frozen BK191.out 3))
    go_ret
    exact ⟨q152_, q66_⟩


mutual
def histogram_Merge.l0 : Nat → List (List Int) → Int → List (List Int) → Int → Int → Option (List Int × Int)
  | 0, _, _, _, _, _ => none
  | k + 1, x0, x4, x22, x23, x24 => if x24 < x23 then (if 0 ≤ x24 then (if x24 < (x22.length : Int) then (if ((rd_L1 x22 x24).length : Int) = x4 then ((histogram_between.f x4 1 128).bind fun t196 => (if t196 = true then (histogram_Merge.l0 k x0 x4 x22 x23 (wrap64 (x24 + 1))) else (some (([] : List Int), 8)))) else (some (([] : List Int), 8))) else (none)) else (none)) else (if 0 ≤ x4 then (if (x4 : Int).toNat ≤ 35184372088832 then (histogram_Merge.l1 k (List.replicate (x4 : Int).toNat 0) x0 (x0.length : Int) 0) else (none)) else (none))
def histogram_Merge.l1 : Nat → List Int → List (List Int) → Int → Int → Option (List Int × Int)
  | 0, _, _, _, _ => none
  | k + 1, x7, x40, x41, x42 => if x42 < x41 then (if 0 ≤ x42 then (if x42 < (x40.length : Int) then (histogram_Merge.l2 k x7 x40 x41 x42 (rd_L1 x40 x42) ((rd_L1 x40 x42).length : Int) 0) else (none)) else (none)) else (histogram_Merge.l3 k x7 x7 (x7.length : Int) 0)
def histogram_Merge.l2 : Nat → List Int → List (List Int) → Int → Int → List Int → Int → Int → Option (List Int × Int)
  | 0, _, _, _, _, _, _, _ => none
  | k + 1, x7, x40, x41, x42, x46, x47, x48 => if x48 < x47 then (if 0 ≤ x48 then (if x48 < (x46.length : Int) then ((histogram_between.f (rd x46 x48) 0 4096).bind fun t202 => (if t202 = true then (if x48 < (x7.length : Int) then (histogram_Merge.l2 k (x7.set (x48 : Int).toNat (wrap64 ((rd x7 x48) + (rd x46 x48)))) x40 x41 x42 x46 x47 (wrap64 (x48 + 1))) else (none)) else (some (([] : List Int), 2)))) else (none)) else (none)) else (histogram_Merge.l1 k x7 x40 x41 (wrap64 (x42 + 1)))
def histogram_Merge.l3 : Nat → List Int → List Int → Int → Int → Option (List Int × Int)
  | 0, _, _, _, _ => none
  | k + 1, x7, x65, x66, x67 => if x67 < x66 then (if 0 ≤ x67 then (if x67 < (x65.length : Int) then (if (rd x65 x67) > 4096 then (some (([] : List Int), 3)) else (histogram_Merge.l3 k x7 x65 x66 (wrap64 (x67 + 1)))) else (none)) else (none)) else (some (x7, 0))
end
def histogram_Merge.f (k : Nat) (l0 : List (List Int)) : Option (List Int × Int) := (histogram_between.f (l0.length : Int) 1 4096).bind fun t193 => (if t193 = true then (if 0 < (l0.length : Int) then (histogram_Merge.l0 k l0 ((rd_L1 l0 0).length : Int) l0 (l0.length : Int) 0) else (none)) else (some (([] : List Int), 5)))
theorem histogram_Merge.mono_l : ∀ k, (∀ y0 y1 y2 y3 y4, LeO (histogram_Merge.l0 k y0 y1 y2 y3 y4) (histogram_Merge.l0 (k + 1) y0 y1 y2 y3 y4)) ∧ (∀ y0 y1 y2 y3, LeO (histogram_Merge.l1 k y0 y1 y2 y3) (histogram_Merge.l1 (k + 1) y0 y1 y2 y3)) ∧ (∀ y0 y1 y2 y3 y4 y5 y6, LeO (histogram_Merge.l2 k y0 y1 y2 y3 y4 y5 y6) (histogram_Merge.l2 (k + 1) y0 y1 y2 y3 y4 y5 y6)) ∧ (∀ y0 y1 y2 y3, LeO (histogram_Merge.l3 k y0 y1 y2 y3) (histogram_Merge.l3 (k + 1) y0 y1 y2 y3))
  | 0 => ⟨fun _ _ _ _ _ r h => by simp [histogram_Merge.l0] at h, fun _ _ _ _ r h => by simp [histogram_Merge.l1] at h, fun _ _ _ _ _ _ _ r h => by simp [histogram_Merge.l2] at h, fun _ _ _ _ r h => by simp [histogram_Merge.l3] at h⟩
  | k + 1 => by
    obtain ⟨ih0, ih1, ih2, ih3⟩ := histogram_Merge.mono_l k
    refine ⟨?_, ?_, ?_, ?_⟩
    · intro y0 y1 y2 y3 y4
      unfold histogram_Merge.l0
      repeat' first
      | (with_reducible exact ih0 _ _ _ _ _)
      | (with_reducible exact ih1 _ _ _ _)
      | (with_reducible exact ih2 _ _ _ _ _ _ _)
      | (with_reducible exact ih3 _ _ _ _)
      | (with_reducible exact LeO.refl _)
      | (with_reducible exact LeO.none _)
      | (with_reducible refine LeO.ite ?_ ?_)
      | (with_reducible refine LeO.bind ?_ (fun _ => ?_))
      | exact ih0 _ _ _ _ _
      | exact ih1 _ _ _ _
      | exact ih2 _ _ _ _ _ _ _
      | exact ih3 _ _ _ _
      | exact LeO.none _
      | refine LeO.ite ?_ ?_
      | refine LeO.bind ?_ (fun _ => ?_)
    · intro y0 y1 y2 y3
      unfold histogram_Merge.l1
      repeat' first
      | (with_reducible exact ih0 _ _ _ _ _)
      | (with_reducible exact ih1 _ _ _ _)
      | (with_reducible exact ih2 _ _ _ _ _ _ _)
      | (with_reducible exact ih3 _ _ _ _)
      | (with_reducible exact LeO.refl _)
      | (with_reducible exact LeO.none _)
      | (with_reducible refine LeO.ite ?_ ?_)
      | (with_reducible refine LeO.bind ?_ (fun _ => ?_))
      | exact ih0 _ _ _ _ _
      | exact ih1 _ _ _ _
      | exact ih2 _ _ _ _ _ _ _
      | exact ih3 _ _ _ _
      | exact LeO.none _
      | refine LeO.ite ?_ ?_
      | refine LeO.bind ?_ (fun _ => ?_)
    · intro y0 y1 y2 y3 y4 y5 y6
      unfold histogram_Merge.l2
      repeat' first
      | (with_reducible exact ih0 _ _ _ _ _)
      | (with_reducible exact ih1 _ _ _ _)
      | (with_reducible exact ih2 _ _ _ _ _ _ _)
      | (with_reducible exact ih3 _ _ _ _)
      | (with_reducible exact LeO.refl _)
      | (with_reducible exact LeO.none _)
      | (with_reducible refine LeO.ite ?_ ?_)
      | (with_reducible refine LeO.bind ?_ (fun _ => ?_))
      | exact ih0 _ _ _ _ _
      | exact ih1 _ _ _ _
      | exact ih2 _ _ _ _ _ _ _
      | exact ih3 _ _ _ _
      | exact LeO.none _
      | refine LeO.ite ?_ ?_
      | refine LeO.bind ?_ (fun _ => ?_)
    · intro y0 y1 y2 y3
      unfold histogram_Merge.l3
      repeat' first
      | (with_reducible exact ih0 _ _ _ _ _)
      | (with_reducible exact ih1 _ _ _ _)
      | (with_reducible exact ih2 _ _ _ _ _ _ _)
      | (with_reducible exact ih3 _ _ _ _)
      | (with_reducible exact LeO.refl _)
      | (with_reducible exact LeO.none _)
      | (with_reducible refine LeO.ite ?_ ?_)
      | (with_reducible refine LeO.bind ?_ (fun _ => ?_))
      | exact ih0 _ _ _ _ _
      | exact ih1 _ _ _ _
      | exact ih2 _ _ _ _ _ _ _
      | exact ih3 _ _ _ _
      | exact LeO.none _
      | refine LeO.ite ?_ ?_
      | refine LeO.bind ?_ (fun _ => ?_)
theorem histogram_Merge.mono : ∀ a0 k, LeO (histogram_Merge.f k a0) (histogram_Merge.f (k + 1) a0) := by
  intro a0 k
  obtain ⟨ih0, ih1, ih2, ih3⟩ := histogram_Merge.mono_l k
  unfold histogram_Merge.f
  repeat' first
      | (with_reducible exact ih0 _ _ _ _ _)
      | (with_reducible exact ih1 _ _ _ _)
      | (with_reducible exact ih2 _ _ _ _ _ _ _)
      | (with_reducible exact ih3 _ _ _ _)
      | (with_reducible exact LeO.refl _)
      | (with_reducible exact LeO.none _)
      | (with_reducible refine LeO.ite ?_ ?_)
      | (with_reducible refine LeO.bind ?_ (fun _ => ?_))
      | exact ih0 _ _ _ _ _
      | exact ih1 _ _ _ _
      | exact ih2 _ _ _ _ _ _ _
      | exact ih3 _ _ _ _
      | exact LeO.none _
      | refine LeO.ite ?_ ?_
      | refine LeO.bind ?_ (fun _ => ?_)
set_option maxHeartbeats 8000000 in
set_option maxRecDepth 100000 in
theorem histogram_Merge.calls (k : Nat) (A0 : Option Addr) (c0 : Nat) (l0 : List (List Int)) (r1 : List Int) (r2 : Int) (w : World) (hr0 : Kd.C (Kd.slice 3 (Kd.int .i64)) w A0 l0.length l0) (hc0 : l0.length ≤ c0) (h : histogram_Merge.f k l0 = some (r1, r2)) :
    Calls Try.prog 25 #[.slice A0 l0.length c0] w fun e w' => ∃ v0_ : Value, e = .returned (.tuple #[v0_, .int .i64 r2]) ∧ Kd.R (Kd.int .i64) 3 w' w.heap.size (fun _ => True) v0_ r1 ∧ Below w.heap.size w w' := by
  have HR0 := Aside0.mk hr0
  have HC0 := Aside0.mk hc0
  clear hr0 hc0
  have HB := Aside0.mk (Below.refl w.heap.size w)
  have H : ((histogram_between.f (l0.length : Int) 1 4096).bind fun t193 => (if t193 = true then (if 0 < (l0.length : Int) then (histogram_Merge.l0 k l0 ((rd_L1 l0 0).length : Int) l0 (l0.length : Int) 0) else (none)) else (some (([] : List Int), 5)))) = some (r1, r2) := h
  clear h
  replace H := Option.bind_eq_some_iff.mp H
  obtain ⟨t193, A20, H⟩ := H
  replace H : (if t193 = true then (if 0 < (l0.length : Int) then (histogram_Merge.l0 k l0 ((rd_L1 l0 0).length : Int) l0 (l0.length : Int) 0) else (none)) else (some (([] : List Int), 5))) = some (r1, r2) := H
  have A2 := Aside0.mk A20
  clear A20
  by_cases c3 : t193 = true
  · subst c3
    have H1 : (if 0 < (l0.length : Int) then (histogram_Merge.l0 k l0 ((rd_L1 l0 0).length : Int) l0 (l0.length : Int) 0) else (none)) = some (r1, r2) := by rw [if_pos rfl] at H; exact H
    clear H
    have H := H1
    clear H1
    by_cases c4 : 0 < (l0.length : Int)
    · rw [if_pos c4] at H
      have c4b0 : decide (0 < (l0.length : Int)) = true := decide_eq_true c4
      have c4b1 : decide (0 < l0.length) = true := decide_eq_true (by omega)
      clear c4
      have H' := Aside0.mk H
      clear H
      go_enter Try.func25, Try.ntmps25
      go_wp2_with (first | ((with_reducible refine gate_callee (f := 30) rfl ?_); refine goesL_ (some 16) rfl rfl Try.func30 (by kernel_rfl) rfl #[.int .i64 (l0.length : Int), .int .i64 1, .int .i64 4096] rfl q100_ ?_; (with_reducible refine (histogram_between.calls (l0.length : Int) 1 4096 true _ A2.out).mono ?_); rintro e w' ⟨rfl, ⟨nd, rfl⟩⟩; refine ⟨_, rfl, ?_⟩; have p194 : 0 ≤ (0 : Int) := (by omega); have q194 : 0 < (l0.length : Int) := of_decide_eq_true q155_; obtain ⟨ad194, A194_0, c194_0, e194, hx194_0, hl194_0, hi194_0⟩ := at_L1 HR0.out 0 p194 q194; cases e194; have qi194 : (0 < l0.length) = True := eq_true (by omega); (try rw [show ((0 : Int)).toNat = 0 from rfl] at hx194_0); (try rw [Addr.add_zero'] at hx194_0); have HR194_0 := Aside0.mk hi194_0; have HC194_0 := Aside0.mk hl194_0; clear hi194_0 hl194_0; replace p194 := eq_true p194; replace q194 := eq_true q194))
      go_loopg [24] k (fun kq v24 w' => ∃ (x24_1 : Int), v24 = .int .i64 x24_1 ∧ Aside0 (histogram_Merge.l0 kq l0 ((rd_L1 l0 0).length : Int) l0 (l0.length : Int) x24_1 = some (r1, r2)) ∧ Aside0 (kq ≤ k) ∧ Aside0 (Below w.heap.size w w'))
      case atStart => exact ⟨(0), q156_, H', ⟨Nat.le_refl _⟩, ⟨q103_⟩⟩
      case round =>
        clear H'
        try clear c1
        try clear p1
        try clear q1
        try clear hx1
        try clear qi1
        try clear c2
        try clear p2
        try clear c3
        try clear c4
        try clear c4b0
        try clear c4b1
        try clear hx194_0
        try clear p194
        try clear q194
        obtain ⟨x24_1, rfl, HA, HK1, HB⟩ := hrel
        cases gk with
        | zero => exact absurd HA.out (by simp [histogram_Merge.l0])
        | succ k1 =>
          have H := HA.out
          clear HA
          simp only [histogram_Merge.l0] at H
          by_cases c5 : x24_1 < (l0.length : Int)
          · rw [if_pos c5] at H
            have c5b0 : decide (x24_1 < (l0.length : Int)) = true := decide_eq_true c5
            clear c5
            by_cases c6 : 0 ≤ x24_1
            · rw [if_pos c6] at H
              have c6b0 : decide (0 ≤ x24_1) = true := decide_eq_true c6
              clear c6
              by_cases c7 : x24_1 < (l0.length : Int)
              · rw [if_pos c7] at H
                have c7b0 : decide (x24_1 < (l0.length : Int)) = true := decide_eq_true c7
                clear c7
                by_cases c8 : ((rd_L1 l0 x24_1).length : Int) = ((rd_L1 l0 0).length : Int)
                · rw [if_pos c8] at H
                  have c8b0 : (((rd_L1 l0 x24_1).length : Int) == ((rd_L1 l0 0).length : Int)) = true := beq_iff_eq.mpr c8
                  have c8b1 : (((rd_L1 l0 x24_1).length : Int) != ((rd_L1 l0 0).length : Int)) = false := bne_eq_false_iff_eq.mpr c8
                  have c8b2 : ((rd_L1 l0 x24_1).length == (rd_L1 l0 0).length) = true := by first | simpa using c8 | (simp at c8 ⊢; omega)
                  clear c8
                  replace H := Option.bind_eq_some_iff.mp H
                  obtain ⟨t196, A90, H⟩ := H
                  replace H : (if t196 = true then (histogram_Merge.l0 k1 l0 ((rd_L1 l0 0).length : Int) l0 (l0.length : Int) (wrap64 (x24_1 + 1))) else (some (([] : List Int), 8))) = some (r1, r2) := H
                  have A9 := Aside0.mk A90
                  clear A90
                  by_cases c10 : t196 = true
                  · subst c10
                    have H1 : (histogram_Merge.l0 k1 l0 ((rd_L1 l0 0).length : Int) l0 (l0.length : Int) (wrap64 (x24_1 + 1))) = some (r1, r2) := by rw [if_pos rfl] at H; exact H
                    clear H
                    have H := H1
                    clear H1
                    have H' := Aside0.mk H
                    clear H
                    have p195 : 0 ≤ (x24_1 : Int) := of_decide_eq_true q155_
                    have q195 : x24_1 < (l0.length : Int) := of_decide_eq_true q155_
                    obtain ⟨ad195, A195_0, c195_0, e195, hx195_0, hl195_0, hi195_0⟩ := at_L1 HR0.out x24_1 p195 q195
                    obtain rfl : ad194 = ad195 := (by injection e195)
                    replace hx195_0 := (HB.out.cell (World.block_lt_of_cell? w _ hx195_0)).trans hx195_0
                    have HR195_0 := Aside0.mk hi195_0
                    have HC195_0 := Aside0.mk hl195_0
                    clear hi195_0 hl195_0
                    replace p195 := eq_true p195
                    replace q195 := eq_true q195
                    go_wp2_with (first | (go_at_call 30; (with_reducible refine (histogram_between.calls ((rd_L1 l0 0).length : Int) 1 128 true _ A9.out).mono ?_); rintro e w' ⟨rfl, ⟨nd, rfl⟩⟩))
                    go_roundg k1
                    case measure => have := HK1.out; omega
                    case rel => exact ⟨(wrap64 (x24_1 + 1)), q156_, H', ⟨by have := HK1.out; omega⟩, ⟨q103_⟩⟩
                  · replace c10 := Bool.eq_false_iff.mpr c10
                    subst c10
                    have H1 : (some (([] : List Int), 8)) = some (r1, r2) := by rw [if_neg (show ¬ (false = true) by decide)] at H; exact H
                    clear H
                    have H := H1
                    clear H1
                    simp only [Option.some.injEq, Prod.mk.injEq] at H
                    obtain ⟨rfl, rfl⟩ := H
                    have p195 : 0 ≤ (x24_1 : Int) := of_decide_eq_true q155_
                    have q195 : x24_1 < (l0.length : Int) := of_decide_eq_true q155_
                    obtain ⟨ad195, A195_0, c195_0, e195, hx195_0, hl195_0, hi195_0⟩ := at_L1 HR0.out x24_1 p195 q195
                    obtain rfl : ad194 = ad195 := (by injection e195)
                    replace hx195_0 := (HB.out.cell (World.block_lt_of_cell? w _ hx195_0)).trans hx195_0
                    have HR195_0 := Aside0.mk hi195_0
                    have HC195_0 := Aside0.mk hl195_0
                    clear hi195_0 hl195_0
                    replace p195 := eq_true p195
                    replace q195 := eq_true q195
                    go_wp2_with (first | (go_at_call 30; (with_reducible refine (histogram_between.calls ((rd_L1 l0 0).length : Int) 1 128 false _ A9.out).mono ?_); rintro e w' ⟨rfl, ⟨nd, rfl⟩⟩))
                    go_ret2
                    exact ⟨_, q152_, q97_, q103_⟩
                · rw [if_neg c8] at H
                  have c8b0 : (((rd_L1 l0 x24_1).length : Int) == ((rd_L1 l0 0).length : Int)) = false := beq_eq_false_iff_ne.mpr c8
                  have c8b1 : (((rd_L1 l0 x24_1).length : Int) != ((rd_L1 l0 0).length : Int)) = true := bne_iff_ne.mpr c8
                  have c8b2 : ((rd_L1 l0 x24_1).length == (rd_L1 l0 0).length) = false := by first | simpa using c8 | (simp at c8 ⊢; omega)
                  simp only [Option.some.injEq, Prod.mk.injEq] at H
                  obtain ⟨rfl, rfl⟩ := H
                  have p195 : 0 ≤ (x24_1 : Int) := of_decide_eq_true q155_
                  have q195 : x24_1 < (l0.length : Int) := of_decide_eq_true q155_
                  obtain ⟨ad195, A195_0, c195_0, e195, hx195_0, hl195_0, hi195_0⟩ := at_L1 HR0.out x24_1 p195 q195
                  obtain rfl : ad194 = ad195 := (by injection e195)
                  replace hx195_0 := (HB.out.cell (World.block_lt_of_cell? w _ hx195_0)).trans hx195_0
                  have HR195_0 := Aside0.mk hi195_0
                  have HC195_0 := Aside0.mk hl195_0
                  clear hi195_0 hl195_0
                  replace p195 := eq_true p195
                  replace q195 := eq_true q195
                  go_wp2
                  go_ret2
                  exact ⟨_, q152_, q97_, q103_⟩
              · rw [if_neg c7] at H
                exact absurd H (by simp)
            · rw [if_neg c6] at H
              exact absurd H (by simp)
          · rw [if_neg c5] at H
            have c5b0 : decide (x24_1 < (l0.length : Int)) = false := decide_eq_false c5
            clear c5
            by_cases c11 : 0 ≤ ((rd_L1 l0 0).length : Int)
            · rw [if_pos c11] at H
              have c11b0 := eq_true c11
              have c11b1 : decide (0 ≤ ((rd_L1 l0 0).length : Int)) = true := decide_eq_true c11
              clear c11
              by_cases c12 : (((rd_L1 l0 0).length : Int) : Int).toNat ≤ 35184372088832
              · rw [if_pos c12] at H
                have c12b0 := eq_true c12
                have c12b1 : decide ((((rd_L1 l0 0).length : Int) : Int).toNat ≤ 35184372088832) = true := decide_eq_true c12
                clear c12
                obtain ⟨y197, hy197⟩ : ∃ y_ : List Int, y_ = (List.replicate (((rd_L1 l0 0).length : Int) : Int).toNat 0) := ⟨_, rfl⟩
                replace H : (histogram_Merge.l1 k1 y197 l0 (l0.length : Int) 0) = some (r1, r2) := by first | (rw [hy197]; with_reducible exact H) | (have H2_ := (Option.bind_some _ _).symm.trans H; rw [hy197]; with_reducible exact H2_) | (have H2_ := (Option.bind_some _ _).symm.trans H; with_reducible exact H2_) | with_reducible exact H | (rw [hy197]; exact H) | exact H
                have Ny197 := Aside0.mk hy197
                clear hy197
                have H' := Aside0.mk H
                clear H
                go_wp2_with (first | ((with_reducible refine gate_dst (N := 39) rfl ?_); refine Kd.R_make (Kd.int .i64) _ 3 rfl (N := 39) rfl 22 _ _ rfl ((rd_L1 l0 0).length : Int) rfl rfl Try.underlying22 (.int .i64 0) 8 info3 rfl (by decide) (by omega) 0 (ok := fun _ => True) (okp := fun _ => True) rfl (fun _ hk => hk) trivial (of_decide_eq_true q155_) (Nat.le_trans (Nat.mul_le_mul_right _ (of_decide_eq_true q155_ : ((rd_L1 l0 0).length : Int).toNat ≤ 35184372088832)) (by omega)) (Below.refl _ _) (Nat.le_refl _) ?_; intro v198 w13 ho14 hb hg_ hnew_; clear hg_ hnew_; (first | rw [← Ny197.out] at ho14 | (simp only [Int.reduceToNat] at ho14; rw [← Ny197.out] at ho14)); have n0_ := Aside0.mk (Kd.R_lower ho14 (below_size q103_)); have n1_ := Aside0.mk (below_step q103_ hb); clear HB; have HO199 := n0_; have HB := n1_; clear n0_ n1_; clear hb ho14))
                go_loopg [42] k1 (fun kq v42 w' => ∃ (x7_2 : List Int) (x42_2 : Int), v42 = .int .i64 x42_2 ∧ Aside0 (histogram_Merge.l1 kq x7_2 l0 (l0.length : Int) x42_2 = some (r1, r2)) ∧ Aside0 (kq ≤ k1) ∧ Aside0 (Kd.R (Kd.int .i64) 3 w' w.heap.size (fun _ => True) v198 x7_2) ∧ Aside0 (Below w.heap.size w w'))
                case atStart => exact ⟨(y197), (0), q156_, H', ⟨Nat.le_refl _⟩, ⟨by (with_reducible repeat (first | apply Kd.R_alloc | apply Kd.R_drewN | apply Kd.R_drew)); exact HO199.out⟩, ⟨q103_⟩⟩
                case round =>
                  clear H'
                  try clear c1
                  try clear p1
                  try clear q1
                  try clear hx1
                  try clear qi1
                  try clear c2
                  try clear p2
                  try clear c3
                  try clear c4
                  try clear c4b0
                  try clear c4b1
                  try clear c5
                  try clear c5b0
                  try clear c6
                  try clear c6b0
                  try clear p6
                  try clear c7
                  try clear c7b0
                  try clear c8
                  try clear c8b0
                  try clear c8b1
                  try clear c8b2
                  try clear c10
                  try clear c11
                  try clear c11b0
                  try clear c11b1
                  try clear c12
                  try clear c12b0
                  try clear c12b1
                  try clear hx194_0
                  try clear hx195_0
                  try clear p1
                  try clear p194
                  try clear p195
                  try clear p2
                  try clear q1
                  try clear q194
                  try clear q195
                  obtain ⟨x7_2, x42_2, rfl, HA, HK2, HO_7, HB⟩ := hrel
                  cases gk with
                  | zero => exact absurd HA.out (by simp [histogram_Merge.l1])
                  | succ k2 =>
                    have H := HA.out
                    clear HA
                    simp only [histogram_Merge.l1] at H
                    by_cases c15 : x42_2 < (l0.length : Int)
                    · rw [if_pos c15] at H
                      have c15b0 : decide (x42_2 < (l0.length : Int)) = true := decide_eq_true c15
                      clear c15
                      by_cases c16 : 0 ≤ x42_2
                      · rw [if_pos c16] at H
                        have c16b0 : decide (0 ≤ x42_2) = true := decide_eq_true c16
                        clear c16
                        by_cases c17 : x42_2 < (l0.length : Int)
                        · rw [if_pos c17] at H
                          have c17b0 : decide (x42_2 < (l0.length : Int)) = true := decide_eq_true c17
                          clear c17
                          have H' := Aside0.mk H
                          clear H
                          have p200 : 0 ≤ (x42_2 : Int) := of_decide_eq_true q155_
                          have q200 : x42_2 < (l0.length : Int) := of_decide_eq_true q155_
                          obtain ⟨ad200, A200_0, c200_0, e200, hx200_0, hl200_0, hi200_0⟩ := at_L1 HR0.out x42_2 p200 q200
                          obtain rfl : ad194 = ad200 := (by injection e200)
                          replace hx200_0 := (HB.out.cell (World.block_lt_of_cell? w _ hx200_0)).trans hx200_0
                          have HR200_0 := Aside0.mk hi200_0
                          have HC200_0 := Aside0.mk hl200_0
                          clear hi200_0 hl200_0
                          replace p200 := eq_true p200
                          replace q200 := eq_true q200
                          go_wp2
                          go_loopg [48] k2 (fun kq v48 w' => ∃ (x7_3 : List Int) (x48_3 : Int), v48 = .int .i64 x48_3 ∧ Aside0 (histogram_Merge.l2 kq x7_3 l0 (l0.length : Int) x42_2 (rd_L1 l0 x42_2) ((rd_L1 l0 x42_2).length : Int) x48_3 = some (r1, r2)) ∧ Aside0 (kq ≤ k2) ∧ Aside0 (Kd.R (Kd.int .i64) 3 w' w.heap.size (fun _ => True) v198 x7_3) ∧ Aside0 (Below w.heap.size w w'))
                          case atStart => exact ⟨(x7_2), (0), q156_, H', ⟨Nat.le_refl _⟩, ⟨q151_⟩, ⟨q103_⟩⟩
                          case round =>
                            clear H'
                            try clear c1
                            try clear p1
                            try clear q1
                            try clear hx1
                            try clear qi1
                            try clear c2
                            try clear p2
                            try clear q2
                            try clear hx2
                            try clear c3
                            try clear c4
                            try clear c4b0
                            try clear c4b1
                            try clear c5
                            try clear c5b0
                            try clear c6
                            try clear c6b0
                            try clear p6
                            try clear c7
                            try clear c7b0
                            try clear c8
                            try clear c8b0
                            try clear c8b1
                            try clear c8b2
                            try clear c10
                            try clear c11
                            try clear c11b0
                            try clear c11b1
                            try clear c12
                            try clear c12b0
                            try clear c12b1
                            try clear c15
                            try clear c15b0
                            try clear c16
                            try clear c16b0
                            try clear c17
                            try clear c17b0
                            try clear hx194_0
                            try clear hx195_0
                            try clear hx200_0
                            try clear p1
                            try clear p194
                            try clear p195
                            try clear p2
                            try clear p200
                            try clear p6
                            try clear q1
                            try clear q194
                            try clear q195
                            try clear q200
                            obtain ⟨x7_3, x48_3, rfl, HA, HK3, HO_7, HB⟩ := hrel
                            cases gk with
                            | zero => exact absurd HA.out (by simp [histogram_Merge.l2])
                            | succ k3 =>
                              have H := HA.out
                              clear HA
                              simp only [histogram_Merge.l2] at H
                              by_cases c18 : x48_3 < ((rd_L1 l0 x42_2).length : Int)
                              · rw [if_pos c18] at H
                                have c18b0 : decide (x48_3 < ((rd_L1 l0 x42_2).length : Int)) = true := decide_eq_true c18
                                clear c18
                                by_cases c19 : 0 ≤ x48_3
                                · rw [if_pos c19] at H
                                  have c19b0 : decide (0 ≤ x48_3) = true := decide_eq_true c19
                                  clear c19
                                  by_cases c20 : x48_3 < ((rd_L1 l0 x42_2).length : Int)
                                  · rw [if_pos c20] at H
                                    have c20b0 : decide (x48_3 < ((rd_L1 l0 x42_2).length : Int)) = true := decide_eq_true c20
                                    clear c20
                                    replace H := Option.bind_eq_some_iff.mp H
                                    obtain ⟨t202, A210, H⟩ := H
                                    replace H : (if t202 = true then (if x48_3 < (x7_3.length : Int) then (histogram_Merge.l2 k3 (x7_3.set (x48_3 : Int).toNat (wrap64 ((rd x7_3 x48_3) + (rd (rd_L1 l0 x42_2) x48_3)))) l0 (l0.length : Int) x42_2 (rd_L1 l0 x42_2) ((rd_L1 l0 x42_2).length : Int) (wrap64 (x48_3 + 1))) else (none)) else (some (([] : List Int), 2))) = some (r1, r2) := H
                                    have A21 := Aside0.mk A210
                                    clear A210
                                    by_cases c22 : t202 = true
                                    · subst c22
                                      have H1 : (if x48_3 < (x7_3.length : Int) then (histogram_Merge.l2 k3 (x7_3.set (x48_3 : Int).toNat (wrap64 ((rd x7_3 x48_3) + (rd (rd_L1 l0 x42_2) x48_3)))) l0 (l0.length : Int) x42_2 (rd_L1 l0 x42_2) ((rd_L1 l0 x42_2).length : Int) (wrap64 (x48_3 + 1))) else (none)) = some (r1, r2) := by rw [if_pos rfl] at H; exact H
                                      clear H
                                      have H := H1
                                      clear H1
                                      by_cases c23 : x48_3 < (x7_3.length : Int)
                                      · rw [if_pos c23] at H
                                        have c23b0 : decide (x48_3 < (x7_3.length : Int)) = true := decide_eq_true c23
                                        clear c23
                                        obtain ⟨y204, hy204⟩ : ∃ y_ : List Int, y_ = (x7_3.set (x48_3 : Int).toNat (wrap64 ((rd x7_3 x48_3) + (rd (rd_L1 l0 x42_2) x48_3)))) := ⟨_, rfl⟩
                                        replace H : (histogram_Merge.l2 k3 y204 l0 (l0.length : Int) x42_2 (rd_L1 l0 x42_2) ((rd_L1 l0 x42_2).length : Int) (wrap64 (x48_3 + 1))) = some (r1, r2) := by first | (rw [hy204]; with_reducible exact H) | (have H2_ := (Option.bind_some _ _).symm.trans H; rw [hy204]; with_reducible exact H2_) | (have H2_ := (Option.bind_some _ _).symm.trans H; with_reducible exact H2_) | with_reducible exact H | (rw [hy204]; exact H) | exact H
                                        have Ny204 := Aside0.mk hy204
                                        clear hy204
                                        have H' := Aside0.mk H
                                        clear H
                                        have p201 : 0 ≤ (x48_3 : Int) := of_decide_eq_true q155_
                                        have q201 : x48_3 < ((rd_L1 l0 x42_2).length : Int) := of_decide_eq_true q155_
                                        obtain ⟨ad201, e201, hx201_0⟩ := Kd.at_int HR200_0.out x48_3 p201 q201
                                        cases e201
                                        replace hx201_0 := (HB.out.cell (World.block_lt_of_cell? w _ hx201_0)).trans hx201_0
                                        replace p201 := eq_true p201
                                        replace q201 := eq_true q201
                                        go_wp2_with (first | ((with_reducible refine gate_callee (f := 30) rfl ?_); refine goesL_ (some 54) rfl rfl Try.func30 (by kernel_rfl) rfl #[.int .i64 (rd (rd_L1 l0 x42_2) x48_3), .int .i64 0, .int .i64 4096] rfl q100_ ?_; (with_reducible refine (histogram_between.calls (rd (rd_L1 l0 x42_2) x48_3) 0 4096 true _ A21.out).mono ?_); rintro e w' ⟨rfl, ⟨nd, rfl⟩⟩; refine ⟨_, rfl, ?_⟩; (try (rw [drewN_self wr]; generalize hq_ : World.drewN wr _ = wr; have n0_ : Aside0 (Kd.R (Kd.int .i64) 3 wr w.heap.size (fun _ => True) v198 x7_3) := ⟨by rw [← hq_]; exact q151_⟩; have n1_ : Aside0 (Below w.heap.size w wr) := ⟨by rw [← hq_]; exact q103_⟩; clear HO_7 HB hq_; have HO_7 := n0_; have HB := n1_; clear n0_ n1_)); obtain ⟨Ao25, co25, eo25⟩ := Kd.R_slice HO_7.out; subst eo25; have p203 : 0 ≤ (x48_3 : Int) := of_decide_eq_true q155_; have q203 : x48_3 < (x7_3.length : Int) := of_decide_eq_true q155_; obtain ⟨ad203, e203, hx203_0⟩ := Kd.at_int (Kd.R_reads' HO_7.out).2.2 x48_3 p203 q203; cases e203; replace p203 := eq_true p203; replace q203 := eq_true q203; have p24 : 0 ≤ (x48_3 : Int) := of_decide_eq_true q155_; have q24 : (x48_3 : Int) < ((x7_3.length : Int) : Int) := of_decide_eq_true q155_; obtain ⟨go24, co24, eo24, gb24, gl24, cl24, HG24⟩ := Kd.R_form HO_7.out (by omega); (first | cases eo24 | (injection eo24 with ea_ en_ ec_; (first | subst ea_ | (injection ea_ with ea_; subst ea_)); subst ec_; clear en_)); have GB24 := Aside0.mk gb24; have GG24 := Aside0.mk HG24; clear gb24 gl24 HG24; (first | simp only [add_plain] at hx203_0 | skip); obtain ⟨hx24_0, hf24_0⟩ := Kd.R_celln 0 HO_7.out (x48_3 : Int) p24 q24; replace p24 := eq_true p24; replace q24 := eq_true q24; obtain ⟨hy26_, hz26_⟩ := Kd.R_celln 0 HO_7.out (x48_3 : Int) (of_decide_eq_true q155_) (of_decide_eq_true q155_); have HP26 := Kd.R_putg HO_7.out (x48_3 : Int) (wrap64 ((rd x7_3 x48_3) + (rd (rd_L1 l0 x42_2) x48_3)))) | ((with_reducible refine gate_store (t := 3) (p := 62) rfl ?_); refine store_event (t := 3) (p := 62) (v := ?vo_w27) (w1 := (wr.setCell ⟨go24, (x48_3 : Int).toNat, none⟩ (.int .i64 (wrap64 ((rd x7_3 x48_3) + (rd (rd_L1 l0 x42_2) x48_3)))))) ?hg ?ho ?hn ?hr ?_; (case ho => rfl); (case hg => rfl); (case hn => rfl); (case hr => first | (go_simp; done) | (go_simp; rfl)); intro w27 hw; have hg : wr.grownBy w27 (some go24) := (by rw [hw]; exact HP26.2); have hp_ : Kd.R (Kd.int .i64) 3 w27 w.heap.size (fun _ => True) (.slice (some ⟨go24, 0, none⟩) x7_3.length co25) y204 := (by rw [hw, Ny204.out]; exact HP26.1); clear HP26; have n0_ := Aside0.mk (hp_); have n1_ := Aside0.mk ((by rw [hw]; exact below_set (HB.out) GB24.out : Below w.heap.size w w27)); clear HO_7; clear HB; have HO_7 := n0_; have HB := n1_; clear n0_ n1_; clear hg hw hp_))
                                        go_roundg k3
                                        case measure => have := HK1.out; have := HK2.out; have := HK3.out; omega
                                        case rel => exact ⟨(y204), (wrap64 (x48_3 + 1)), q156_, H', ⟨q154_⟩, ⟨q151_⟩, ⟨q103_⟩⟩
                                      · rw [if_neg c23] at H
                                        exact absurd H (by simp)
                                    · replace c22 := Bool.eq_false_iff.mpr c22
                                      subst c22
                                      have H1 : (some (([] : List Int), 2)) = some (r1, r2) := by rw [if_neg (show ¬ (false = true) by decide)] at H; exact H
                                      clear H
                                      have H := H1
                                      clear H1
                                      simp only [Option.some.injEq, Prod.mk.injEq] at H
                                      obtain ⟨rfl, rfl⟩ := H
                                      have p201 : 0 ≤ (x48_3 : Int) := of_decide_eq_true q155_
                                      have q201 : x48_3 < ((rd_L1 l0 x42_2).length : Int) := of_decide_eq_true q155_
                                      obtain ⟨ad201, e201, hx201_0⟩ := Kd.at_int HR200_0.out x48_3 p201 q201
                                      cases e201
                                      replace hx201_0 := (HB.out.cell (World.block_lt_of_cell? w _ hx201_0)).trans hx201_0
                                      replace p201 := eq_true p201
                                      replace q201 := eq_true q201
                                      go_wp2_with (first | ((with_reducible refine gate_callee (f := 30) rfl ?_); refine goesL_ (some 54) rfl rfl Try.func30 (by kernel_rfl) rfl #[.int .i64 (rd (rd_L1 l0 x42_2) x48_3), .int .i64 0, .int .i64 4096] rfl q100_ ?_; (with_reducible refine (histogram_between.calls (rd (rd_L1 l0 x42_2) x48_3) 0 4096 false _ A21.out).mono ?_); rintro e w' ⟨rfl, ⟨nd, rfl⟩⟩; refine ⟨_, rfl, ?_⟩))
                                      go_ret2
                                      exact ⟨_, q152_, q97_, q103_⟩
                                  · rw [if_neg c20] at H
                                    exact absurd H (by simp)
                                · rw [if_neg c19] at H
                                  exact absurd H (by simp)
                              · rw [if_neg c18] at H
                                have c18b0 : decide (x48_3 < ((rd_L1 l0 x42_2).length : Int)) = false := decide_eq_false c18
                                clear c18
                                have H' := Aside0.mk H
                                clear H
                                go_wp2
                                go_roundg k3
                                case measure => have := HK1.out; have := HK2.out; have := HK3.out; omega
                                case rel => exact ⟨(x7_3), (wrap64 (x42_2 + 1)), q156_, H', ⟨q154_⟩, ⟨q151_⟩, ⟨q103_⟩⟩
                        · rw [if_neg c17] at H
                          exact absurd H (by simp)
                      · rw [if_neg c16] at H
                        exact absurd H (by simp)
                    · rw [if_neg c15] at H
                      have c15b0 : decide (x42_2 < (l0.length : Int)) = false := decide_eq_false c15
                      clear c15
                      have H' := Aside0.mk H
                      clear H
                      obtain ⟨Ao28, co28, eo28⟩ := Kd.R_slice HO_7.out
                      subst eo28
                      go_wp2
                      go_loopg [67] k2 (fun kq v67 w' => ∃ (x67_3 : Int), v67 = .int .i64 x67_3 ∧ Aside0 (histogram_Merge.l3 kq x7_2 x7_2 (x7_2.length : Int) x67_3 = some (r1, r2)) ∧ Aside0 (kq ≤ k2) ∧ Aside0 (Kd.R (Kd.int .i64) 3 w' w.heap.size (fun _ => True) (.slice Ao28 x7_2.length co28) x7_2) ∧ Aside0 (Kd.R (Kd.int .i64) 3 w' w.heap.size (fun _ => True) (.slice Ao28 x7_2.length co28) x7_2) ∧ Aside0 (Below w.heap.size w w'))
                      case atStart => exact ⟨(0), q156_, H', ⟨Nat.le_refl _⟩, ⟨q151_⟩, ⟨q151_⟩, ⟨q103_⟩⟩
                      case round =>
                        clear H'
                        try clear c1
                        try clear p1
                        try clear q1
                        try clear hx1
                        try clear qi1
                        try clear c2
                        try clear p2
                        try clear q2
                        try clear hx2
                        try clear hf2
                        try clear c3
                        try clear c4
                        try clear c4b0
                        try clear c4b1
                        try clear c5
                        try clear c5b0
                        try clear c6
                        try clear c6b0
                        try clear p6
                        try clear c7
                        try clear c7b0
                        try clear c8
                        try clear c8b0
                        try clear c8b1
                        try clear c8b2
                        try clear c10
                        try clear c11
                        try clear c11b0
                        try clear c11b1
                        try clear c12
                        try clear c12b0
                        try clear c12b1
                        try clear c15
                        try clear c15b0
                        try clear c16
                        try clear c16b0
                        try clear c17
                        try clear c17b0
                        try clear c18
                        try clear c18b0
                        try clear c19
                        try clear c19b0
                        try clear p19
                        try clear q19
                        try clear hx19
                        try clear qi19
                        try clear c20
                        try clear c20b0
                        try clear p20
                        try clear q20
                        try clear hx20
                        try clear c22
                        try clear c23
                        try clear c23b0
                        try clear p24
                        try clear q24
                        try clear hx24
                        try clear hf24
                        try clear c25
                        try clear hx194_0
                        try clear hx195_0
                        try clear hx200_0
                        try clear hx201_0
                        try clear hx203_0
                        try clear hx24_0
                        try clear p1
                        try clear p194
                        try clear p195
                        try clear p2
                        try clear p200
                        try clear p201
                        try clear p203
                        try clear p24
                        try clear p6
                        try clear q1
                        try clear q194
                        try clear q195
                        try clear q2
                        try clear q200
                        try clear q201
                        try clear q203
                        try clear q24
                        obtain ⟨x67_3, rfl, HA, HK3, HO_7, HO_65, HB⟩ := hrel
                        cases gk with
                        | zero => exact absurd HA.out (by simp [histogram_Merge.l3])
                        | succ k3 =>
                          have H := HA.out
                          clear HA
                          simp only [histogram_Merge.l3] at H
                          by_cases c29 : x67_3 < (x7_2.length : Int)
                          · rw [if_pos c29] at H
                            have c29b0 : decide (x67_3 < (x7_2.length : Int)) = true := decide_eq_true c29
                            clear c29
                            by_cases c30 : 0 ≤ x67_3
                            · rw [if_pos c30] at H
                              have c30b0 : decide (0 ≤ x67_3) = true := decide_eq_true c30
                              clear c30
                              by_cases c31 : x67_3 < (x7_2.length : Int)
                              · rw [if_pos c31] at H
                                have c31b0 : decide (x67_3 < (x7_2.length : Int)) = true := decide_eq_true c31
                                clear c31
                                by_cases c32 : (rd x7_2 x67_3) > 4096
                                · rw [if_pos c32] at H
                                  have c32b0 : decide (4096 < (rd x7_2 x67_3)) = true := decide_eq_true c32
                                  clear c32
                                  simp only [Option.some.injEq, Prod.mk.injEq] at H
                                  obtain ⟨rfl, rfl⟩ := H
                                  have p205 : 0 ≤ (x67_3 : Int) := of_decide_eq_true q155_
                                  have q205 : x67_3 < (x7_2.length : Int) := of_decide_eq_true q155_
                                  obtain ⟨ad205, e205, hx205_0⟩ := Kd.at_int (Kd.R_reads' HO_65.out).2.2 x67_3 p205 q205
                                  cases e205
                                  replace p205 := eq_true p205
                                  replace q205 := eq_true q205
                                  go_wp2
                                  go_ret2
                                  exact ⟨_, q152_, q97_, q103_⟩
                                · rw [if_neg c32] at H
                                  have c32b0 : decide (4096 < (rd x7_2 x67_3)) = false := decide_eq_false c32
                                  clear c32
                                  have H' := Aside0.mk H
                                  clear H
                                  have p205 : 0 ≤ (x67_3 : Int) := of_decide_eq_true q155_
                                  have q205 : x67_3 < (x7_2.length : Int) := of_decide_eq_true q155_
                                  obtain ⟨ad205, e205, hx205_0⟩ := Kd.at_int (Kd.R_reads' HO_65.out).2.2 x67_3 p205 q205
                                  cases e205
                                  replace p205 := eq_true p205
                                  replace q205 := eq_true q205
                                  go_wp2
                                  go_roundg k3
                                  case measure => have := HK1.out; have := HK2.out; have := HK3.out; omega
                                  case rel => exact ⟨(wrap64 (x67_3 + 1)), q156_, H', ⟨q154_⟩, ⟨q151_⟩, ⟨by (with_reducible repeat (first | apply Kd.R_alloc | apply Kd.R_drewN | apply Kd.R_drew)); exact HO_65.out⟩, ⟨q103_⟩⟩
                              · rw [if_neg c31] at H
                                exact absurd H (by simp)
                            · rw [if_neg c30] at H
                              exact absurd H (by simp)
                          · rw [if_neg c29] at H
                            have c29b0 : decide (x67_3 < (x7_2.length : Int)) = false := decide_eq_false c29
                            clear c29
                            simp only [Option.some.injEq, Prod.mk.injEq] at H
                            obtain ⟨rfl, rfl⟩ := H
                            go_wp2
                            go_ret2
                            exact ⟨_, q152_, q151_, q103_⟩
              · rw [if_neg c12] at H
                exact absurd H (by simp)
            · rw [if_neg c11] at H
              exact absurd H (by simp)
    · rw [if_neg c4] at H
      exact absurd H (by simp)
  · replace c3 := Bool.eq_false_iff.mpr c3
    subst c3
    have H1 : (some (([] : List Int), 5)) = some (r1, r2) := by rw [if_neg (show ¬ (false = true) by decide)] at H; exact H
    clear H
    have H := H1
    clear H1
    simp only [Option.some.injEq, Prod.mk.injEq] at H
    obtain ⟨rfl, rfl⟩ := H
    go_enter Try.func25, Try.ntmps25
    go_wp2_with (first | ((with_reducible refine gate_callee (f := 30) rfl ?_); refine goesL_ (some 16) rfl rfl Try.func30 (by kernel_rfl) rfl #[.int .i64 (l0.length : Int), .int .i64 1, .int .i64 4096] rfl q100_ ?_; (with_reducible refine (histogram_between.calls (l0.length : Int) 1 4096 false _ A2.out).mono ?_); rintro e w' ⟨rfl, ⟨nd, rfl⟩⟩; refine ⟨_, rfl, ?_⟩))
    go_ret2
    exact ⟨_, q152_, q97_, q103_⟩

end Go.Proofs.Yticicecobchdiaa.PHistogramCounts
