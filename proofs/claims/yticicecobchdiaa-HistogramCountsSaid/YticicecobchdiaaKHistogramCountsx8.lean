-- Written by a program of the session (wip/tools/pack.py): the printed texts, pruned; checked by Lean.
import Derived.Test.YticicecobchdiaaKHistogramCountsa
import Derived.Test.YticicecobchdiaaKHistogramCountsx0
import Derived.Test.YticicecobchdiaaKHistogramCountsx2
import Derived.Test.YticicecobchdiaaKHistogramCountsx4
import Derived.Test.YticicecobchdiaaKHistogramCountsx6
import Derived.Test.YticicecobchdiaaKHistogramCountsx7
namespace Go.Proofs.Yticicecobchdiaa.PHistogramCounts
open Go.RowKit Go.Proofs.YticicecobchdiaaW.PrintWords Go.Proofs.YticicecobchdiaaW.PrintLast Go.Proofs.YticicecobchdiaaW.PrintMore
attribute [local go_sem] max2_int min2_int max_two min_two max_three min_three max_four min_four   -- for this text's walks alone
set_option linter.unusedVariables false
set_option linter.unusedSimpArgs false
def tilefarmlaw12_sane.f (k : Nat)  : Option (Bool) := (some (([63, 64] : List Int) : List Int)).bind fun y206 => ((histogram_Partial.f k 2 1 255 y206 4 0 0 2 1).bind fun bt210 => ((histogram_Whole.f k 2 1 255 y206 4).bind fun bt214 => ((histogram_Merge.f k (([(([1, 2] : List Int)), (([3, 4] : List Int))] : List (List Int)))).bind fun bt231 => ((histogram_Bin.f 63 255 4).bind fun t235 => (if t235 = 0 then ((histogram_Bin.f 64 255 4).bind fun t236 => (if t236 = 1 then (if bt210.2 = 0 then (if (bt210.1.length : Int) = 4 then (if 1 < (bt210.1.length : Int) then (if (rd bt210.1 1) = 1 then (if bt214.2.2.2.2 = 0 then (if bt214.2.2.1 = 2 then (if bt231.2 = 0 then (if (bt231.1.length : Int) = 2 then (if 1 < (bt231.1.length : Int) then (some ((rd bt231.1 1) == 6)) else (none)) else (some false)) else (some false)) else (some false)) else (some false)) else (some false)) else (none)) else (some false)) else (some false)) else (some false))) else (some false))))))
theorem tilefarmlaw12_sane.mono : ∀ k, LeO (tilefarmlaw12_sane.f k ) (tilefarmlaw12_sane.f (k + 1) ) := by
  intro  k
  unfold tilefarmlaw12_sane.f
  repeat' first
      | (with_reducible exact histogram_Merge.mono _ _)
      | (with_reducible exact histogram_Partial.mono _ _ _ _ _ _ _ _ _ _)
      | (with_reducible exact histogram_Whole.mono _ _ _ _ _ _)
      | (with_reducible exact LeO.refl _)
      | (with_reducible exact LeO.none _)
      | (with_reducible refine LeO.ite ?_ ?_)
      | (with_reducible refine LeO.bind ?_ (fun _ => ?_))
      | exact histogram_Merge.mono _ _
      | exact histogram_Partial.mono _ _ _ _ _ _ _ _ _ _
      | exact histogram_Whole.mono _ _ _ _ _ _
      | exact LeO.none _
      | refine LeO.ite ?_ ?_
      | refine LeO.bind ?_ (fun _ => ?_)
set_option maxHeartbeats 8000000 in
set_option maxRecDepth 100000 in
theorem tilefarmlaw12_sane.calls (k : Nat)  (r : Bool) (w : World) (h : tilefarmlaw12_sane.f k  = some r) (hT : r = true := by first | rfl | assumption | exact HT.out) :
    Calls Try.prog 16 #[] w fun e w' => e = .returned (.bool r) ∧ Below w.heap.size w w' := by
  have HT := Aside0.mk hT
  clear hT
  have hu26 := Try.underlying26
  have hu39 := Try.underlying39
  have HB := Aside0.mk (Below.refl w.heap.size w)
  have H : ((some (([63, 64] : List Int) : List Int)).bind fun y206 => ((histogram_Partial.f k 2 1 255 y206 4 0 0 2 1).bind fun bt210 => ((histogram_Whole.f k 2 1 255 y206 4).bind fun bt214 => ((histogram_Merge.f k (([(([1, 2] : List Int)), (([3, 4] : List Int))] : List (List Int)))).bind fun bt231 => ((histogram_Bin.f 63 255 4).bind fun t235 => (if t235 = 0 then ((histogram_Bin.f 64 255 4).bind fun t236 => (if t236 = 1 then (if bt210.2 = 0 then (if (bt210.1.length : Int) = 4 then (if 1 < (bt210.1.length : Int) then (if (rd bt210.1 1) = 1 then (if bt214.2.2.2.2 = 0 then (if bt214.2.2.1 = 2 then (if bt231.2 = 0 then (if (bt231.1.length : Int) = 2 then (if 1 < (bt231.1.length : Int) then (some ((rd bt231.1 1) == 6)) else (none)) else (some false)) else (some false)) else (some false)) else (some false)) else (some false)) else (none)) else (some false)) else (some false)) else (some false))) else (some false))))))) = some r := h
  clear h
  obtain ⟨y206, hy206⟩ : ∃ y_ : List Int, y_ = (([63, 64] : List Int)) := ⟨_, rfl⟩
  replace H : ((histogram_Partial.f k 2 1 255 y206 4 0 0 2 1).bind fun bt210 => ((histogram_Whole.f k 2 1 255 y206 4).bind fun bt214 => ((histogram_Merge.f k (([(([1, 2] : List Int)), (([3, 4] : List Int))] : List (List Int)))).bind fun bt231 => ((histogram_Bin.f 63 255 4).bind fun t235 => (if t235 = 0 then ((histogram_Bin.f 64 255 4).bind fun t236 => (if t236 = 1 then (if bt210.2 = 0 then (if (bt210.1.length : Int) = 4 then (if 1 < (bt210.1.length : Int) then (if (rd bt210.1 1) = 1 then (if bt214.2.2.2.2 = 0 then (if bt214.2.2.1 = 2 then (if bt231.2 = 0 then (if (bt231.1.length : Int) = 2 then (if 1 < (bt231.1.length : Int) then (some ((rd bt231.1 1) == 6)) else (none)) else (some false)) else (some false)) else (some false)) else (some false)) else (some false)) else (none)) else (some false)) else (some false)) else (some false))) else (some false)))))) = some r := by first | (rw [hy206]; with_reducible exact H) | (have H2_ := (Option.bind_some _ _).symm.trans H; rw [hy206]; with_reducible exact H2_) | (have H2_ := (Option.bind_some _ _).symm.trans H; with_reducible exact H2_) | with_reducible exact H | (rw [hy206]; exact H) | exact H
  have Ny206 := Aside0.mk hy206
  clear hy206
  replace H := Option.bind_eq_some_iff.mp H
  obtain ⟨⟨t210, t213⟩, A10, H⟩ := H
  replace H : ((histogram_Whole.f k 2 1 255 y206 4).bind fun bt214 => ((histogram_Merge.f k (([(([1, 2] : List Int)), (([3, 4] : List Int))] : List (List Int)))).bind fun bt231 => ((histogram_Bin.f 63 255 4).bind fun t235 => (if t235 = 0 then ((histogram_Bin.f 64 255 4).bind fun t236 => (if t236 = 1 then (if t213 = 0 then (if (t210.length : Int) = 4 then (if 1 < (t210.length : Int) then (if (rd t210 1) = 1 then (if bt214.2.2.2.2 = 0 then (if bt214.2.2.1 = 2 then (if bt231.2 = 0 then (if (bt231.1.length : Int) = 2 then (if 1 < (bt231.1.length : Int) then (some ((rd bt231.1 1) == 6)) else (none)) else (some false)) else (some false)) else (some false)) else (some false)) else (some false)) else (none)) else (some false)) else (some false)) else (some false))) else (some false))))) = some r := H
  have A1 := Aside0.mk A10
  clear A10
  replace H := Option.bind_eq_some_iff.mp H
  obtain ⟨⟨t214, t215, t216, t217, t220⟩, A20, H⟩ := H
  replace H : ((histogram_Merge.f k (([(([1, 2] : List Int)), (([3, 4] : List Int))] : List (List Int)))).bind fun bt231 => ((histogram_Bin.f 63 255 4).bind fun t235 => (if t235 = 0 then ((histogram_Bin.f 64 255 4).bind fun t236 => (if t236 = 1 then (if t213 = 0 then (if (t210.length : Int) = 4 then (if 1 < (t210.length : Int) then (if (rd t210 1) = 1 then (if t220 = 0 then (if t216 = 2 then (if bt231.2 = 0 then (if (bt231.1.length : Int) = 2 then (if 1 < (bt231.1.length : Int) then (some ((rd bt231.1 1) == 6)) else (none)) else (some false)) else (some false)) else (some false)) else (some false)) else (some false)) else (none)) else (some false)) else (some false)) else (some false))) else (some false)))) = some r := H
  have A2 := Aside0.mk A20
  clear A20
  obtain ⟨y222, hy222⟩ : ∃ y_ : List Int, y_ = (([1, 2] : List Int)) := ⟨_, rfl⟩
  replace H : ((histogram_Merge.f k (([y222, (([3, 4] : List Int))] : List (List Int)))).bind fun bt231 => ((histogram_Bin.f 63 255 4).bind fun t235 => (if t235 = 0 then ((histogram_Bin.f 64 255 4).bind fun t236 => (if t236 = 1 then (if t213 = 0 then (if (t210.length : Int) = 4 then (if 1 < (t210.length : Int) then (if (rd t210 1) = 1 then (if t220 = 0 then (if t216 = 2 then (if bt231.2 = 0 then (if (bt231.1.length : Int) = 2 then (if 1 < (bt231.1.length : Int) then (some ((rd bt231.1 1) == 6)) else (none)) else (some false)) else (some false)) else (some false)) else (some false)) else (some false)) else (none)) else (some false)) else (some false)) else (some false))) else (some false)))) = some r := by first | (rw [hy222]; with_reducible exact H) | (have H2_ := (Option.bind_some _ _).symm.trans H; rw [hy222]; with_reducible exact H2_) | (have H2_ := (Option.bind_some _ _).symm.trans H; with_reducible exact H2_) | with_reducible exact H | (rw [hy222]; exact H) | exact H
  have Ny222 := Aside0.mk hy222
  clear hy222
  obtain ⟨y225, hy225⟩ : ∃ y_ : List Int, y_ = (([3, 4] : List Int)) := ⟨_, rfl⟩
  replace H : ((histogram_Merge.f k (([y222, y225] : List (List Int)))).bind fun bt231 => ((histogram_Bin.f 63 255 4).bind fun t235 => (if t235 = 0 then ((histogram_Bin.f 64 255 4).bind fun t236 => (if t236 = 1 then (if t213 = 0 then (if (t210.length : Int) = 4 then (if 1 < (t210.length : Int) then (if (rd t210 1) = 1 then (if t220 = 0 then (if t216 = 2 then (if bt231.2 = 0 then (if (bt231.1.length : Int) = 2 then (if 1 < (bt231.1.length : Int) then (some ((rd bt231.1 1) == 6)) else (none)) else (some false)) else (some false)) else (some false)) else (some false)) else (some false)) else (none)) else (some false)) else (some false)) else (some false))) else (some false)))) = some r := by first | (rw [hy225]; with_reducible exact H) | (have H2_ := (Option.bind_some _ _).symm.trans H; rw [hy225]; with_reducible exact H2_) | (have H2_ := (Option.bind_some _ _).symm.trans H; with_reducible exact H2_) | with_reducible exact H | (rw [hy225]; exact H) | exact H
  have Ny225 := Aside0.mk hy225
  clear hy225
  obtain ⟨y228, hy228⟩ : ∃ y_ : List (List Int), y_ = (([y222, y225] : List (List Int))) := ⟨_, rfl⟩
  replace H : ((histogram_Merge.f k y228).bind fun bt231 => ((histogram_Bin.f 63 255 4).bind fun t235 => (if t235 = 0 then ((histogram_Bin.f 64 255 4).bind fun t236 => (if t236 = 1 then (if t213 = 0 then (if (t210.length : Int) = 4 then (if 1 < (t210.length : Int) then (if (rd t210 1) = 1 then (if t220 = 0 then (if t216 = 2 then (if bt231.2 = 0 then (if (bt231.1.length : Int) = 2 then (if 1 < (bt231.1.length : Int) then (some ((rd bt231.1 1) == 6)) else (none)) else (some false)) else (some false)) else (some false)) else (some false)) else (some false)) else (none)) else (some false)) else (some false)) else (some false))) else (some false)))) = some r := by first | (rw [hy228]; with_reducible exact H) | (have H2_ := (Option.bind_some _ _).symm.trans H; rw [hy228]; with_reducible exact H2_) | (have H2_ := (Option.bind_some _ _).symm.trans H; with_reducible exact H2_) | with_reducible exact H | (rw [hy228]; exact H) | exact H
  have Ny228 := Aside0.mk hy228
  clear hy228
  replace H := Option.bind_eq_some_iff.mp H
  obtain ⟨⟨t231, t232⟩, A30, H⟩ := H
  replace H : ((histogram_Bin.f 63 255 4).bind fun t235 => (if t235 = 0 then ((histogram_Bin.f 64 255 4).bind fun t236 => (if t236 = 1 then (if t213 = 0 then (if (t210.length : Int) = 4 then (if 1 < (t210.length : Int) then (if (rd t210 1) = 1 then (if t220 = 0 then (if t216 = 2 then (if t232 = 0 then (if (t231.length : Int) = 2 then (if 1 < (t231.length : Int) then (some ((rd t231 1) == 6)) else (none)) else (some false)) else (some false)) else (some false)) else (some false)) else (some false)) else (none)) else (some false)) else (some false)) else (some false))) else (some false))) = some r := H
  have A3 := Aside0.mk A30
  clear A30
  replace H := Option.bind_eq_some_iff.mp H
  obtain ⟨t235, A40, H⟩ := H
  replace H : (if t235 = 0 then ((histogram_Bin.f 64 255 4).bind fun t236 => (if t236 = 1 then (if t213 = 0 then (if (t210.length : Int) = 4 then (if 1 < (t210.length : Int) then (if (rd t210 1) = 1 then (if t220 = 0 then (if t216 = 2 then (if t232 = 0 then (if (t231.length : Int) = 2 then (if 1 < (t231.length : Int) then (some ((rd t231 1) == 6)) else (none)) else (some false)) else (some false)) else (some false)) else (some false)) else (some false)) else (none)) else (some false)) else (some false)) else (some false))) else (some false)) = some r := H
  have A4 := Aside0.mk A40
  clear A40
  by_cases c5 : t235 = 0
  · rw [if_pos c5] at H
    have c5b0 : (t235 == 0) = true := beq_iff_eq.mpr c5
    have c5b1 : (t235 != 0) = false := bne_eq_false_iff_eq.mpr c5
    clear c5
    replace H := Option.bind_eq_some_iff.mp H
    obtain ⟨t236, A60, H⟩ := H
    replace H : (if t236 = 1 then (if t213 = 0 then (if (t210.length : Int) = 4 then (if 1 < (t210.length : Int) then (if (rd t210 1) = 1 then (if t220 = 0 then (if t216 = 2 then (if t232 = 0 then (if (t231.length : Int) = 2 then (if 1 < (t231.length : Int) then (some ((rd t231 1) == 6)) else (none)) else (some false)) else (some false)) else (some false)) else (some false)) else (some false)) else (none)) else (some false)) else (some false)) else (some false)) = some r := H
    have A6 := Aside0.mk A60
    clear A60
    by_cases c7 : t236 = 1
    · rw [if_pos c7] at H
      have c7b0 : (t236 == 1) = true := beq_iff_eq.mpr c7
      have c7b1 : (t236 != 1) = false := bne_eq_false_iff_eq.mpr c7
      clear c7
      by_cases c8 : t213 = 0
      · rw [if_pos c8] at H
        have c8b0 : (t213 == 0) = true := beq_iff_eq.mpr c8
        have c8b1 : (t213 != 0) = false := bne_eq_false_iff_eq.mpr c8
        clear c8
        by_cases c9 : (t210.length : Int) = 4
        · rw [if_pos c9] at H
          have c9b0 : ((t210.length : Int) == 4) = true := beq_iff_eq.mpr c9
          have c9b1 : ((t210.length : Int) != 4) = false := bne_eq_false_iff_eq.mpr c9
          clear c9
          by_cases c10 : 1 < (t210.length : Int)
          · rw [if_pos c10] at H
            have c10b0 : decide (1 < (t210.length : Int)) = true := decide_eq_true c10
            have c10b1 : decide (1 < t210.length) = true := decide_eq_true (by omega)
            clear c10
            by_cases c11 : (rd t210 1) = 1
            · rw [if_pos c11] at H
              have c11b0 : ((rd t210 1) == 1) = true := beq_iff_eq.mpr c11
              have c11b1 : ((rd t210 1) != 1) = false := bne_eq_false_iff_eq.mpr c11
              clear c11
              by_cases c12 : t220 = 0
              · rw [if_pos c12] at H
                have c12b0 : (t220 == 0) = true := beq_iff_eq.mpr c12
                have c12b1 : (t220 != 0) = false := bne_eq_false_iff_eq.mpr c12
                clear c12
                by_cases c13 : t216 = 2
                · rw [if_pos c13] at H
                  have c13b0 : (t216 == 2) = true := beq_iff_eq.mpr c13
                  have c13b1 : (t216 != 2) = false := bne_eq_false_iff_eq.mpr c13
                  clear c13
                  by_cases c14 : t232 = 0
                  · rw [if_pos c14] at H
                    have c14b0 : (t232 == 0) = true := beq_iff_eq.mpr c14
                    have c14b1 : (t232 != 0) = false := bne_eq_false_iff_eq.mpr c14
                    clear c14
                    by_cases c15 : (t231.length : Int) = 2
                    · rw [if_pos c15] at H
                      have c15b0 : ((t231.length : Int) == 2) = true := beq_iff_eq.mpr c15
                      have c15b1 : ((t231.length : Int) != 2) = false := bne_eq_false_iff_eq.mpr c15
                      clear c15
                      by_cases c16 : 1 < (t231.length : Int)
                      · rw [if_pos c16] at H
                        have c16b0 : decide (1 < (t231.length : Int)) = true := decide_eq_true c16
                        have c16b1 : decide (1 < t231.length) = true := decide_eq_true (by omega)
                        clear c16
                        obtain rfl := Option.some.inj H
                        go_enter Try.func16, Try.ntmps16
                        go_wp2_with (first | ((with_reducible refine gate_dst (N := 8) rfl ?_); (try (refine gate_guard (by rfl) ?_; dsimp only)); refine Kd.R_lit (Kd.int .i64) _ 3 ?hg (N := 8) ?hd (xs := ([63, 64] : List Int)) (inner := [.int .i64 63, .int .i64 64]) (ok := fun _ => True) (okp := fun _ => True) ?hr ?hp (fun _ hk => hk) trivial (Below.refl _ _) (Nat.le_refl _) (by simp) ?_; (case hd => rfl); (case hg => rfl); (case hr => first | (go_simp; done) | (go_simp; rfl)); (case hp => exact (Reps.one (show Kd.M (Kd.int .i64) _ _ _ 63 [.int .i64 63] from rfl) (Reps.one (show Kd.M (Kd.int .i64) _ _ _ 64 [.int .i64 64] from rfl) (Reps.none _ _)))); intro v207 w17 ho18 hb hg_ hnew_; clear hg_ hnew_; (first | rw [← Ny206.out] at ho18 | (simp only [Int.reduceToNat] at ho18; rw [← Ny206.out] at ho18)); have n0_ := Aside0.mk (Kd.R_lower ho18 (below_size q103_)); have n1_ := Aside0.mk (below_step q103_ hb); clear HB; have HO208 := n0_; have HB := n1_; clear n0_ n1_; clear hb ho18; obtain ⟨Ao19, co19, eo19⟩ := Kd.R_slice HO208.out; subst eo19) | ((with_reducible refine gate_dst (N := 1) rfl ?_); (try (refine gate_guard (by rfl) ?_; dsimp only)); refine box_event ?hg (N := 1) ?hd (cs := #[.int .i64 0, .int .i64 0, .int .i64 0, .slice none 0 0]) (t := 26) ?hr ?_; (case hd => rfl); (case hg => rfl); (case hr => first | (go_simp; done) | (go_simp; rfl)); intro gb209 hg w20 hbox hb; have n0_ := Aside0.mk (Kd.R_below q140_ hb); have n1_ := Aside0.mk (below_step q103_ hb); have n2_ := Aside0.mk (hbox); have n3_ := Aside0.mk ((q79_ : w.heap.size ≤ gb209)); have n4_ := Aside0.mk ((q79_ : w.heap.size ≤ gb209)); clear HO208; clear HB; have HO208 := n0_; have HB := n1_; have BK209 := n2_; have GW209 := n3_; have GE209 := n4_; clear n0_ n1_ n2_ n3_ n4_; clear hb hbox hg; have hcz21_0 : w20.cell? ⟨gb209, 0, none⟩ = some (.int .i64 0) := (blk_cell BK209.out 0).trans rfl; have hcz21_1 : w20.cell? ⟨gb209, 1, none⟩ = some (.int .i64 0) := (blk_cell BK209.out 1).trans rfl; have hcz21_2 : w20.cell? ⟨gb209, 2, none⟩ = some (.int .i64 0) := (blk_cell BK209.out 2).trans rfl; have hcz21_3 : w20.cell? ⟨gb209, 3, none⟩ = some (.slice none 0 0) := (blk_cell BK209.out 3).trans rfl; have hfz21_0 := blk_frozen BK209.out 0; have hfz21_1 := blk_frozen BK209.out 1; have hfz21_2 := blk_frozen BK209.out 2; have hfz21_3 := blk_frozen BK209.out 3) | ((with_reducible refine gate_callee (f := 21) rfl ?_); refine goesL_ (some 13) rfl rfl Try.func21 (by kernel_rfl) rfl #[.agg #[.int .i64 2, .int .i64 1, .int .i64 255, .slice Ao19 y206.length co19], .int .i64 4, .agg #[.int .i64 0, .int .i64 0, .int .i64 2, .int .i64 1]] rfl q100_ ?_; (with_reducible refine (histogram_Partial.calls k 2 1 255 _ _ y206 4 0 0 2 1 t210 t213 _ ?side1 ?side2 A1.out).mono ?_); (case side1 => refine (Kd.R_reads' (e := 3) (base := w.heap.size) (ok := fun k_ => True) (n := y206.length) (c := co19) ?_).2.2; exact q1_); (case side2 => exact (Kd.R_reads' HO208.out).2.1); rintro e w22 ⟨v211, rfl, ho0, hb⟩; refine ⟨_, rfl, ?_⟩; have n0_ := Aside0.mk (Kd.R_elder' q1_ (Kd.R_base ho0) hb); have n1_ := Aside0.mk (Kd.R_lower (Kd.R_new' ho0 (Kd.R_lt q1_)) (below_size q87_)); have n2_ := Aside0.mk (blk_below (g := gb209) (o := .cells #[.int .i64 2, .int .i64 1, .int .i64 255, .slice Ao19 y206.length co19] 26 (0, 0)) (by (with_reducible repeat (first | refine blk_drewN ?_ _ | refine blk_drew ?_ | refine blk_alloc ?_ _)); refine blk_put (cs := #[.int .i64 2, .int .i64 1, .int .i64 255, .slice none 0 0]) ?_ 3 _ rfl; (with_reducible repeat (first | refine blk_drewN ?_ _ | refine blk_drew ?_ | refine blk_alloc ?_ _)); refine blk_put (cs := #[.int .i64 2, .int .i64 1, .int .i64 0, .slice none 0 0]) ?_ 2 _ rfl; (with_reducible repeat (first | refine blk_drewN ?_ _ | refine blk_drew ?_ | refine blk_alloc ?_ _)); refine blk_put (cs := #[.int .i64 2, .int .i64 0, .int .i64 0, .slice none 0 0]) ?_ 1 _ rfl; (with_reducible repeat (first | refine blk_drewN ?_ _ | refine blk_drew ?_ | refine blk_alloc ?_ _)); refine blk_put (cs := #[.int .i64 0, .int .i64 0, .int .i64 0, .slice none 0 0]) ?_ 0 _ rfl; (with_reducible repeat (first | refine blk_drewN ?_ _ | refine blk_drew ?_ | refine blk_alloc ?_ _)); exact BK209.out) hb); have n3_ := Aside0.mk (below_step q87_ hb); clear HO208; clear BK209; clear HB; have HO208 := n0_; have HO212 := n1_; have BK209 := n2_; have HB := n3_; clear n0_ n1_ n2_ n3_; (try clear hb); (try clear hb2); (try clear hk); (try clear hi); (try clear ho0); have hcz23_0 : w22.cell? ⟨gb209, 0, none⟩ = some (.int .i64 2) := (blk_cell BK209.out 0).trans rfl; have hcz23_1 : w22.cell? ⟨gb209, 1, none⟩ = some (.int .i64 1) := (blk_cell BK209.out 1).trans rfl; have hcz23_2 : w22.cell? ⟨gb209, 2, none⟩ = some (.int .i64 255) := (blk_cell BK209.out 2).trans rfl; have hcz23_3 : w22.cell? ⟨gb209, 3, none⟩ = some (.slice Ao19 y206.length co19) := (blk_cell BK209.out 3).trans rfl; have hfz23_0 := blk_frozen BK209.out 0; have hfz23_1 := blk_frozen BK209.out 1; have hfz23_2 := blk_frozen BK209.out 2; have hfz23_3 := blk_frozen BK209.out 3) | ((with_reducible refine gate_callee (f := 12) rfl ?_); refine goesL_ (some 18) rfl rfl Try.func12 (by kernel_rfl) rfl #[.agg #[.int .i64 2, .int .i64 1, .int .i64 255, .slice Ao19 y206.length co19], .int .i64 4] rfl q100_ ?_; (with_reducible refine (histogram_Whole.calls k 2 1 255 _ _ y206 4 t214 t215 t216 t217 t220 _ ?side1 ?side2 A2.out).mono ?_); (case side1 => repeat (first | exact (Kd.R_reads' HO208.out).2.2 | (with_reducible refine Kd.C_alloc ?_ _) | (with_reducible refine Kd.C_drewN ?_ _) | (with_reducible refine Kd.C_drew ?_))); (case side2 => exact (Kd.R_reads' HO208.out).2.1); rintro e w24 ⟨v218, rfl, ho0, hb⟩; refine ⟨_, rfl, ?_⟩; have n0_ := Aside0.mk (Kd.R_elder' q140_ (Kd.R_base ho0) hb); have n1_ := Aside0.mk (Kd.R_elder' q141_ (Kd.R_base ho0) hb); have n2_ := Aside0.mk (Kd.R_lower (Kd.R_new' (Kd.R_new' ho0 (Kd.R_lt q140_)) (Kd.R_lt q141_)) (below_size q87_)); have n3_ := Aside0.mk (blk_below (g := gb209) (o := .cells #[.int .i64 2, .int .i64 1, .int .i64 255, .slice Ao19 y206.length co19] 26 (0, 0)) q118_ hb); have n4_ := Aside0.mk (below_step q87_ hb); clear HO208; clear HO212; clear BK209; clear HB; have HO208 := n0_; have HO212 := n1_; have HO219 := n2_; have BK209 := n3_; have HB := n4_; clear n0_ n1_ n2_ n3_ n4_; (try clear hb); (try clear hb2); (try clear hk); (try clear hi); (try clear ho0)) | ((with_reducible refine gate_dst (N := 4) rfl ?_); (try (refine gate_guard (by rfl) ?_; dsimp only)); refine box_event ?hg (N := 4) ?hd (cs := #[.int .i64 0, .int .i64 0, .int .i64 0, .slice none 0 0]) (t := 26) ?hr ?_; (case hd => rfl); (case hg => rfl); (case hr => first | (go_simp; done) | (go_simp; rfl)); intro gb221 hg w25 hbox hb; have n0_ := Aside0.mk (Kd.R_below q140_ hb); have n1_ := Aside0.mk (Kd.R_below q141_ hb); have n2_ := Aside0.mk (Kd.R_below q142_ hb); have n3_ := Aside0.mk (blk_below (g := gb209) (o := .cells #[.int .i64 2, .int .i64 1, .int .i64 255, .slice Ao19 y206.length co19] 26 (0, 0)) q118_ hb); have n4_ := Aside0.mk (below_step q87_ hb); have n5_ := Aside0.mk (hbox); have n6_ := Aside0.mk ((by rw [hg]; exact (below_size q87_) : w.heap.size ≤ gb221)); have n7_ := Aside0.mk ((by rw [hg]; exact (below_size q87_) : w.heap.size ≤ gb221)); have n8_ := Aside0.mk ((by rw [hg]; exact Nat.ne_of_lt (blk_lt (g := gb209) (o := .cells #[.int .i64 2, .int .i64 1, .int .i64 255, .slice Ao19 y206.length co19] 26 (0, 0)) q118_) : gb209 ≠ gb221)); have n9_ := Aside0.mk ((by rw [hg]; exact Nat.ne_of_gt (blk_lt (g := gb209) (o := .cells #[.int .i64 2, .int .i64 1, .int .i64 255, .slice Ao19 y206.length co19] 26 (0, 0)) q118_) : gb221 ≠ gb209)); clear HO208; clear HO212; clear HO219; clear BK209; clear HB; have HO208 := n0_; have HO212 := n1_; have HO219 := n2_; have BK209 := n3_; have HB := n4_; have BK221 := n5_; have GW221 := n6_; have GE221 := n7_; have NB209_221 := n8_; have NB221_209 := n9_; clear n0_ n1_ n2_ n3_ n4_ n5_ n6_ n7_ n8_ n9_; clear hb hbox hg; have hnb26 := NB221_209.out; have hnc26 := NB209_221.out; have hcz27_0 : w25.cell? ⟨gb221, 0, none⟩ = some (.int .i64 0) := (blk_cell BK221.out 0).trans rfl; have hcz27_1 : w25.cell? ⟨gb221, 1, none⟩ = some (.int .i64 0) := (blk_cell BK221.out 1).trans rfl; have hcz27_2 : w25.cell? ⟨gb221, 2, none⟩ = some (.int .i64 0) := (blk_cell BK221.out 2).trans rfl; have hcz27_3 : w25.cell? ⟨gb221, 3, none⟩ = some (.slice none 0 0) := (blk_cell BK221.out 3).trans rfl; have hfz27_0 := blk_frozen BK221.out 0; have hfz27_1 := blk_frozen BK221.out 1; have hfz27_2 := blk_frozen BK221.out 2; have hfz27_3 := blk_frozen BK221.out 3; obtain ⟨Ao28, co28, eo28⟩ := Kd.R_slice HO219.out; subst eo28) | ((with_reducible refine gate_dst (N := 22) rfl ?_); (try (refine gate_guard (by rfl) ?_; dsimp only)); refine Kd.R_lit (Kd.int .i64) _ 3 ?hg (N := 22) ?hd (xs := ([1, 2] : List Int)) (inner := [.int .i64 1, .int .i64 2]) (ok := fun _ => True) (okp := fun _ => True) ?hr ?hp (fun _ hk => hk) trivial (Below.refl _ _) (Nat.le_refl _) (by simp) ?_; (case hd => rfl); (case hg => rfl); (case hr => first | (go_simp; done) | (go_simp; rfl)); (case hp => exact (Reps.one (show Kd.M (Kd.int .i64) _ _ _ 1 [.int .i64 1] from rfl) (Reps.one (show Kd.M (Kd.int .i64) _ _ _ 2 [.int .i64 2] from rfl) (Reps.none _ _)))); intro v223 w29 ho30 hb hg_ hnew_; clear hg_ hnew_; (first | rw [← Ny222.out] at ho30 | (simp only [Int.reduceToNat] at ho30; rw [← Ny222.out] at ho30)); have n0_ := Aside0.mk (Kd.R_elder' (by (with_reducible repeat (first | apply Kd.R_alloc | apply Kd.R_drewN | apply Kd.R_drew)); exact (Kd.R_mono (Kd.R_far (p := ⟨gb221, 3, none⟩) (Kd.R_far (p := ⟨gb221, 2, none⟩) (Kd.R_far (p := ⟨gb221, 1, none⟩) (Kd.R_far (p := ⟨gb221, 0, none⟩) (Kd.R_types HO208.out BK221.out (by decide)) (fun _ hk => hk.2) (.int .i64 t214)) (fun _ hk => hk.2) (.int .i64 t215)) (fun _ hk => hk.2) (.int .i64 t216)) (fun _ hk => hk.2) (.slice Ao28 t217.length co28)) (fun _ h_ => h_.1))) (Kd.R_base ho30) hb); have n1_ := Aside0.mk (Kd.R_elder' (by (with_reducible repeat (first | apply Kd.R_alloc | apply Kd.R_drewN | apply Kd.R_drew)); exact (Kd.R_mono (Kd.R_far (p := ⟨gb221, 3, none⟩) (Kd.R_far (p := ⟨gb221, 2, none⟩) (Kd.R_far (p := ⟨gb221, 1, none⟩) (Kd.R_far (p := ⟨gb221, 0, none⟩) (Kd.R_types HO212.out BK221.out (by decide)) (fun _ hk => hk.2) (.int .i64 t214)) (fun _ hk => hk.2) (.int .i64 t215)) (fun _ hk => hk.2) (.int .i64 t216)) (fun _ hk => hk.2) (.slice Ao28 t217.length co28)) (fun _ h_ => h_.1))) (Kd.R_base ho30) hb); have n2_ := Aside0.mk (Kd.R_elder' (by (with_reducible repeat (first | apply Kd.R_alloc | apply Kd.R_drewN | apply Kd.R_drew)); exact (Kd.R_mono (Kd.R_far (p := ⟨gb221, 3, none⟩) (Kd.R_far (p := ⟨gb221, 2, none⟩) (Kd.R_far (p := ⟨gb221, 1, none⟩) (Kd.R_far (p := ⟨gb221, 0, none⟩) (Kd.R_types HO219.out BK221.out (by decide)) (fun _ hk => hk.2) (.int .i64 t214)) (fun _ hk => hk.2) (.int .i64 t215)) (fun _ hk => hk.2) (.int .i64 t216)) (fun _ hk => hk.2) (.slice Ao28 t217.length co28)) (fun _ h_ => h_.1))) (Kd.R_base ho30) hb); have n3_ := Aside0.mk (Kd.R_lower (Kd.R_new' (Kd.R_new' (Kd.R_new' ho30 (Kd.R_lt (by (with_reducible repeat (first | apply Kd.R_alloc | apply Kd.R_drewN | apply Kd.R_drew)); exact (Kd.R_mono (Kd.R_far (p := ⟨gb221, 3, none⟩) (Kd.R_far (p := ⟨gb221, 2, none⟩) (Kd.R_far (p := ⟨gb221, 1, none⟩) (Kd.R_far (p := ⟨gb221, 0, none⟩) (Kd.R_types HO208.out BK221.out (by decide)) (fun _ hk => hk.2) (.int .i64 t214)) (fun _ hk => hk.2) (.int .i64 t215)) (fun _ hk => hk.2) (.int .i64 t216)) (fun _ hk => hk.2) (.slice Ao28 t217.length co28)) (fun _ h_ => h_.1))))) (Kd.R_lt (by (with_reducible repeat (first | apply Kd.R_alloc | apply Kd.R_drewN | apply Kd.R_drew)); exact (Kd.R_mono (Kd.R_far (p := ⟨gb221, 3, none⟩) (Kd.R_far (p := ⟨gb221, 2, none⟩) (Kd.R_far (p := ⟨gb221, 1, none⟩) (Kd.R_far (p := ⟨gb221, 0, none⟩) (Kd.R_types HO212.out BK221.out (by decide)) (fun _ hk => hk.2) (.int .i64 t214)) (fun _ hk => hk.2) (.int .i64 t215)) (fun _ hk => hk.2) (.int .i64 t216)) (fun _ hk => hk.2) (.slice Ao28 t217.length co28)) (fun _ h_ => h_.1))))) (Kd.R_lt (by (with_reducible repeat (first | apply Kd.R_alloc | apply Kd.R_drewN | apply Kd.R_drew)); exact (Kd.R_mono (Kd.R_far (p := ⟨gb221, 3, none⟩) (Kd.R_far (p := ⟨gb221, 2, none⟩) (Kd.R_far (p := ⟨gb221, 1, none⟩) (Kd.R_far (p := ⟨gb221, 0, none⟩) (Kd.R_types HO219.out BK221.out (by decide)) (fun _ hk => hk.2) (.int .i64 t214)) (fun _ hk => hk.2) (.int .i64 t215)) (fun _ hk => hk.2) (.int .i64 t216)) (fun _ hk => hk.2) (.slice Ao28 t217.length co28)) (fun _ h_ => h_.1))))) (below_size q67_)); have n4_ := Aside0.mk (blk_below (g := gb209) (o := .cells #[.int .i64 2, .int .i64 1, .int .i64 255, .slice Ao19 y206.length co19] 26 (0, 0)) (by (with_reducible repeat (first | refine blk_drewN ?_ _ | refine blk_drew ?_ | refine blk_alloc ?_ _)); refine blk_far ?_ NB209_221.out _; (with_reducible repeat (first | refine blk_drewN ?_ _ | refine blk_drew ?_ | refine blk_alloc ?_ _)); refine blk_far ?_ NB209_221.out _; (with_reducible repeat (first | refine blk_drewN ?_ _ | refine blk_drew ?_ | refine blk_alloc ?_ _)); refine blk_far ?_ NB209_221.out _; (with_reducible repeat (first | refine blk_drewN ?_ _ | refine blk_drew ?_ | refine blk_alloc ?_ _)); refine blk_far ?_ NB209_221.out _; (with_reducible repeat (first | refine blk_drewN ?_ _ | refine blk_drew ?_ | refine blk_alloc ?_ _)); exact BK209.out) hb); have n5_ := Aside0.mk (blk_below (g := gb221) (o := .cells #[.int .i64 t214, .int .i64 t215, .int .i64 t216, .slice Ao28 t217.length co28] 26 (0, 0)) (by (with_reducible repeat (first | refine blk_drewN ?_ _ | refine blk_drew ?_ | refine blk_alloc ?_ _)); refine blk_put (cs := #[.int .i64 t214, .int .i64 t215, .int .i64 t216, .slice none 0 0]) ?_ 3 _ rfl; (with_reducible repeat (first | refine blk_drewN ?_ _ | refine blk_drew ?_ | refine blk_alloc ?_ _)); refine blk_put (cs := #[.int .i64 t214, .int .i64 t215, .int .i64 0, .slice none 0 0]) ?_ 2 _ rfl; (with_reducible repeat (first | refine blk_drewN ?_ _ | refine blk_drew ?_ | refine blk_alloc ?_ _)); refine blk_put (cs := #[.int .i64 t214, .int .i64 0, .int .i64 0, .slice none 0 0]) ?_ 1 _ rfl; (with_reducible repeat (first | refine blk_drewN ?_ _ | refine blk_drew ?_ | refine blk_alloc ?_ _)); refine blk_put (cs := #[.int .i64 0, .int .i64 0, .int .i64 0, .slice none 0 0]) ?_ 0 _ rfl; (with_reducible repeat (first | refine blk_drewN ?_ _ | refine blk_drew ?_ | refine blk_alloc ?_ _)); exact BK221.out) hb); have n6_ := Aside0.mk (below_step q67_ hb); clear HO208; clear HO212; clear HO219; clear BK209; clear BK221; clear HB; have HO208 := n0_; have HO212 := n1_; have HO219 := n2_; have HO224 := n3_; have BK209 := n4_; have BK221 := n5_; have HB := n6_; clear n0_ n1_ n2_ n3_ n4_ n5_ n6_; clear hb ho30) | ((with_reducible refine gate_dst (N := 23) rfl ?_); (try (refine gate_guard (by rfl) ?_; dsimp only)); refine Kd.R_lit (Kd.int .i64) _ 3 ?hg (N := 23) ?hd (xs := ([3, 4] : List Int)) (inner := [.int .i64 3, .int .i64 4]) (ok := fun _ => True) (okp := fun _ => True) ?hr ?hp (fun _ hk => hk) trivial (Below.refl _ _) (Nat.le_refl _) (by simp) ?_; (case hd => rfl); (case hg => rfl); (case hr => first | (go_simp; done) | (go_simp; rfl)); (case hp => exact (Reps.one (show Kd.M (Kd.int .i64) _ _ _ 3 [.int .i64 3] from rfl) (Reps.one (show Kd.M (Kd.int .i64) _ _ _ 4 [.int .i64 4] from rfl) (Reps.none _ _)))); intro v226 w31 ho32 hb hg_ hnew_; clear hg_ hnew_; (first | rw [← Ny225.out] at ho32 | (simp only [Int.reduceToNat] at ho32; rw [← Ny225.out] at ho32)); have n0_ := Aside0.mk (Kd.R_elder' q140_ (Kd.R_base ho32) hb); have n1_ := Aside0.mk (Kd.R_elder' q141_ (Kd.R_base ho32) hb); have n2_ := Aside0.mk (Kd.R_elder' q142_ (Kd.R_base ho32) hb); have n3_ := Aside0.mk (Kd.R_elder' (by (with_reducible repeat (first | apply Kd.R_alloc | apply Kd.R_drewN | apply Kd.R_drew)); exact HO224.out) (Kd.R_base ho32) hb); have n4_ := Aside0.mk (Kd.R_lower (Kd.R_new' (Kd.R_new' (Kd.R_new' (Kd.R_new' ho32 (Kd.R_lt q140_)) (Kd.R_lt q141_)) (Kd.R_lt q142_)) (Kd.R_lt (by (with_reducible repeat (first | apply Kd.R_alloc | apply Kd.R_drewN | apply Kd.R_drew)); exact HO224.out))) (below_size q67_)); have n5_ := Aside0.mk (blk_below (g := gb209) (o := .cells #[.int .i64 2, .int .i64 1, .int .i64 255, .slice Ao19 y206.length co19] 26 (0, 0)) q118_ hb); have n6_ := Aside0.mk (blk_below (g := gb221) (o := .cells #[.int .i64 t214, .int .i64 t215, .int .i64 t216, .slice Ao28 t217.length co28] 26 (0, 0)) q119_ hb); have n7_ := Aside0.mk (below_step q67_ hb); clear HO208; clear HO212; clear HO219; clear HO224; clear BK209; clear BK221; clear HB; have HO208 := n0_; have HO212 := n1_; have HO219 := n2_; have HO224 := n3_; have HO227 := n4_; have BK209 := n5_; have BK221 := n6_; have HB := n7_; clear n0_ n1_ n2_ n3_ n4_ n5_ n6_ n7_; clear hb ho32; obtain ⟨Ao33, co33, eo33⟩ := Kd.R_slice HO224.out; subst eo33; obtain ⟨Ao34, co34, eo34⟩ := Kd.R_slice HO227.out; subst eo34) | ((with_reducible refine gate_dst (N := 24) rfl ?_); (try (refine gate_guard (by rfl) ?_; dsimp only)); refine Kd.N_lit (Kd.slice 3 (Kd.int .i64)) _ 22 ?hg (N' := 24) ?hd (xs := ([y222, y225] : List (List Int))) (inner := [.slice Ao33 y222.length co33, .slice Ao34 y225.length co34]) (ok := (fun k_ => some k_ ≠ (.slice Ao19 y206.length co19 : Value).ownBlock ∧ some k_ ≠ (v211 : Value).ownBlock ∧ some k_ ≠ (.slice Ao28 t217.length co28 : Value).ownBlock ∧ k_ ≠ gb209 ∧ k_ ≠ gb221)) (okp := (fun k_ => some k_ ≠ (.slice Ao19 y206.length co19 : Value).ownBlock ∧ some k_ ≠ (v211 : Value).ownBlock ∧ some k_ ≠ (.slice Ao28 t217.length co28 : Value).ownBlock ∧ k_ ≠ gb209 ∧ k_ ≠ gb221)) ?hr ?hp (fun _ hk => hk) ((show ∀ k_, w31.heap.size ≤ k_ → (fun k_ => some k_ ≠ (.slice Ao19 y206.length co19 : Value).ownBlock ∧ some k_ ≠ (v211 : Value).ownBlock ∧ some k_ ≠ (.slice Ao28 t217.length co28 : Value).ownBlock ∧ k_ ≠ gb209 ∧ k_ ≠ gb221) k_ from fun k_ hk => ⟨Kd.fresh' (Kd.R_lt q140_) k_ hk, Kd.fresh' (Kd.R_lt q141_) k_ hk, Kd.fresh' (Kd.R_lt q142_) k_ hk, Kd.freshB (g := gb209) (o := .cells #[.int .i64 2, .int .i64 1, .int .i64 255, .slice Ao19 y206.length co19] 26 (0, 0)) q118_ k_ hk, Kd.freshB (g := gb221) (o := .cells #[.int .i64 t214, .int .i64 t215, .int .i64 t216, .slice Ao28 t217.length co28] 26 (0, 0)) q119_ k_ hk⟩) _ (Nat.le_refl _)) (Below.refl _ _) (Nat.le_refl _) (by simp) ?_; (case hd => rfl); (case hg => rfl); (case hr => first | (go_simp; done) | (go_simp; rfl)); (case hp => exact (Reps.one (show Kd.FK (Kd.slice 3 (Kd.int .i64)) _ _ y222 [.slice Ao33 y222.length co33] from (Kd.FK_slice_mk (Kd.R_reads' (Kd.R_mono (ok' := (fun k_ => some k_ ≠ (.slice Ao19 y206.length co19 : Value).ownBlock ∧ some k_ ≠ (v211 : Value).ownBlock ∧ some k_ ≠ (.slice Ao28 t217.length co28 : Value).ownBlock ∧ k_ ≠ gb209 ∧ k_ ≠ gb221)) (Kd.R_types (Kd.R_types (HO224.out) BK209.out (by decide)) BK221.out (by decide)) (fun k_ hk => ⟨hk.1.1.1.1.1.2, ⟨hk.1.1.1.1.2, ⟨hk.1.1.1.2, ⟨hk.1.2, hk.2⟩⟩⟩⟩))).2.1 (Kd.R_F (Kd.R_mono (ok' := (fun k_ => some k_ ≠ (.slice Ao19 y206.length co19 : Value).ownBlock ∧ some k_ ≠ (v211 : Value).ownBlock ∧ some k_ ≠ (.slice Ao28 t217.length co28 : Value).ownBlock ∧ k_ ≠ gb209 ∧ k_ ≠ gb221)) (Kd.R_types (Kd.R_types (HO224.out) BK209.out (by decide)) BK221.out (by decide)) (fun k_ hk => ⟨hk.1.1.1.1.1.2, ⟨hk.1.1.1.1.2, ⟨hk.1.1.1.2, ⟨hk.1.2, hk.2⟩⟩⟩⟩))))) (Reps.one (show Kd.FK (Kd.slice 3 (Kd.int .i64)) _ _ y225 [.slice Ao34 y225.length co34] from (Kd.FK_slice_mk (Kd.R_reads' (Kd.R_mono (ok' := (fun k_ => some k_ ≠ (.slice Ao19 y206.length co19 : Value).ownBlock ∧ some k_ ≠ (v211 : Value).ownBlock ∧ some k_ ≠ (.slice Ao28 t217.length co28 : Value).ownBlock ∧ k_ ≠ gb209 ∧ k_ ≠ gb221)) (Kd.R_types (Kd.R_types (HO227.out) BK209.out (by decide)) BK221.out (by decide)) (fun k_ hk => ⟨hk.1.1.1.1.1.2, ⟨hk.1.1.1.1.2, ⟨hk.1.1.1.2, ⟨hk.1.2, hk.2⟩⟩⟩⟩))).2.1 (Kd.R_F (Kd.R_mono (ok' := (fun k_ => some k_ ≠ (.slice Ao19 y206.length co19 : Value).ownBlock ∧ some k_ ≠ (v211 : Value).ownBlock ∧ some k_ ≠ (.slice Ao28 t217.length co28 : Value).ownBlock ∧ k_ ≠ gb209 ∧ k_ ≠ gb221)) (Kd.R_types (Kd.R_types (HO227.out) BK209.out (by decide)) BK221.out (by decide)) (fun k_ hk => ⟨hk.1.1.1.1.1.2, ⟨hk.1.1.1.1.2, ⟨hk.1.1.1.2, ⟨hk.1.2, hk.2⟩⟩⟩⟩))))) (Reps.none _ _)))); intro v229 w35 ho36 hb hg_ hnew_; clear hg_ hnew_; (first | rw [← Ny228.out] at ho36 | (simp only [Int.reduceToNat] at ho36; rw [← Ny228.out] at ho36)); have n0_ := Aside0.mk (Kd.R_below q140_ hb); have n1_ := Aside0.mk (Kd.R_below q141_ hb); have n2_ := Aside0.mk (Kd.R_below q142_ hb); have n3_ := Aside0.mk (Kd.N_lower ho36 (below_size q67_)); have n4_ := Aside0.mk (blk_below (g := gb209) (o := .cells #[.int .i64 2, .int .i64 1, .int .i64 255, .slice Ao19 y206.length co19] 26 (0, 0)) q118_ hb); have n5_ := Aside0.mk (blk_below (g := gb221) (o := .cells #[.int .i64 t214, .int .i64 t215, .int .i64 t216, .slice Ao28 t217.length co28] 26 (0, 0)) q119_ hb); have n6_ := Aside0.mk (below_step q67_ hb); clear HO208; clear HO212; clear HO219; clear BK209; clear BK221; clear HB; clear HO224; clear HO227; have HO208 := n0_; have HO212 := n1_; have HO219 := n2_; have HO230 := n3_; have BK209 := n4_; have BK221 := n5_; have HB := n6_; clear n0_ n1_ n2_ n3_ n4_ n5_ n6_; clear hb ho36; obtain ⟨Ao37, co37, eo37⟩ := Kd.N_slice HO230.out; subst eo37) | ((with_reducible refine gate_callee (f := 25) rfl ?_); refine goesL_ (some 25) rfl rfl Try.func25 (by kernel_rfl) rfl #[.slice Ao37 y228.length co37] rfl q100_ ?_; (with_reducible refine (histogram_Merge.calls k _ _ y228 t231 t232 _ ?side1 ?side2 A3.out).mono ?_); (case side1 => repeat (first | exact (Kd.N_reads' HO230.out).2.2 | (with_reducible refine Kd.C_alloc ?_ _) | (with_reducible refine Kd.C_drewN ?_ _) | (with_reducible refine Kd.C_drew ?_))); (case side2 => exact (Kd.N_reads' HO230.out).2.1); rintro e w38 ⟨v233, rfl, ho0, hb⟩; refine ⟨_, rfl, ?_⟩; have n0_ := Aside0.mk (Kd.R_elder' q140_ (Kd.R_base ho0) hb); have n1_ := Aside0.mk (Kd.R_elder' q141_ (Kd.R_base ho0) hb); have n2_ := Aside0.mk (Kd.R_elder' q142_ (Kd.R_base ho0) hb); have n3_ := Aside0.mk (Kd.N_elder' (by (with_reducible repeat (first | apply Kd.N_alloc | apply Kd.N_drewN | apply Kd.N_drew)); exact HO230.out) (Kd.R_base ho0) hb); have n4_ := Aside0.mk (Kd.R_lower (Kd.R_new' (Kd.R_new' (Kd.R_new' ho0 (Kd.R_lt q140_)) (Kd.R_lt q141_)) (Kd.R_lt q142_)) (below_size q67_)); have n5_ := Aside0.mk (blk_below (g := gb209) (o := .cells #[.int .i64 2, .int .i64 1, .int .i64 255, .slice Ao19 y206.length co19] 26 (0, 0)) q118_ hb); have n6_ := Aside0.mk (blk_below (g := gb221) (o := .cells #[.int .i64 t214, .int .i64 t215, .int .i64 t216, .slice Ao28 t217.length co28] 26 (0, 0)) q119_ hb); have n7_ := Aside0.mk (below_step q67_ hb); clear HO208; clear HO212; clear HO219; clear HO230; clear BK209; clear BK221; clear HB; have HO208 := n0_; have HO212 := n1_; have HO219 := n2_; have HO230 := n3_; have HO234 := n4_; have BK209 := n5_; have BK221 := n6_; have HB := n7_; clear n0_ n1_ n2_ n3_ n4_ n5_ n6_ n7_; (try clear hb); (try clear hb2); (try clear hk); (try clear hi); (try clear ho0)) | ((with_reducible refine gate_callee (f := 15) rfl ?_); refine goesL_ (some 28) rfl rfl Try.func15 (by kernel_rfl) rfl #[.int .i64 63, .int .i64 255, .int .i64 4] rfl q100_ ?_; (with_reducible refine (histogram_Bin.calls 63 255 4 t235 _ A4.out).mono ?_); rintro e w' ⟨rfl, ⟨nd, rfl⟩⟩; refine ⟨_, rfl, ?_⟩) | (go_at_call 15; (with_reducible refine (histogram_Bin.calls 64 255 4 t236 _ A6.out).mono ?_); rintro e w' ⟨rfl, ⟨nd, rfl⟩⟩; obtain ⟨Ao39, co39, eo39⟩ := Kd.R_slice HO212.out; subst eo39; have p237 : 0 ≤ (1 : Int) := (by omega); have q237 : 1 < (t210.length : Int) := of_decide_eq_true q155_; obtain ⟨ad237, e237, hx237_0⟩ := Kd.at_int (Kd.R_reads' HO212.out).2.2 1 p237 q237; cases e237; (try simp only [show (1 : Int).toNat = 1 from rfl, Nat.reduceMul, Nat.reduceEqDiff, Go.Addr.add, ↓reduceIte] at hx237_0); have qi237 : (1 < t210.length) = True := eq_true (by omega); (try rw [show ((1 : Int)).toNat = 1 from rfl] at hx237_0); replace p237 := eq_true p237; replace q237 := eq_true q237; have hcz40_0 : w38.cell? ⟨gb221, 0, none⟩ = some (.int .i64 t214) := (blk_cell BK221.out 0).trans rfl; have hcz40_1 : w38.cell? ⟨gb221, 1, none⟩ = some (.int .i64 t215) := (blk_cell BK221.out 1).trans rfl; have hcz40_2 : w38.cell? ⟨gb221, 2, none⟩ = some (.int .i64 t216) := (blk_cell BK221.out 2).trans rfl; have hcz40_3 : w38.cell? ⟨gb221, 3, none⟩ = some (.slice Ao28 t217.length co28) := (blk_cell BK221.out 3).trans rfl; have hfz40_0 := blk_frozen BK221.out 0; have hfz40_1 := blk_frozen BK221.out 1; have hfz40_2 := blk_frozen BK221.out 2; have hfz40_3 := blk_frozen BK221.out 3; obtain ⟨Ao41, co41, eo41⟩ := Kd.R_slice HO234.out; subst eo41; have p238 : 0 ≤ (1 : Int) := (by omega); have q238 : 1 < (t231.length : Int) := of_decide_eq_true q155_; obtain ⟨ad238, e238, hx238_0⟩ := Kd.at_int (Kd.R_reads' HO234.out).2.2 1 p238 q238; cases e238; (try simp only [show (1 : Int).toNat = 1 from rfl, Nat.reduceMul, Nat.reduceEqDiff, Go.Addr.add, ↓reduceIte] at hx238_0); have qi238 : (1 < t231.length) = True := eq_true (by omega); (try rw [show ((1 : Int)).toNat = 1 from rfl] at hx238_0); replace p238 := eq_true p238; replace q238 := eq_true q238))
                        go_ret
                        exact ⟨q152_, q67_⟩
                      · rw [if_neg c16] at H
                        exact absurd H (by simp)
                    · rw [if_neg c15] at H
                      have c15b0 : ((t231.length : Int) == 2) = false := beq_eq_false_iff_ne.mpr c15
                      have c15b1 : ((t231.length : Int) != 2) = true := bne_iff_ne.mpr c15
                      exact absurd ((Option.some.inj H).trans HT.out) (by decide)
                  · rw [if_neg c14] at H
                    have c14b0 : (t232 == 0) = false := beq_eq_false_iff_ne.mpr c14
                    have c14b1 : (t232 != 0) = true := bne_iff_ne.mpr c14
                    exact absurd ((Option.some.inj H).trans HT.out) (by decide)
                · rw [if_neg c13] at H
                  have c13b0 : (t216 == 2) = false := beq_eq_false_iff_ne.mpr c13
                  have c13b1 : (t216 != 2) = true := bne_iff_ne.mpr c13
                  exact absurd ((Option.some.inj H).trans HT.out) (by decide)
              · rw [if_neg c12] at H
                have c12b0 : (t220 == 0) = false := beq_eq_false_iff_ne.mpr c12
                have c12b1 : (t220 != 0) = true := bne_iff_ne.mpr c12
                exact absurd ((Option.some.inj H).trans HT.out) (by decide)
            · rw [if_neg c11] at H
              have c11b0 : ((rd t210 1) == 1) = false := beq_eq_false_iff_ne.mpr c11
              have c11b1 : ((rd t210 1) != 1) = true := bne_iff_ne.mpr c11
              exact absurd ((Option.some.inj H).trans HT.out) (by decide)
          · rw [if_neg c10] at H
            exact absurd H (by simp)
        · rw [if_neg c9] at H
          have c9b0 : ((t210.length : Int) == 4) = false := beq_eq_false_iff_ne.mpr c9
          have c9b1 : ((t210.length : Int) != 4) = true := bne_iff_ne.mpr c9
          exact absurd ((Option.some.inj H).trans HT.out) (by decide)
      · rw [if_neg c8] at H
        have c8b0 : (t213 == 0) = false := beq_eq_false_iff_ne.mpr c8
        have c8b1 : (t213 != 0) = true := bne_iff_ne.mpr c8
        exact absurd ((Option.some.inj H).trans HT.out) (by decide)
    · rw [if_neg c7] at H
      have c7b0 : (t236 == 1) = false := beq_eq_false_iff_ne.mpr c7
      have c7b1 : (t236 != 1) = true := bne_iff_ne.mpr c7
      exact absurd ((Option.some.inj H).trans HT.out) (by decide)
  · rw [if_neg c5] at H
    have c5b0 : (t235 == 0) = false := beq_eq_false_iff_ne.mpr c5
    have c5b1 : (t235 != 0) = true := bne_iff_ne.mpr c5
    exact absurd ((Option.some.inj H).trans HT.out) (by decide)


def tilefarmref12_Bins.f (a0 : Int) : Option (Bool) := if a0 ≥ 1 then (some (decide (a0 ≤ 128))) else (some false)
set_option maxHeartbeats 8000000 in
set_option maxRecDepth 100000 in
theorem tilefarmref12_Bins.calls (a0 : Int) (r : Bool) (w : World) (h : tilefarmref12_Bins.f a0 = some r) :
    Calls Try.prog 31 #[.int .i64 a0] w fun e w' => e = .returned (.bool r) ∧ Drawn0 w w' := by
  have H : (if a0 ≥ 1 then (some (decide (a0 ≤ 128))) else (some false)) = some r := h
  clear h
  by_cases c2 : a0 ≥ 1
  · rw [if_pos c2] at H
    have c2b0 : decide (1 ≤ a0) = true := decide_eq_true c2
    clear c2
    obtain rfl := Option.some.inj H
    go_enter Try.func31, Try.ntmps31
    go_wp2
    go_ret
    exact ⟨q156_, q153_⟩
  · rw [if_neg c2] at H
    have c2b0 : decide (1 ≤ a0) = false := decide_eq_false c2
    clear c2
    obtain rfl := Option.some.inj H
    go_enter Try.func31, Try.ntmps31
    go_wp2
    go_ret
    exact ⟨q156_, q153_⟩


def tilefarmref12_Bin.f (a0 : Int) (a1 : Int) (a2 : Int) : Option (Int) := if a1 < 1 then (some 0) else (if a1 > 4294967296 then (some 0) else (if a0 < 0 then (some 0) else (if a0 > a1 then (some 0) else ((tilefarmref12_Bins.f a2).bind fun t239 => (if t239 = true then (if (wrap64 (a1 + 1)) = 0 then (none) else (some (wrap64 (Int.tdiv (wrap64 (a0 * a2)) (wrap64 (a1 + 1)))))) else (some 0))))))
set_option maxHeartbeats 8000000 in
set_option maxRecDepth 100000 in
theorem tilefarmref12_Bin.calls (a0 : Int) (a1 : Int) (a2 : Int) (r : Int) (w : World) (h : tilefarmref12_Bin.f a0 a1 a2 = some r) :
    Calls Try.prog 17 #[.int .i64 a0, .int .i64 a1, .int .i64 a2] w fun e w' => e = .returned (.int .i64 r) ∧ Drawn0 w w' := by
  have H : (if a1 < 1 then (some 0) else (if a1 > 4294967296 then (some 0) else (if a0 < 0 then (some 0) else (if a0 > a1 then (some 0) else ((tilefarmref12_Bins.f a2).bind fun t239 => (if t239 = true then (if (wrap64 (a1 + 1)) = 0 then (none) else (some (wrap64 (Int.tdiv (wrap64 (a0 * a2)) (wrap64 (a1 + 1)))))) else (some 0))))))) = some r := h
  clear h
  by_cases c4 : a1 < 1
  · rw [if_pos c4] at H
    have c4b0 : decide (a1 < 1) = true := decide_eq_true c4
    clear c4
    obtain rfl := Option.some.inj H
    go_enter Try.func17, Try.ntmps17
    go_wp2
    go_ret
    exact ⟨q156_, q153_⟩
  · rw [if_neg c4] at H
    have c4b0 : decide (a1 < 1) = false := decide_eq_false c4
    clear c4
    by_cases c5 : a1 > 4294967296
    · rw [if_pos c5] at H
      have c5b0 : decide (4294967296 < a1) = true := decide_eq_true c5
      clear c5
      obtain rfl := Option.some.inj H
      go_enter Try.func17, Try.ntmps17
      go_wp2
      go_ret
      exact ⟨q156_, q153_⟩
    · rw [if_neg c5] at H
      have c5b0 : decide (4294967296 < a1) = false := decide_eq_false c5
      clear c5
      by_cases c6 : a0 < 0
      · rw [if_pos c6] at H
        have c6b0 : decide (a0 < 0) = true := decide_eq_true c6
        clear c6
        obtain rfl := Option.some.inj H
        go_enter Try.func17, Try.ntmps17
        go_wp2
        go_ret
        exact ⟨q156_, q153_⟩
      · rw [if_neg c6] at H
        have c6b0 : decide (a0 < 0) = false := decide_eq_false c6
        clear c6
        by_cases c7 : a0 > a1
        · rw [if_pos c7] at H
          have c7b0 : decide (a1 < a0) = true := decide_eq_true c7
          clear c7
          obtain rfl := Option.some.inj H
          go_enter Try.func17, Try.ntmps17
          go_wp2
          go_ret
          exact ⟨q156_, q153_⟩
        · rw [if_neg c7] at H
          have c7b0 : decide (a1 < a0) = false := decide_eq_false c7
          clear c7
          replace H := Option.bind_eq_some_iff.mp H
          obtain ⟨t239, A80, H⟩ := H
          replace H : (if t239 = true then (if (wrap64 (a1 + 1)) = 0 then (none) else (some (wrap64 (Int.tdiv (wrap64 (a0 * a2)) (wrap64 (a1 + 1)))))) else (some 0)) = some r := H
          have A8 := Aside0.mk A80
          clear A80
          by_cases c9 : t239 = true
          · subst c9
            have H1 : (if (wrap64 (a1 + 1)) = 0 then (none) else (some (wrap64 (Int.tdiv (wrap64 (a0 * a2)) (wrap64 (a1 + 1)))))) = some r := by rw [if_pos rfl] at H; exact H
            clear H
            have H := H1
            clear H1
            by_cases c10 : (wrap64 (a1 + 1)) = 0
            · rw [if_pos c10] at H
              exact absurd H (by simp)
            · rw [if_neg c10] at H
              have c10b0 : ((wrap64 (a1 + 1)) == 0) = false := beq_eq_false_iff_ne.mpr c10
              have c10b1 : ((wrap64 (a1 + 1)) != 0) = true := bne_iff_ne.mpr c10
              obtain rfl := Option.some.inj H
              go_enter Try.func17, Try.ntmps17
              go_wp2_with (first | (go_at_call 31; (with_reducible refine (tilefarmref12_Bins.calls a2 true _ A8.out).mono ?_); rintro e w' ⟨rfl, ⟨nd, rfl⟩⟩))
              go_ret
              exact ⟨q156_, q153_⟩
          · replace c9 := Bool.eq_false_iff.mpr c9
            subst c9
            have H1 : (some 0) = some r := by rw [if_neg (show ¬ (false = true) by decide)] at H; exact H
            clear H
            have H := H1
            clear H1
            obtain rfl := Option.some.inj H
            go_enter Try.func17, Try.ntmps17
            go_wp2_with (first | (go_at_call 31; (with_reducible refine (tilefarmref12_Bins.calls a2 false _ A8.out).mono ?_); rintro e w' ⟨rfl, ⟨nd, rfl⟩⟩))
            go_ret
            exact ⟨q156_, q153_⟩


def tilefarmgen_Tape_Within.f (s0_0 : List Int) (s0_1 : Int) (a1 : Int) (a2 : Int) : Option (Int × Int × Int × Int × Int) := (tilefarmgen_Tape_Next.f s0_0 s0_1 a1).bind fun bt241 => ((tilefarmgen_Tape_Next.f s0_0 bt241.2 a2).bind fun bt243 => ((tilefarmgen_Tape_Next.f s0_0 bt243.2 (wrap64 (a1 - bt241.1))).bind fun bt246 => ((tilefarmgen_Tape_Next.f s0_0 bt246.2 (wrap64 (a2 - bt243.1))).bind fun bt248 => (some (bt241.1, bt243.1, wrap64 ((wrap64 (bt241.1 + 1)) + bt246.1), wrap64 ((wrap64 (bt243.1 + 1)) + bt248.1), bt248.2)))))
def tilefarmgen_Tape_Within.T2 : Bool × List (List Nat × List Nat) := (true, [([], []), ([0], [0]), ([1], [1]), ([], []), ([], []), ([], []), ([5], [5]), ([4, 6], [4, 6]), ([3, 7], [3, 7]), ([2, 8], [2, 8]), ([], []), ([10], [10]), ([11], [11]), ([], []), ([], []), ([], []), ([15], [15]), ([14, 16], [14, 16]), ([13, 17, 8], [13, 17]), ([12, 18], [12, 18]), ([0, 1, 2, 3, 4, 5, 6, 7, 8, 9, 10, 11, 15, 16], []), ([20, 9, 18, 0, 1, 2, 3, 4, 5, 6, 7, 8, 9, 10, 11, 15, 16], [9, 20]), ([0, 1, 2, 3, 4, 5, 6, 7, 8, 9, 10, 11, 12, 13, 14, 15, 16, 17, 18, 19, 20, 21], []), ([22, 19, 21, 0, 1, 2, 3, 4, 5, 6, 7, 8, 9, 10, 11, 12, 13, 14, 15, 16, 17, 18, 19, 20, 21], [19, 22])])
def tilefarmgen_Tape_Within.B2 : List Nat := [0, 1, 3, 0, 0, 0, 32, 112, 248, 511, 0, 1024, 3072, 0, 0, 0, 32768, 114688, 254456, 523768, 102399, 1568767, 4194303, 8388607]
theorem tilefarmgen_Tape_Within.tab2 : rtab .any (opsOf Try.f19 2) = tilefarmgen_Tape_Within.T2 := by kernel_rfl
theorem tilefarmgen_Tape_Within.bits2 : waitsOk tilefarmgen_Tape_Within.T2.2 tilefarmgen_Tape_Within.B2 = true := by kernel_rfl
set_option maxHeartbeats 8000000 in
set_option maxRecDepth 100000 in
theorem tilefarmgen_Tape_Within.calls (g : Nat) (s0_0 : List Int) (s0_1 : Int) (a1 : Int) (a2 : Int) (r1 : Int) (r2 : Int) (r3 : Int) (r4 : Int) (r5 : Int) (w0 w : World) (hI : IsS55 w0 w g s0_0 s0_1) (hB : Below w0.heap.size w0 w) (h : tilefarmgen_Tape_Within.f s0_0 s0_1 a1 a2 = some (r1, r2, r3, r4, r5)) :
    Calls Try.prog 19 #[.pointer (some ⟨g, 0, none⟩), .int .i64 a1, .int .i64 a2] w fun e w' => e = .returned (.agg #[.int .i64 r1, .int .i64 r2, .int .i64 r3, .int .i64 r4]) ∧ IsS55 w0 w' g s0_0 r5 ∧ Below w0.heap.size w0 w' ∧ KeepBut w w' g none := by
  have hu39 := Try.underlying39
  have HI0 := Aside0.mk hI
  have HK := Aside0.mk (KeepBut.refl w g none)
  have HL := Aside0.mk hB.size
  clear hI
  have HW0 := Aside0.mk hB.size
  have HB := Aside0.mk hB
  clear hB
  have H : ((tilefarmgen_Tape_Next.f s0_0 s0_1 a1).bind fun bt241 => ((tilefarmgen_Tape_Next.f s0_0 bt241.2 a2).bind fun bt243 => ((tilefarmgen_Tape_Next.f s0_0 bt243.2 (wrap64 (a1 - bt241.1))).bind fun bt246 => ((tilefarmgen_Tape_Next.f s0_0 bt246.2 (wrap64 (a2 - bt243.1))).bind fun bt248 => (some (bt241.1, bt243.1, wrap64 ((wrap64 (bt241.1 + 1)) + bt246.1), wrap64 ((wrap64 (bt243.1 + 1)) + bt248.1), bt248.2)))))) = some (r1, r2, r3, r4, r5) := h
  clear h
  replace H := Option.bind_eq_some_iff.mp H
  obtain ⟨⟨t241, t242⟩, A40, H⟩ := H
  replace H : ((tilefarmgen_Tape_Next.f s0_0 t242 a2).bind fun bt243 => ((tilefarmgen_Tape_Next.f s0_0 bt243.2 (wrap64 (a1 - t241))).bind fun bt246 => ((tilefarmgen_Tape_Next.f s0_0 bt246.2 (wrap64 (a2 - bt243.1))).bind fun bt248 => (some (t241, bt243.1, wrap64 ((wrap64 (t241 + 1)) + bt246.1), wrap64 ((wrap64 (bt243.1 + 1)) + bt248.1), bt248.2))))) = some (r1, r2, r3, r4, r5) := H
  have A4 := Aside0.mk A40
  clear A40
  replace H := Option.bind_eq_some_iff.mp H
  obtain ⟨⟨t243, t244⟩, A50, H⟩ := H
  replace H : ((tilefarmgen_Tape_Next.f s0_0 t244 (wrap64 (a1 - t241))).bind fun bt246 => ((tilefarmgen_Tape_Next.f s0_0 bt246.2 (wrap64 (a2 - t243))).bind fun bt248 => (some (t241, t243, wrap64 ((wrap64 (t241 + 1)) + bt246.1), wrap64 ((wrap64 (t243 + 1)) + bt248.1), bt248.2)))) = some (r1, r2, r3, r4, r5) := H
  have A5 := Aside0.mk A50
  clear A50
  replace H := Option.bind_eq_some_iff.mp H
  obtain ⟨⟨t246, t247⟩, A60, H⟩ := H
  replace H : ((tilefarmgen_Tape_Next.f s0_0 t247 (wrap64 (a2 - t243))).bind fun bt248 => (some (t241, t243, wrap64 ((wrap64 (t241 + 1)) + t246), wrap64 ((wrap64 (t243 + 1)) + bt248.1), bt248.2))) = some (r1, r2, r3, r4, r5) := H
  have A6 := Aside0.mk A60
  clear A60
  replace H := Option.bind_eq_some_iff.mp H
  obtain ⟨⟨t248, t249⟩, A70, H⟩ := H
  replace H : (some (t241, t243, wrap64 ((wrap64 (t241 + 1)) + t246), wrap64 ((wrap64 (t243 + 1)) + t248), t249)) = some (r1, r2, r3, r4, r5) := H
  have A7 := Aside0.mk A70
  clear A70
  simp only [Option.some.injEq, Prod.mk.injEq] at H
  obtain ⟨rfl, rfl, rfl, rfl, rfl⟩ := H
  go_enter Try.func19, Try.ntmps19
  try go_wp2_with (first | ((with_reducible refine gate_dst (N := 6) rfl ?_); refine box_event ?hg (N := 6) ?hd (cs := #[.int .i64 0, .int .i64 0, .int .i64 0, .int .i64 0]) (t := 39) ?hr ?_; (case hd => rfl); (case hg => rfl); (case hr => first | (go_simp; done) | (go_simp; rfl)); intro gb240 hg w8 hbox hb; have n0_ := Aside0.mk (IsS55.below q95_ hb); have n1_ := Aside0.mk (KeepBut.trans q96_ (KeepBut.of_below hb g none) (.inl rfl)); have n2_ := Aside0.mk (below_step q78_ hb); have n3_ := Aside0.mk (hbox); have n4_ := Aside0.mk ((q50_ : w.heap.size ≤ gb240)); have n5_ := Aside0.mk ((Nat.le_trans HW0.out (q50_ : w.heap.size ≤ gb240) : w0.heap.size ≤ gb240)); have n6_ := Aside0.mk ((q41_ : g ≠ gb240)); have n7_ := Aside0.mk ((q42_ : gb240 ≠ g)); clear HI0; clear HK; clear HB; have HI0 := n0_; have HK := n1_; have HB := n2_; have BK240 := n3_; have GW240 := n4_; have GE240 := n5_; have NB0_240 := n6_; have NB240_0 := n7_; clear n0_ n1_ n2_ n3_ n4_ n5_ n6_ n7_; clear hb hbox hg) | ((with_reducible refine gate_callee (f := 10) rfl ?_); refine goesL_ (some 10) rfl rfl Try.func10 (by kernel_rfl) rfl #[.pointer (some ⟨g, 0, none⟩), .int .i64 a1] rfl q100_ ?_; (with_reducible refine (tilefarmgen_Tape_Next.calls g s0_0 s0_1 a1 t241 t242 w0 _ ?side1 ?side2 A4.out).mono ?_); (case side1 => repeat (first | (with_reducible first | exact HI0.out | apply IsS55.alloc | apply IsS55.drewN | apply IsS55.drew | apply IsS55.set_1 | refine IsS55.far ?_ NB0_240.out _) | exact HI0.out)); (case side2 => repeat (first | (with_reducible first | exact HB.out | apply below_alloc | apply pw_below_drewN | apply below_drew1 | refine below_set ?_ (IsS55.ge HI0.out) | refine below_set ?_ GE240.out) | exact HB.out)); rintro e w9 ⟨rfl, hi, hb, hk⟩; refine ⟨_, rfl, ?_⟩; have n0_ := Aside0.mk (KeepBut.blk hk (g' := gb240) (o := .cells #[.int .i64 0, .int .i64 0, .int .i64 0, .int .i64 0] 39 (0, 0)) q120_ NB240_0.out (by simp)); have n1_ := Aside0.mk (KeepBut.trans q76_ hk (.inl rfl)); have n2_ := Aside0.mk (hb); have n3_ := Aside0.mk (hi); clear BK240; clear HK; clear HB; clear HI0; have BK240 := n0_; have HK := n1_; have HB := n2_; have HI0 := n3_; clear n0_ n1_ n2_ n3_; (try clear hb); (try clear hb2); (try clear hk); (try clear hi)) | ((with_reducible refine gate_callee (f := 10) rfl ?_); refine goesL_ (some 13) rfl rfl Try.func10 (by kernel_rfl) rfl #[.pointer (some ⟨g, 0, none⟩), .int .i64 a2] rfl q100_ ?_; (with_reducible refine (tilefarmgen_Tape_Next.calls g s0_0 t242 a2 t243 t244 w0 _ ?side1 ?side2 A5.out).mono ?_); (case side1 => repeat (first | (with_reducible first | exact HI0.out | apply IsS55.alloc | apply IsS55.drewN | apply IsS55.drew | apply IsS55.set_1 | refine IsS55.far ?_ NB0_240.out _) | exact HI0.out)); (case side2 => repeat (first | (with_reducible first | exact HB.out | apply below_alloc | apply pw_below_drewN | apply below_drew1 | refine below_set ?_ (IsS55.ge HI0.out) | refine below_set ?_ GE240.out) | exact HB.out)); rintro e w10 ⟨rfl, hi, hb, hk⟩; refine ⟨_, rfl, ?_⟩; have n0_ := Aside0.mk (KeepBut.blk hk (g' := gb240) (o := .cells #[.int .i64 0, .int .i64 0, .int .i64 0, .int .i64 0] 39 (0, 0)) q120_ NB240_0.out (by simp)); have n1_ := Aside0.mk (KeepBut.trans q76_ hk (.inl rfl)); have n2_ := Aside0.mk (hb); have n3_ := Aside0.mk (hi); clear BK240; clear HK; clear HB; clear HI0; have BK240 := n0_; have HK := n1_; have HB := n2_; have HI0 := n3_; clear n0_ n1_ n2_ n3_; (try clear hb); (try clear hb2); (try clear hk); (try clear hi)) | ((with_reducible refine gate_dst (N := 7) rfl ?_); refine box_event ?hg (N := 7) ?hd (cs := #[.int .i64 0, .int .i64 0, .int .i64 0, .int .i64 0]) (t := 39) ?hr ?_; (case hd => rfl); (case hg => rfl); (case hr => first | (go_simp; done) | (go_simp; rfl)); intro gb245 hg w11 hbox hb; have n0_ := Aside0.mk (IsS55.below (by repeat (first | (with_reducible first | exact HI0.out | apply IsS55.alloc | apply IsS55.drewN | apply IsS55.drew | apply IsS55.set_1 | refine IsS55.far ?_ NB0_240.out _) | exact HI0.out)) hb); have n1_ := Aside0.mk (blk_below (g := gb240) (o := .cells #[.int .i64 0, .int .i64 0, .int .i64 0, .int .i64 0] 39 (0, 0)) q120_ hb); have n2_ := Aside0.mk (KeepBut.trans q76_ (KeepBut.of_below hb g none) (.inl rfl)); have n3_ := Aside0.mk (below_step (by repeat (first | (with_reducible first | exact HB.out | apply below_alloc | apply pw_below_drewN | apply below_drew1 | refine below_set ?_ (IsS55.ge HI0.out) | refine below_set ?_ GE240.out) | exact HB.out)) hb); have n4_ := Aside0.mk (hbox); have n5_ := Aside0.mk ((by rw [hg]; exact (keep_size (w := w) (g := g) (row := none) q76_) : w.heap.size ≤ gb245)); have n6_ := Aside0.mk ((Nat.le_trans HW0.out (by rw [hg]; exact (keep_size (w := w) (g := g) (row := none) q76_) : w.heap.size ≤ gb245) : w0.heap.size ≤ gb245)); have n7_ := Aside0.mk ((by rw [hg]; exact Nat.ne_of_lt (blk_lt (g := gb240) (o := .cells #[.int .i64 0, .int .i64 0, .int .i64 0, .int .i64 0] 39 (0, 0)) q120_) : gb240 ≠ gb245)); have n8_ := Aside0.mk ((by rw [hg]; exact Nat.ne_of_gt (blk_lt (g := gb240) (o := .cells #[.int .i64 0, .int .i64 0, .int .i64 0, .int .i64 0] 39 (0, 0)) q120_) : gb245 ≠ gb240)); have n9_ := Aside0.mk ((by rw [hg]; exact Nat.ne_of_lt (IsS55.lt (show IsS55 w0 _ g s0_0 t244 from by repeat (first | (with_reducible first | exact HI0.out | apply IsS55.alloc | apply IsS55.drewN | apply IsS55.drew | apply IsS55.set_1 | refine IsS55.far ?_ NB0_240.out _) | exact HI0.out))) : g ≠ gb245)); have n10_ := Aside0.mk ((by rw [hg]; exact Nat.ne_of_gt (IsS55.lt (show IsS55 w0 _ g s0_0 t244 from by repeat (first | (with_reducible first | exact HI0.out | apply IsS55.alloc | apply IsS55.drewN | apply IsS55.drew | apply IsS55.set_1 | refine IsS55.far ?_ NB0_240.out _) | exact HI0.out))) : gb245 ≠ g)); clear HI0; clear BK240; clear HK; clear HB; have HI0 := n0_; have BK240 := n1_; have HK := n2_; have HB := n3_; have BK245 := n4_; have GW245 := n5_; have GE245 := n6_; have NB240_245 := n7_; have NB245_240 := n8_; have NB0_245 := n9_; have NB245_0 := n10_; clear n0_ n1_ n2_ n3_ n4_ n5_ n6_ n7_ n8_ n9_ n10_; clear hb hbox hg; have hnb12 := NB245_240.out; have hnc12 := NB240_245.out; have hnb13 := NB245_0.out; have hnc13 := NB0_245.out; have hcz14_0 : w11.cell? ⟨gb245, 0, none⟩ = some (.int .i64 0) := (blk_cell BK245.out 0).trans rfl; have hcz14_1 : w11.cell? ⟨gb245, 1, none⟩ = some (.int .i64 0) := (blk_cell BK245.out 1).trans rfl; have hcz14_2 : w11.cell? ⟨gb245, 2, none⟩ = some (.int .i64 0) := (blk_cell BK245.out 2).trans rfl; have hcz14_3 : w11.cell? ⟨gb245, 3, none⟩ = some (.int .i64 0) := (blk_cell BK245.out 3).trans rfl; have hfz14_0 := blk_frozen BK245.out 0; have hfz14_1 := blk_frozen BK245.out 1; have hfz14_2 := blk_frozen BK245.out 2; have hfz14_3 := blk_frozen BK245.out 3))
  have n0_ : Aside0 (((((w11.setCell ⟨gb245, 0, none⟩ (.int .i64 t241)).setCell ⟨gb245, 1, none⟩ (.int .i64 t243)).setCell ⟨gb245, 2, none⟩ (.int .i64 0)).setCell ⟨gb245, 3, none⟩ (.int .i64 0)).heap[gb240]? = some (.cells #[.int .i64 0, .int .i64 0, .int .i64 0, .int .i64 0] 39 (0, 0))) := ⟨by (with_reducible repeat (first | refine blk_drewN ?_ _ | refine blk_drew ?_ | refine blk_alloc ?_ _)); refine blk_far ?_ NB240_245.out _; (with_reducible repeat (first | refine blk_drewN ?_ _ | refine blk_drew ?_ | refine blk_alloc ?_ _)); refine blk_far ?_ NB240_245.out _; (with_reducible repeat (first | refine blk_drewN ?_ _ | refine blk_drew ?_ | refine blk_alloc ?_ _)); refine blk_far ?_ NB240_245.out _; (with_reducible repeat (first | refine blk_drewN ?_ _ | refine blk_drew ?_ | refine blk_alloc ?_ _)); refine blk_far ?_ NB240_245.out _; (with_reducible repeat (first | refine blk_drewN ?_ _ | refine blk_drew ?_ | refine blk_alloc ?_ _)); exact BK240.out⟩
  have n1_ : Aside0 (((((w11.setCell ⟨gb245, 0, none⟩ (.int .i64 t241)).setCell ⟨gb245, 1, none⟩ (.int .i64 t243)).setCell ⟨gb245, 2, none⟩ (.int .i64 0)).setCell ⟨gb245, 3, none⟩ (.int .i64 0)).heap[gb245]? = some (.cells #[.int .i64 t241, .int .i64 t243, .int .i64 0, .int .i64 0] 39 (0, 0))) := ⟨by (with_reducible repeat (first | refine blk_drewN ?_ _ | refine blk_drew ?_ | refine blk_alloc ?_ _)); refine blk_put (cs := #[.int .i64 t241, .int .i64 t243, .int .i64 0, .int .i64 0]) ?_ 3 _ rfl; (with_reducible repeat (first | refine blk_drewN ?_ _ | refine blk_drew ?_ | refine blk_alloc ?_ _)); refine blk_put (cs := #[.int .i64 t241, .int .i64 t243, .int .i64 0, .int .i64 0]) ?_ 2 _ rfl; (with_reducible repeat (first | refine blk_drewN ?_ _ | refine blk_drew ?_ | refine blk_alloc ?_ _)); refine blk_put (cs := #[.int .i64 t241, .int .i64 0, .int .i64 0, .int .i64 0]) ?_ 1 _ rfl; (with_reducible repeat (first | refine blk_drewN ?_ _ | refine blk_drew ?_ | refine blk_alloc ?_ _)); refine blk_put (cs := #[.int .i64 0, .int .i64 0, .int .i64 0, .int .i64 0]) ?_ 0 _ rfl; (with_reducible repeat (first | refine blk_drewN ?_ _ | refine blk_drew ?_ | refine blk_alloc ?_ _)); exact BK245.out⟩
  have n2_ : Aside0 (IsS55 w0 ((((w11.setCell ⟨gb245, 0, none⟩ (.int .i64 t241)).setCell ⟨gb245, 1, none⟩ (.int .i64 t243)).setCell ⟨gb245, 2, none⟩ (.int .i64 0)).setCell ⟨gb245, 3, none⟩ (.int .i64 0)) g s0_0 t244) := ⟨by repeat (first | (with_reducible first | exact HI0.out | apply IsS55.alloc | apply IsS55.drewN | apply IsS55.drew | apply IsS55.set_1 | refine IsS55.far ?_ NB0_240.out _ | refine IsS55.far ?_ NB0_245.out _) | exact HI0.out)⟩
  have n3_ : Aside0 (KeepBut w ((((w11.setCell ⟨gb245, 0, none⟩ (.int .i64 t241)).setCell ⟨gb245, 1, none⟩ (.int .i64 t243)).setCell ⟨gb245, 2, none⟩ (.int .i64 0)).setCell ⟨gb245, 3, none⟩ (.int .i64 0)) g none) := ⟨q48_⟩
  have n4_ : Aside0 (Below w0.heap.size w0 ((((w11.setCell ⟨gb245, 0, none⟩ (.int .i64 t241)).setCell ⟨gb245, 1, none⟩ (.int .i64 t243)).setCell ⟨gb245, 2, none⟩ (.int .i64 0)).setCell ⟨gb245, 3, none⟩ (.int .i64 0))) := ⟨by repeat (first | (with_reducible first | exact HB.out | apply below_alloc | apply pw_below_drewN | apply below_drew1 | refine below_set ?_ (IsS55.ge HI0.out) | refine below_set ?_ GE240.out | refine below_set ?_ GE245.out) | exact HB.out)⟩
  (try clear BK240)
  (try clear BK245)
  (try clear HI0)
  (try clear HK)
  (try clear HB)
  generalize ((((w11.setCell ⟨gb245, 0, none⟩ (.int .i64 t241)).setCell ⟨gb245, 1, none⟩ (.int .i64 t243)).setCell ⟨gb245, 2, none⟩ (.int .i64 0)).setCell ⟨gb245, 3, none⟩ (.int .i64 0)) = w15 at n0_ n1_ n2_ n3_ n4_ ⊢
  have BK240 := n0_
  have BK245 := n1_
  have HI0 := n2_
  have HK := n3_
  have HB := n4_
  clear n0_ n1_ n2_ n3_ n4_
  have n0_ := Aside0.mk (blk_drew BK240.out)
  have n1_ := Aside0.mk (blk_drew BK245.out)
  have n2_ := Aside0.mk (IsS55.drew HI0.out)
  have n3_ := Aside0.mk (keep_drew HK.out)
  have n4_ := Aside0.mk (below_drew1 HB.out)
  clear BK240
  clear BK245
  clear HI0
  clear HK
  clear HB
  have BK240 := n0_
  have BK245 := n1_
  have HI0 := n2_
  have HK := n3_
  have HB := n4_
  clear n0_ n1_ n2_ n3_ n4_
  refine start_ (n := 24) (S := fun w' => w'.cell? ⟨gb245, 0, none⟩ = some (.int .i64 t241) ∧ w'.cell? ⟨gb245, 1, none⟩ = some (.int .i64 t243) ∧ w'.cell? ⟨gb245, 2, none⟩ = some (.int .i64 0) ∧ w'.cell? ⟨gb245, 3, none⟩ = some (.int .i64 0)) (ds := [21, 23]) #[false, false, false, false, false, false, false, false, false, false, false, false, false, false, false, false, false, false, false, false, false, false, false, false] (by kernel_rfl) rfl rfl ⟨(blk_cell BK245.out 0).trans rfl, (blk_cell BK245.out 1).trans rfl, (blk_cell BK245.out 2).trans rfl, (blk_cell BK245.out 3).trans rfl⟩ (fun hHeld => ?_); refine with_tabW tilefarmgen_Tape_Within.tab2 tilefarmgen_Tape_Within.bits2 (fun HT_ HW_ => ?_)
  generalize w15.drew = w16 at BK240 BK245 HI0 HK HB hHeld ⊢
  refine pure_ (i := 0) (N := some 15) (v := ?_) (a' := ?_) #[true, false, false, false, false, false, false, false, false, false, false, false, false, false, false, false, false, false, false, false, false, false, false, false] rfl rfl (any_of HT_.out (by kernel_rfl)) (fun _ _ _ h => h) (Or.inl ⟨by rfl, ?_⟩) ?_ ?_
  rotate_left
  · intro w'
    go_simp
    with_reducible rfl
  rotate_left
  · simp only [Act.put, List.setIfInBounds_toArray, List.set_cons_zero, List.set_cons_succ, i64_w, i32_w]
    rfl
  refine pure_ (i := 3) (N := some 18) (v := ?_) (a' := ?_) #[true, false, false, true, false, false, false, false, false, false, false, false, false, false, false, false, false, false, false, false, false, false, false, false] rfl rfl (any_of HT_.out (by kernel_rfl)) (fun _ _ _ h => h) (Or.inl ⟨by rfl, ?_⟩) ?_ ?_
  rotate_left
  · intro w'
    go_simp
    with_reducible rfl
  rotate_left
  · simp only [Act.put, List.setIfInBounds_toArray, List.set_cons_zero, List.set_cons_succ, i64_w, i32_w]
    rfl
  refine pure_ (i := 4) (N := some 19) (v := ?_) (a' := ?_) #[true, false, false, true, true, false, false, false, false, false, false, false, false, false, false, false, false, false, false, false, false, false, false, false] rfl rfl (any_of HT_.out (by kernel_rfl)) (fun _ _ _ h => h) (Or.inl ⟨by rfl, ?_⟩) ?_ ?_
  rotate_left
  · intro w'
    go_simp
    with_reducible rfl
  rotate_left
  · simp only [Act.put, List.setIfInBounds_toArray, List.set_cons_zero, List.set_cons_succ, i64_w, i32_w]
    rfl
  refine pure_ (i := 5) (N := some 20) (v := ?_) (a' := ?_) #[true, false, false, true, true, true, false, false, false, false, false, false, false, false, false, false, false, false, false, false, false, false, false, false] rfl rfl (any_of HT_.out (by kernel_rfl)) (fun _ _ _ h => h) (Or.inl ⟨by rfl, ?_⟩) ?_ ?_
  rotate_left
  · intro w'
    go_simp
    with_reducible rfl
  rotate_left
  · simp only [Act.put, List.setIfInBounds_toArray, List.set_cons_zero, List.set_cons_succ, i64_w, i32_w]
    rfl
  refine pure_ (i := 10) (N := some 25) (v := ?_) (a' := ?_) #[true, false, false, true, true, true, false, false, false, false, true, false, false, false, false, false, false, false, false, false, false, false, false, false] rfl rfl (any_of HT_.out (by kernel_rfl)) (fun _ _ _ h => h) (Or.inl ⟨by rfl, ?_⟩) ?_ ?_
  rotate_left
  · intro w'
    go_simp
    with_reducible rfl
  rotate_left
  · simp only [Act.put, List.setIfInBounds_toArray, List.set_cons_zero, List.set_cons_succ, i64_w, i32_w]
    rfl
  refine pure_ (i := 13) (N := some 28) (v := ?_) (a' := ?_) #[true, false, false, true, true, true, false, false, false, false, true, false, false, true, false, false, false, false, false, false, false, false, false, false] rfl rfl (any_of HT_.out (by kernel_rfl)) (fun _ _ _ h => h) (Or.inl ⟨by rfl, ?_⟩) ?_ ?_
  rotate_left
  · intro w'
    go_simp
    with_reducible rfl
  rotate_left
  · simp only [Act.put, List.setIfInBounds_toArray, List.set_cons_zero, List.set_cons_succ, i64_w, i32_w]
    rfl
  refine pure_ (i := 14) (N := some 29) (v := ?_) (a' := ?_) #[true, false, false, true, true, true, false, false, false, false, true, false, false, true, true, false, false, false, false, false, false, false, false, false] rfl rfl (any_of HT_.out (by kernel_rfl)) (fun _ _ _ h => h) (Or.inl ⟨by rfl, ?_⟩) ?_ ?_
  rotate_left
  · intro w'
    go_simp
    with_reducible rfl
  rotate_left
  · simp only [Act.put, List.setIfInBounds_toArray, List.set_cons_zero, List.set_cons_succ, i64_w, i32_w]
    rfl
  refine pure_ (i := 15) (N := some 30) (v := ?_) (a' := ?_) #[true, false, false, true, true, true, false, false, false, false, true, false, false, true, true, true, false, false, false, false, false, false, false, false] rfl rfl (any_of HT_.out (by kernel_rfl)) (fun _ _ _ h => h) (Or.inl ⟨by rfl, ?_⟩) ?_ ?_
  rotate_left
  · intro w'
    go_simp
    with_reducible rfl
  rotate_left
  · simp only [Act.put, List.setIfInBounds_toArray, List.set_cons_zero, List.set_cons_succ, i64_w, i32_w]
    rfl
  refine take_ (i := 1) (N := some 16) (v := ?_) (a' := ?_) #[true, true, false, true, true, true, false, false, false, false, true, false, false, true, true, true, false, false, false, false, false, false, false, false] rfl rfl (take_ofW HT_.out HW_.out (by kernel_rfl)) (fun _ _ _ h => h) (Or.inl ⟨by rfl, ?_⟩) hHeld ?_ ?_
  rotate_left
  · rintro w' ⟨s0, s1, s2, s3⟩
    go_simp
    with_reducible rfl
  rotate_left
  · simp only [Act.put, List.setIfInBounds_toArray, List.set_cons_zero, List.set_cons_succ, i64_w, i32_w]
    rfl
  refine pure_ (i := 2) (N := some 17) (v := ?_) (a' := ?_) #[true, true, true, true, true, true, false, false, false, false, true, false, false, true, true, true, false, false, false, false, false, false, false, false] rfl rfl (any_of HT_.out (by kernel_rfl)) (fun _ _ _ h => h) (Or.inl ⟨by rfl, ?_⟩) ?_ ?_
  rotate_left
  · intro w'
    go_simp
    with_reducible rfl
  rotate_left
  · simp only [Act.put, List.setIfInBounds_toArray, List.set_cons_zero, List.set_cons_succ, i64_w, i32_w]
    rfl
  refine take_ (i := 6) (N := some 21) (v := ?_) (a' := ?_) #[true, true, true, true, true, true, true, false, false, false, true, false, false, true, true, true, false, false, false, false, false, false, false, false] rfl rfl (take_ofW HT_.out HW_.out (by kernel_rfl)) (fun _ _ _ h => h) (Or.inl ⟨by rfl, ?_⟩) hHeld ?_ ?_
  rotate_left
  · rintro w' ⟨s0, s1, s2, s3⟩
    go_simp
    with_reducible rfl
  rotate_left
  · simp only [Act.put, List.setIfInBounds_toArray, List.set_cons_zero, List.set_cons_succ, i64_w, i32_w]
    rfl
  refine pure_ (i := 7) (N := some 22) (v := ?_) (a' := ?_) #[true, true, true, true, true, true, true, true, false, false, true, false, false, true, true, true, false, false, false, false, false, false, false, false] rfl rfl (any_of HT_.out (by kernel_rfl)) (fun _ _ _ h => h) (Or.inl ⟨by rfl, ?_⟩) ?_ ?_
  rotate_left
  · intro w'
    go_simp
    with_reducible rfl
  rotate_left
  · simp only [Act.put, List.setIfInBounds_toArray, List.set_cons_zero, List.set_cons_succ, i64_w, i32_w]
    rfl
  refine take_ (i := 11) (N := some 26) (v := ?_) (a' := ?_) #[true, true, true, true, true, true, true, true, false, false, true, true, false, true, true, true, false, false, false, false, false, false, false, false] rfl rfl (take_ofW HT_.out HW_.out (by kernel_rfl)) (fun _ _ _ h => h) (Or.inl ⟨by rfl, ?_⟩) hHeld ?_ ?_
  rotate_left
  · rintro w' ⟨s0, s1, s2, s3⟩
    go_simp
    with_reducible rfl
  rotate_left
  · simp only [Act.put, List.setIfInBounds_toArray, List.set_cons_zero, List.set_cons_succ, i64_w, i32_w]
    rfl
  refine pure_ (i := 12) (N := some 27) (v := ?_) (a' := ?_) #[true, true, true, true, true, true, true, true, false, false, true, true, true, true, true, true, false, false, false, false, false, false, false, false] rfl rfl (any_of HT_.out (by kernel_rfl)) (fun _ _ _ h => h) (Or.inl ⟨by rfl, ?_⟩) ?_ ?_
  rotate_left
  · intro w'
    go_simp
    with_reducible rfl
  rotate_left
  · simp only [Act.put, List.setIfInBounds_toArray, List.set_cons_zero, List.set_cons_succ, i64_w, i32_w]
    rfl
  refine take_ (i := 16) (N := some 31) (v := ?_) (a' := ?_) #[true, true, true, true, true, true, true, true, false, false, true, true, true, true, true, true, true, false, false, false, false, false, false, false] rfl rfl (take_ofW HT_.out HW_.out (by kernel_rfl)) (fun _ _ _ h => h) (Or.inl ⟨by rfl, ?_⟩) hHeld ?_ ?_
  rotate_left
  · rintro w' ⟨s0, s1, s2, s3⟩
    go_simp
    with_reducible rfl
  rotate_left
  · simp only [Act.put, List.setIfInBounds_toArray, List.set_cons_zero, List.set_cons_succ, i64_w, i32_w]
    rfl
  refine pure_ (i := 17) (N := some 32) (v := ?_) (a' := ?_) #[true, true, true, true, true, true, true, true, false, false, true, true, true, true, true, true, true, true, false, false, false, false, false, false] rfl rfl (any_of HT_.out (by kernel_rfl)) (fun _ _ _ h => h) (Or.inl ⟨by rfl, ?_⟩) ?_ ?_
  rotate_left
  · intro w'
    go_simp
    with_reducible rfl
  rotate_left
  · simp only [Act.put, List.setIfInBounds_toArray, List.set_cons_zero, List.set_cons_succ, i64_w, i32_w]
    rfl
  refine one_ (i := 8) (N := some 23) #[true, true, true, true, true, true, true, true, true, false, true, true, true, true, true, true, true, true, false, false, false, false, false, false] rfl rfl (one_of HT_.out (by kernel_rfl)) (by decide) (fun K hK => ?_)
  refine goes_ Try.func10 (by kernel_rfl) rfl #[.pointer (some ⟨g, 0, none⟩), .int .i64 (wrap64 (a1 - t241))] (by rfl) rfl rfl q100_ ?_
  with_reducible refine (tilefarmgen_Tape_Next.calls g s0_0 t244 (wrap64 (a1 - t241)) t246 t247 w0 _ ?side1 ?side2 A6.out).mono ?_
  (case side1 => repeat (first | (with_reducible first | exact HI0.out | apply IsS55.alloc | apply IsS55.drewN | apply IsS55.drew | apply IsS55.set_1 | refine IsS55.far ?_ NB0_240.out _ | refine IsS55.far ?_ NB0_245.out _) | exact HI0.out))
  (case side2 => repeat (first | (with_reducible first | exact HB.out | apply below_alloc | apply pw_below_drewN | apply below_drew1 | refine below_set ?_ (IsS55.ge HI0.out) | refine below_set ?_ GE240.out | refine below_set ?_ GE245.out) | exact HB.out))
  rintro e w17 ⟨rfl, hi, hb, hk⟩
  refine ⟨_, rfl, ?_⟩
  have n0_ := Aside0.mk (KeepBut.blk hk (g' := gb240) (o := .cells #[.int .i64 0, .int .i64 0, .int .i64 0, .int .i64 0] 39 (0, 0)) q120_ NB240_0.out (by simp))
  have n1_ := Aside0.mk (KeepBut.blk hk (g' := gb245) (o := .cells #[.int .i64 t241, .int .i64 t243, .int .i64 0, .int .i64 0] 39 (0, 0)) (by (with_reducible repeat (first | refine blk_drewN ?_ _ | refine blk_drew ?_ | refine blk_alloc ?_ _)); exact BK245.out) NB245_0.out (by simp))
  have n2_ := Aside0.mk (KeepBut.trans q48_ hk (.inl rfl))
  have n3_ := Aside0.mk (hb)
  have n4_ := Aside0.mk (hi)
  clear BK240
  clear BK245
  clear HK
  clear HB
  clear HI0
  have BK240 := n0_
  have BK245 := n1_
  have HK := n2_
  have HB := n3_
  have HI0 := n4_
  clear n0_ n1_ n2_ n3_ n4_
  (try clear hb)
  (try clear hb2)
  (try clear hk)
  (try clear hi)
  refine hK.out _ _ ⟨(blk_cell BK245.out 0).trans rfl, (blk_cell BK245.out 1).trans rfl, (blk_cell BK245.out 2).trans rfl, (blk_cell BK245.out 3).trans rfl⟩ (fun hHeld => ?_)
  clear hK K
  refine norm_ (a' := ?_) ?_ ?_
  rotate_left
  · show Act.put _ (some 23) _ = _
    simp only [Act.put, List.setIfInBounds_toArray, List.set_cons_zero, List.set_cons_succ, i64_w, i32_w]
    rfl
  refine pure_ (i := 9) (N := some 24) (v := ?_) (a' := ?_) #[true, true, true, true, true, true, true, true, true, true, true, true, true, true, true, true, true, true, false, false, false, false, false, false] rfl rfl (any_of HT_.out (by kernel_rfl)) (fun _ _ _ h => h) (Or.inl ⟨by rfl, ?_⟩) ?_ ?_
  rotate_left
  · intro w'
    go_simp
    with_reducible rfl
  rotate_left
  · simp only [Act.put, List.setIfInBounds_toArray, List.set_cons_zero, List.set_cons_succ, i64_w, i32_w]
    rfl
  refine pure_ (i := 20) (N := some 35) (v := ?_) (a' := ?_) #[true, true, true, true, true, true, true, true, true, true, true, true, true, true, true, true, true, true, false, false, true, false, false, false] rfl rfl (any_of HT_.out (by kernel_rfl)) (fun _ _ _ h => h) (Or.inl ⟨by rfl, ?_⟩) ?_ ?_
  rotate_left
  · intro w'
    go_simp
    with_reducible rfl
  rotate_left
  · simp only [Act.put, List.setIfInBounds_toArray, List.set_cons_zero, List.set_cons_succ, i64_w, i32_w]
    rfl
  refine one_ (i := 18) (N := some 33) #[true, true, true, true, true, true, true, true, true, true, true, true, true, true, true, true, true, true, true, false, true, false, false, false] rfl rfl (one_of HT_.out (by kernel_rfl)) (by decide) (fun K hK => ?_)
  refine goes_ Try.func10 (by kernel_rfl) rfl #[.pointer (some ⟨g, 0, none⟩), .int .i64 (wrap64 (a2 - t243))] (by rfl) rfl rfl q100_ ?_
  with_reducible refine (tilefarmgen_Tape_Next.calls g s0_0 t247 (wrap64 (a2 - t243)) t248 t249 w0 _ ?side1 ?side2 A7.out).mono ?_
  (case side1 => repeat (first | (with_reducible first | exact HI0.out | apply IsS55.alloc | apply IsS55.drewN | apply IsS55.drew | apply IsS55.set_1 | refine IsS55.far ?_ NB0_240.out _ | refine IsS55.far ?_ NB0_245.out _) | exact HI0.out))
  (case side2 => repeat (first | (with_reducible first | exact HB.out | apply below_alloc | apply pw_below_drewN | apply below_drew1 | refine below_set ?_ (IsS55.ge HI0.out) | refine below_set ?_ GE240.out | refine below_set ?_ GE245.out) | exact HB.out))
  rintro e w18 ⟨rfl, hi, hb, hk⟩
  refine ⟨_, rfl, ?_⟩
  have n0_ := Aside0.mk (KeepBut.blk hk (g' := gb240) (o := .cells #[.int .i64 0, .int .i64 0, .int .i64 0, .int .i64 0] 39 (0, 0)) q120_ NB240_0.out (by simp))
  have n1_ := Aside0.mk (KeepBut.blk hk (g' := gb245) (o := .cells #[.int .i64 t241, .int .i64 t243, .int .i64 0, .int .i64 0] 39 (0, 0)) (by (with_reducible repeat (first | refine blk_drewN ?_ _ | refine blk_drew ?_ | refine blk_alloc ?_ _)); exact BK245.out) NB245_0.out (by simp))
  have n2_ := Aside0.mk (KeepBut.trans q48_ hk (.inl rfl))
  have n3_ := Aside0.mk (hb)
  have n4_ := Aside0.mk (hi)
  clear BK240
  clear BK245
  clear HK
  clear HB
  clear HI0
  have BK240 := n0_
  have BK245 := n1_
  have HK := n2_
  have HB := n3_
  have HI0 := n4_
  clear n0_ n1_ n2_ n3_ n4_
  (try clear hb)
  (try clear hb2)
  (try clear hk)
  (try clear hi)
  refine hK.out _ _ ⟨(blk_cell BK245.out 0).trans rfl, (blk_cell BK245.out 1).trans rfl, (blk_cell BK245.out 2).trans rfl, (blk_cell BK245.out 3).trans rfl⟩ (fun hHeld => ?_)
  clear hK K
  refine norm_ (a' := ?_) ?_ ?_
  rotate_left
  · show Act.put _ (some 33) _ = _
    simp only [Act.put, List.setIfInBounds_toArray, List.set_cons_zero, List.set_cons_succ, i64_w, i32_w]
    rfl
  refine pure_ (i := 19) (N := some 34) (v := ?_) (a' := ?_) #[true, true, true, true, true, true, true, true, true, true, true, true, true, true, true, true, true, true, true, true, true, false, false, false] rfl rfl (any_of HT_.out (by kernel_rfl)) (fun _ _ _ h => h) (Or.inl ⟨by rfl, ?_⟩) ?_ ?_
  rotate_left
  · intro w'
    go_simp
    with_reducible rfl
  rotate_left
  · simp only [Act.put, List.setIfInBounds_toArray, List.set_cons_zero, List.set_cons_succ, i64_w, i32_w]
    rfl
  refine last_ (i := 21) (N := none) #[true, true, true, true, true, true, true, true, true, true, true, true, true, true, true, true, true, true, true, true, true, true, false, false] rfl rfl (one_of HT_.out (by kernel_rfl)) (by decide) (fun K hK => ?_)
  have hs19 : w18.cell? ⟨gb245, 2, none⟩ = some (.int .i64 0) := (blk_cell BK245.out 2).trans rfl
  have hfs19 := blk_frozen BK245.out 2
  have hns19_0 := NB240_245.out
  have hms19_0 := NB245_240.out
  refine skip_ (w1 := ?_) (by rfl) rfl ?_ ?_
  rotate_left
  · go_simp
    rfl
  refine hK.out _ _ ?_
  clear hK K
  refine pure_ (i := 22) (N := some 36) (v := ?_) (a' := ?_) #[true, true, true, true, true, true, true, true, true, true, true, true, true, true, true, true, true, true, true, true, true, true, true, false] rfl rfl (any_of HT_.out (by kernel_rfl)) (fun _ _ _ h => h) (Or.inl ⟨by rfl, ?_⟩) ?_ ?_
  rotate_left
  · intro w'
    go_simp
    with_reducible rfl
  rotate_left
  · simp only [Act.put, List.setIfInBounds_toArray, List.set_cons_zero, List.set_cons_succ, i64_w, i32_w]
    rfl
  refine last_ (i := 23) (N := none) #[true, true, true, true, true, true, true, true, true, true, true, true, true, true, true, true, true, true, true, true, true, true, true, true] rfl rfl (one_of HT_.out (by kernel_rfl)) (by decide) (fun K hK => ?_)
  have hs20 : w18.cell? ⟨gb245, 3, none⟩ = some (.int .i64 0) := (blk_cell BK245.out 3).trans rfl
  have hfs20 := blk_frozen BK245.out 3
  have hns20_0 := NB240_245.out
  have hms20_0 := NB245_240.out
  refine skip_ (w1 := ?_) (by rfl) rfl ?_ ?_
  rotate_left
  · go_simp
    rfl
  refine hK.out _ _ ?_
  clear hK K
  refine done_ (done_of HT_.out (by kernel_rfl)) ?_
  have hcz21_0 : w18.cell? ⟨gb245, 0, none⟩ = some (.int .i64 t241) := (blk_cell BK245.out 0).trans rfl
  have hcz21_1 : w18.cell? ⟨gb245, 1, none⟩ = some (.int .i64 t243) := (blk_cell BK245.out 1).trans rfl
  have hcz21_2 : w18.cell? ⟨gb245, 2, none⟩ = some (.int .i64 0) := (blk_cell BK245.out 2).trans rfl
  have hcz21_3 : w18.cell? ⟨gb245, 3, none⟩ = some (.int .i64 0) := (blk_cell BK245.out 3).trans rfl
  have hfz21_0 := blk_frozen BK245.out 0
  have hfz21_1 := blk_frozen BK245.out 1
  have hfz21_2 := blk_frozen BK245.out 2
  have hfz21_3 := blk_frozen BK245.out 3
  have hnb22 := NB240_0.out
  have hnc22 := NB0_240.out
  have hcz23_0 : w18.cell? ⟨gb240, 0, none⟩ = some (.int .i64 0) := (blk_cell BK240.out 0).trans rfl
  have hcz23_1 : w18.cell? ⟨gb240, 1, none⟩ = some (.int .i64 0) := (blk_cell BK240.out 1).trans rfl
  have hcz23_2 : w18.cell? ⟨gb240, 2, none⟩ = some (.int .i64 0) := (blk_cell BK240.out 2).trans rfl
  have hcz23_3 : w18.cell? ⟨gb240, 3, none⟩ = some (.int .i64 0) := (blk_cell BK240.out 3).trans rfl
  have hfz23_0 := blk_frozen BK240.out 0
  have hfz23_1 := blk_frozen BK240.out 1
  have hfz23_2 := blk_frozen BK240.out 2
  have hfz23_3 := blk_frozen BK240.out 3
  try go_wp2
  refine bodyPost_ret (results_cell_row rfl _ _ gb240 39 #[.int .i64 t241, .int .i64 t243, .int .i64 (wrap64 ((wrap64 (t241 + 1)) + t246)), .int .i64 (wrap64 ((wrap64 (t243 + 1)) + t248))] (0, 0) _ rfl (by (with_reducible repeat (first | refine blk_drewN ?_ _ | refine blk_drew ?_ | refine blk_alloc ?_ _)); refine blk_put (cs := #[.int .i64 t241, .int .i64 t243, .int .i64 (wrap64 ((wrap64 (t241 + 1)) + t246)), .int .i64 0]) ?_ 3 _ rfl; (with_reducible repeat (first | refine blk_drewN ?_ _ | refine blk_drew ?_ | refine blk_alloc ?_ _)); refine blk_put (cs := #[.int .i64 t241, .int .i64 t243, .int .i64 0, .int .i64 0]) ?_ 2 _ rfl; (with_reducible repeat (first | refine blk_drewN ?_ _ | refine blk_drew ?_ | refine blk_alloc ?_ _)); refine blk_put (cs := #[.int .i64 t241, .int .i64 0, .int .i64 0, .int .i64 0]) ?_ 1 _ rfl; (with_reducible repeat (first | refine blk_drewN ?_ _ | refine blk_drew ?_ | refine blk_alloc ?_ _)); refine blk_put (cs := #[.int .i64 0, .int .i64 0, .int .i64 0, .int .i64 0]) ?_ 0 _ rfl; (with_reducible repeat (first | refine blk_drewN ?_ _ | refine blk_drew ?_ | refine blk_alloc ?_ _)); refine blk_far ?_ NB240_245.out _; (with_reducible repeat (first | refine blk_drewN ?_ _ | refine blk_drew ?_ | refine blk_alloc ?_ _)); refine blk_far ?_ NB240_245.out _; (with_reducible repeat (first | refine blk_drewN ?_ _ | refine blk_drew ?_ | refine blk_alloc ?_ _)); exact BK240.out) Try.underlying39 rfl (by kernel_rfl)) rfl ?_
  exact ⟨q152_, by repeat (first | (with_reducible first | exact HI0.out | apply IsS55.alloc | apply IsS55.drewN | apply IsS55.drew | apply IsS55.set_1 | refine IsS55.far ?_ NB0_240.out _ | refine IsS55.far ?_ NB0_245.out _) | exact HI0.out), by repeat (first | (with_reducible first | exact HB.out | apply below_alloc | apply pw_below_drewN | apply below_drew1 | refine below_set ?_ (IsS55.ge HI0.out) | refine below_set ?_ GE240.out | refine below_set ?_ GE245.out) | exact HB.out), q48_⟩

end Go.Proofs.Yticicecobchdiaa.PHistogramCounts
