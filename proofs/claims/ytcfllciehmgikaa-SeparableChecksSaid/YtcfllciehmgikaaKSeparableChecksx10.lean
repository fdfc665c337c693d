-- Written by a program of the session (wip/tools/pack.py): the printed texts, pruned; checked by Lean.
import Derived.Test.YtcfllciehmgikaaKSeparableChecksa
import Derived.Test.YtcfllciehmgikaaKSeparableChecksx0
import Derived.Test.YtcfllciehmgikaaKSeparableChecksx2
import Derived.Test.YtcfllciehmgikaaKSeparableChecksx3
import Derived.Test.YtcfllciehmgikaaKSeparableChecksx5
import Derived.Test.YtcfllciehmgikaaKSeparableChecksx9
namespace Go.Proofs.Ytcfllciehmgikaa.PSeparableChecks
open Go.RowKit Go.Proofs.YtcfllciehmgikaaW.PrintWords Go.Proofs.YtcfllciehmgikaaW.PrintLast Go.Proofs.YtcfllciehmgikaaW.PrintMore
attribute [local go_sem] max2_int min2_int max_two min_two max_three min_three max_four min_four   -- for this text's walks alone
set_option linter.unusedVariables false
set_option linter.unusedSimpArgs false
def tilefarmlaw10_sane.f (k : Nat)  : Option (Bool) := (separable_Tile.f k 1 3 8 (([4, 0, 0] : List Int)) 1 0 (([1] : List Int)) (([1, 2, 1] : List Int)) 0 2 255 0 0 1 3).bind fun bt247 => (if bt247.2.2.2.2 = 0 then (if (bt247.2.2.2.1.length : Int) = 3 then (if 0 < (bt247.2.2.2.1.length : Int) then (if (rd bt247.2.2.2.1 0) = 3 then (if 1 < (bt247.2.2.2.1.length : Int) then (if (rd bt247.2.2.2.1 1) = 1 then (if 2 < (bt247.2.2.2.1.length : Int) then (if (rd bt247.2.2.2.1 2) = 0 then ((separable_Check.f k 8 (([1] : List Int)) (([1] : List Int)) 0 0 9).bind fun t264 => (some (t264 == 0))) else (some false)) else (none)) else (some false)) else (none)) else (some false)) else (none)) else (some false)) else (some false))
theorem tilefarmlaw10_sane.mono : ∀ k, LeO (tilefarmlaw10_sane.f k ) (tilefarmlaw10_sane.f (k + 1) ) := by
  intro  k
  unfold tilefarmlaw10_sane.f
  repeat' first
      | (with_reducible exact separable_Check.mono _ _ _ _ _ _ _)
      | (with_reducible exact separable_Tile.mono _ _ _ _ _ _ _ _ _ _ _ _ _ _ _ _)
      | (with_reducible exact LeO.refl _)
      | (with_reducible exact LeO.none _)
      | (with_reducible refine LeO.ite ?_ ?_)
      | (with_reducible refine LeO.bind ?_ (fun _ => ?_))
      | exact separable_Check.mono _ _ _ _ _ _ _
      | exact separable_Tile.mono _ _ _ _ _ _ _ _ _ _ _ _ _ _ _ _
      | exact LeO.none _
      | refine LeO.ite ?_ ?_
      | refine LeO.bind ?_ (fun _ => ?_)
set_option maxHeartbeats 8000000 in
set_option maxRecDepth 100000 in
theorem tilefarmlaw10_sane.calls (k : Nat)  (r : Bool) (w : World) (h : tilefarmlaw10_sane.f k  = some r) (hT : r = true := by first | rfl | assumption | exact HT.out) :
    Calls Try.prog 14 #[] w fun e w' => e = .returned (.bool r) ∧ Below w.heap.size w w' := by
  have HT := Aside0.mk hT
  clear hT
  have hu35 := Try.underlying35
  have hu38 := Try.underlying38
  have hu33 := Try.underlying33
  have HB := Aside0.mk (Below.refl w.heap.size w)
  have H : ((separable_Tile.f k 1 3 8 (([4, 0, 0] : List Int)) 1 0 (([1] : List Int)) (([1, 2, 1] : List Int)) 0 2 255 0 0 1 3).bind fun bt247 => (if bt247.2.2.2.2 = 0 then (if (bt247.2.2.2.1.length : Int) = 3 then (if 0 < (bt247.2.2.2.1.length : Int) then (if (rd bt247.2.2.2.1 0) = 3 then (if 1 < (bt247.2.2.2.1.length : Int) then (if (rd bt247.2.2.2.1 1) = 1 then (if 2 < (bt247.2.2.2.1.length : Int) then (if (rd bt247.2.2.2.1 2) = 0 then ((separable_Check.f k 8 (([1] : List Int)) (([1] : List Int)) 0 0 9).bind fun t264 => (some (t264 == 0))) else (some false)) else (none)) else (some false)) else (none)) else (some false)) else (none)) else (some false)) else (some false))) = some r := h
  clear h
  obtain ⟨y237, hy237⟩ : ∃ y_ : List Int, y_ = (([4, 0, 0] : List Int)) := ⟨_, rfl⟩
  replace H : ((separable_Tile.f k 1 3 8 y237 1 0 (([1] : List Int)) (([1, 2, 1] : List Int)) 0 2 255 0 0 1 3).bind fun bt247 => (if bt247.2.2.2.2 = 0 then (if (bt247.2.2.2.1.length : Int) = 3 then (if 0 < (bt247.2.2.2.1.length : Int) then (if (rd bt247.2.2.2.1 0) = 3 then (if 1 < (bt247.2.2.2.1.length : Int) then (if (rd bt247.2.2.2.1 1) = 1 then (if 2 < (bt247.2.2.2.1.length : Int) then (if (rd bt247.2.2.2.1 2) = 0 then ((separable_Check.f k 8 (([1] : List Int)) (([1] : List Int)) 0 0 9).bind fun t264 => (some (t264 == 0))) else (some false)) else (none)) else (some false)) else (none)) else (some false)) else (none)) else (some false)) else (some false))) = some r := by first | (rw [hy237]; with_reducible exact H) | (have H2_ := (Option.bind_some _ _).symm.trans H; rw [hy237]; with_reducible exact H2_) | (have H2_ := (Option.bind_some _ _).symm.trans H; with_reducible exact H2_) | with_reducible exact H | (rw [hy237]; exact H) | exact H
  have Ny237 := Aside0.mk hy237
  clear hy237
  obtain ⟨y241, hy241⟩ : ∃ y_ : List Int, y_ = (([1] : List Int)) := ⟨_, rfl⟩
  replace H : ((separable_Tile.f k 1 3 8 y237 1 0 y241 (([1, 2, 1] : List Int)) 0 2 255 0 0 1 3).bind fun bt247 => (if bt247.2.2.2.2 = 0 then (if (bt247.2.2.2.1.length : Int) = 3 then (if 0 < (bt247.2.2.2.1.length : Int) then (if (rd bt247.2.2.2.1 0) = 3 then (if 1 < (bt247.2.2.2.1.length : Int) then (if (rd bt247.2.2.2.1 1) = 1 then (if 2 < (bt247.2.2.2.1.length : Int) then (if (rd bt247.2.2.2.1 2) = 0 then ((separable_Check.f k 8 (([1] : List Int)) (([1] : List Int)) 0 0 9).bind fun t264 => (some (t264 == 0))) else (some false)) else (none)) else (some false)) else (none)) else (some false)) else (none)) else (some false)) else (some false))) = some r := by first | (rw [hy241]; with_reducible exact H) | (have H2_ := (Option.bind_some _ _).symm.trans H; rw [hy241]; with_reducible exact H2_) | (have H2_ := (Option.bind_some _ _).symm.trans H; with_reducible exact H2_) | with_reducible exact H | (rw [hy241]; exact H) | exact H
  have Ny241 := Aside0.mk hy241
  clear hy241
  obtain ⟨y244, hy244⟩ : ∃ y_ : List Int, y_ = (([1, 2, 1] : List Int)) := ⟨_, rfl⟩
  replace H : ((separable_Tile.f k 1 3 8 y237 1 0 y241 y244 0 2 255 0 0 1 3).bind fun bt247 => (if bt247.2.2.2.2 = 0 then (if (bt247.2.2.2.1.length : Int) = 3 then (if 0 < (bt247.2.2.2.1.length : Int) then (if (rd bt247.2.2.2.1 0) = 3 then (if 1 < (bt247.2.2.2.1.length : Int) then (if (rd bt247.2.2.2.1 1) = 1 then (if 2 < (bt247.2.2.2.1.length : Int) then (if (rd bt247.2.2.2.1 2) = 0 then ((separable_Check.f k 8 (([1] : List Int)) (([1] : List Int)) 0 0 9).bind fun t264 => (some (t264 == 0))) else (some false)) else (none)) else (some false)) else (none)) else (some false)) else (none)) else (some false)) else (some false))) = some r := by first | (rw [hy244]; with_reducible exact H) | (have H2_ := (Option.bind_some _ _).symm.trans H; rw [hy244]; with_reducible exact H2_) | (have H2_ := (Option.bind_some _ _).symm.trans H; with_reducible exact H2_) | with_reducible exact H | (rw [hy244]; exact H) | exact H
  have Ny244 := Aside0.mk hy244
  clear hy244
  replace H := Option.bind_eq_some_iff.mp H
  obtain ⟨⟨t247, t248, t249, t250, t253⟩, A10, H⟩ := H
  replace H : (if t253 = 0 then (if (t250.length : Int) = 3 then (if 0 < (t250.length : Int) then (if (rd t250 0) = 3 then (if 1 < (t250.length : Int) then (if (rd t250 1) = 1 then (if 2 < (t250.length : Int) then (if (rd t250 2) = 0 then ((separable_Check.f k 8 (([1] : List Int)) (([1] : List Int)) 0 0 9).bind fun t264 => (some (t264 == 0))) else (some false)) else (none)) else (some false)) else (none)) else (some false)) else (none)) else (some false)) else (some false)) = some r := H
  have A1 := Aside0.mk A10
  clear A10
  by_cases c2 : t253 = 0
  · rw [if_pos c2] at H
    have c2b0 : (t253 == 0) = true := beq_iff_eq.mpr c2
    have c2b1 : (t253 != 0) = false := bne_eq_false_iff_eq.mpr c2
    clear c2
    by_cases c3 : (t250.length : Int) = 3
    · rw [if_pos c3] at H
      have c3b0 : ((t250.length : Int) == 3) = true := beq_iff_eq.mpr c3
      have c3b1 : ((t250.length : Int) != 3) = false := bne_eq_false_iff_eq.mpr c3
      clear c3
      by_cases c4 : 0 < (t250.length : Int)
      · rw [if_pos c4] at H
        have c4b0 : decide (0 < (t250.length : Int)) = true := decide_eq_true c4
        have c4b1 : decide (0 < t250.length) = true := decide_eq_true (by omega)
        clear c4
        by_cases c5 : (rd t250 0) = 3
        · rw [if_pos c5] at H
          have c5b0 : ((rd t250 0) == 3) = true := beq_iff_eq.mpr c5
          have c5b1 : ((rd t250 0) != 3) = false := bne_eq_false_iff_eq.mpr c5
          clear c5
          by_cases c6 : 1 < (t250.length : Int)
          · rw [if_pos c6] at H
            have c6b0 : decide (1 < (t250.length : Int)) = true := decide_eq_true c6
            have c6b1 : decide (1 < t250.length) = true := decide_eq_true (by omega)
            clear c6
            by_cases c7 : (rd t250 1) = 1
            · rw [if_pos c7] at H
              have c7b0 : ((rd t250 1) == 1) = true := beq_iff_eq.mpr c7
              have c7b1 : ((rd t250 1) != 1) = false := bne_eq_false_iff_eq.mpr c7
              clear c7
              by_cases c8 : 2 < (t250.length : Int)
              · rw [if_pos c8] at H
                have c8b0 : decide (2 < (t250.length : Int)) = true := decide_eq_true c8
                have c8b1 : decide (2 < t250.length) = true := decide_eq_true (by omega)
                clear c8
                by_cases c9 : (rd t250 2) = 0
                · rw [if_pos c9] at H
                  have c9b0 : ((rd t250 2) == 0) = true := beq_iff_eq.mpr c9
                  have c9b1 : ((rd t250 2) != 0) = false := bne_eq_false_iff_eq.mpr c9
                  clear c9
                  obtain ⟨y258, hy258⟩ : ∃ y_ : List Int, y_ = (([1] : List Int)) := ⟨_, rfl⟩
                  replace H : ((separable_Check.f k 8 y258 (([1] : List Int)) 0 0 9).bind fun t264 => (some (t264 == 0))) = some r := by first | (rw [hy258]; with_reducible exact H) | (have H2_ := (Option.bind_some _ _).symm.trans H; rw [hy258]; with_reducible exact H2_) | (have H2_ := (Option.bind_some _ _).symm.trans H; with_reducible exact H2_) | with_reducible exact H | (rw [hy258]; exact H) | exact H
                  have Ny258 := Aside0.mk hy258
                  clear hy258
                  obtain ⟨y261, hy261⟩ : ∃ y_ : List Int, y_ = (([1] : List Int)) := ⟨_, rfl⟩
                  replace H : ((separable_Check.f k 8 y258 y261 0 0 9).bind fun t264 => (some (t264 == 0))) = some r := by first | (rw [hy261]; with_reducible exact H) | (have H2_ := (Option.bind_some _ _).symm.trans H; rw [hy261]; with_reducible exact H2_) | (have H2_ := (Option.bind_some _ _).symm.trans H; with_reducible exact H2_) | with_reducible exact H | (rw [hy261]; exact H) | exact H
                  have Ny261 := Aside0.mk hy261
                  clear hy261
                  replace H := Option.bind_eq_some_iff.mp H
                  obtain ⟨t264, A100, H⟩ := H
                  replace H : (some (t264 == 0)) = some r := H
                  have A10 := Aside0.mk A100
                  clear A100
                  obtain rfl := Option.some.inj H
                  go_enter Try.func14, Try.ntmps14
                  go_wp2_with (first | ((with_reducible refine gate_dst (N := 4) rfl ?_); (try (refine gate_guard (by rfl) ?_; dsimp only)); refine Kd.R_lit (Kd.int .i64) _ 3 ?hg (N := 4) ?hd (xs := ([4, 0, 0] : List Int)) (inner := [.int .i64 4, .int .i64 0, .int .i64 0]) (ok := fun _ => True) (okp := fun _ => True) ?hr ?hp (fun _ hk => hk) trivial (Below.refl _ _) (Nat.le_refl _) (by simp) ?_; (case hd => rfl); (case hg => rfl); (case hr => first | (go_simp; done) | (go_simp; rfl)); (case hp => exact (Reps.one (show Kd.M (Kd.int .i64) _ _ _ 4 [.int .i64 4] from rfl) (Reps.one (show Kd.M (Kd.int .i64) _ _ _ 0 [.int .i64 0] from rfl) (Reps.one (show Kd.M (Kd.int .i64) _ _ _ 0 [.int .i64 0] from rfl) (Reps.none _ _))))); intro v238 w11 ho12 hb hg_ hnew_; clear hg_ hnew_; (first | rw [← Ny237.out] at ho12 | (simp only [Int.reduceToNat] at ho12; rw [← Ny237.out] at ho12)); have n0_ := Aside0.mk (Kd.R_lower ho12 (below_size q62_)); have n1_ := Aside0.mk (below_step q62_ hb); clear HB; have HO239 := n0_; have HB := n1_; clear n0_ n1_; clear hb ho12; obtain ⟨Ao13, co13, eo13⟩ := Kd.R_slice HO239.out; subst eo13) | ((with_reducible refine gate_dst (N := 1) rfl ?_); (try (refine gate_guard (by rfl) ?_; dsimp only)); refine box_event ?hg (N := 1) ?hd (cs := #[.int .i64 0, .int .i64 0, .int .i64 0, .slice none 0 0]) (t := 35) ?hr ?_; (case hd => rfl); (case hg => rfl); (case hr => first | (go_simp; done) | (go_simp; rfl)); intro gb240 hg w14 hbox hb; have n0_ := Aside0.mk (Kd.R_below q90_ hb); have n1_ := Aside0.mk (below_step q62_ hb); have n2_ := Aside0.mk (hbox); have n3_ := Aside0.mk ((q40_ : w.heap.size ≤ gb240)); have n4_ := Aside0.mk ((q40_ : w.heap.size ≤ gb240)); clear HO239; clear HB; have HO239 := n0_; have HB := n1_; have BK240 := n2_; have GW240 := n3_; have GE240 := n4_; clear n0_ n1_ n2_ n3_ n4_; clear hb hbox hg; have hcz15_0 : w14.cell? ⟨gb240, 0, none⟩ = some (.int .i64 0) := (blk_cell BK240.out 0).trans rfl; have hcz15_1 : w14.cell? ⟨gb240, 1, none⟩ = some (.int .i64 0) := (blk_cell BK240.out 1).trans rfl; have hcz15_2 : w14.cell? ⟨gb240, 2, none⟩ = some (.int .i64 0) := (blk_cell BK240.out 2).trans rfl; have hcz15_3 : w14.cell? ⟨gb240, 3, none⟩ = some (.slice none 0 0) := (blk_cell BK240.out 3).trans rfl; have hfz15_0 := blk_frozen BK240.out 0; have hfz15_1 := blk_frozen BK240.out 1; have hfz15_2 := blk_frozen BK240.out 2; have hfz15_3 := blk_frozen BK240.out 3) | ((with_reducible refine gate_dst (N := 9) rfl ?_); (try (refine gate_guard (by rfl) ?_; dsimp only)); refine Kd.R_lit (Kd.int .i64) _ 3 ?hg (N := 9) ?hd (xs := ([1] : List Int)) (inner := [.int .i64 1]) (ok := fun _ => True) (okp := fun _ => True) ?hr ?hp (fun _ hk => hk) trivial (Below.refl _ _) (Nat.le_refl _) (by simp) ?_; (case hd => rfl); (case hg => rfl); (case hr => first | (go_simp; done) | (go_simp; rfl)); (case hp => exact (Reps.one (show Kd.M (Kd.int .i64) _ _ _ 1 [.int .i64 1] from rfl) (Reps.none _ _))); intro v242 w16 ho17 hb hg_ hnew_; clear hg_ hnew_; (first | rw [← Ny241.out] at ho17 | (simp only [Int.reduceToNat] at ho17; rw [← Ny241.out] at ho17)); have n0_ := Aside0.mk (Kd.R_elder' (by (with_reducible repeat (first | apply Kd.R_alloc | apply Kd.R_drewN | apply Kd.R_drew)); exact (Kd.R_mono (Kd.R_far (p := ⟨gb240, 3, none⟩) (Kd.R_far (p := ⟨gb240, 2, none⟩) (Kd.R_far (p := ⟨gb240, 1, none⟩) (Kd.R_far (p := ⟨gb240, 0, none⟩) (Kd.R_types HO239.out BK240.out (by decide)) (fun _ hk => hk.2) (.int .i64 1)) (fun _ hk => hk.2) (.int .i64 3)) (fun _ hk => hk.2) (.int .i64 8)) (fun _ hk => hk.2) (.slice Ao13 y237.length co13)) (fun _ h_ => h_.1))) (Kd.R_base ho17) hb); have n1_ := Aside0.mk (Kd.R_lower (Kd.R_new' ho17 (Kd.R_lt (by (with_reducible repeat (first | apply Kd.R_alloc | apply Kd.R_drewN | apply Kd.R_drew)); exact (Kd.R_mono (Kd.R_far (p := ⟨gb240, 3, none⟩) (Kd.R_far (p := ⟨gb240, 2, none⟩) (Kd.R_far (p := ⟨gb240, 1, none⟩) (Kd.R_far (p := ⟨gb240, 0, none⟩) (Kd.R_types HO239.out BK240.out (by decide)) (fun _ hk => hk.2) (.int .i64 1)) (fun _ hk => hk.2) (.int .i64 3)) (fun _ hk => hk.2) (.int .i64 8)) (fun _ hk => hk.2) (.slice Ao13 y237.length co13)) (fun _ h_ => h_.1))))) (below_size q48_)); have n2_ := Aside0.mk (blk_below (g := gb240) (o := .cells #[.int .i64 1, .int .i64 3, .int .i64 8, .slice Ao13 y237.length co13] 35 (0, 0)) (by (with_reducible repeat (first | refine blk_drewN ?_ _ | refine blk_drew ?_ | refine blk_alloc ?_ _)); refine blk_put (cs := #[.int .i64 1, .int .i64 3, .int .i64 8, .slice none 0 0]) ?_ 3 _ rfl; (with_reducible repeat (first | refine blk_drewN ?_ _ | refine blk_drew ?_ | refine blk_alloc ?_ _)); refine blk_put (cs := #[.int .i64 1, .int .i64 3, .int .i64 0, .slice none 0 0]) ?_ 2 _ rfl; (with_reducible repeat (first | refine blk_drewN ?_ _ | refine blk_drew ?_ | refine blk_alloc ?_ _)); refine blk_put (cs := #[.int .i64 1, .int .i64 0, .int .i64 0, .slice none 0 0]) ?_ 1 _ rfl; (with_reducible repeat (first | refine blk_drewN ?_ _ | refine blk_drew ?_ | refine blk_alloc ?_ _)); refine blk_put (cs := #[.int .i64 0, .int .i64 0, .int .i64 0, .slice none 0 0]) ?_ 0 _ rfl; (with_reducible repeat (first | refine blk_drewN ?_ _ | refine blk_drew ?_ | refine blk_alloc ?_ _)); exact BK240.out) hb); have n3_ := Aside0.mk (below_step q48_ hb); clear HO239; clear BK240; clear HB; have HO239 := n0_; have HO243 := n1_; have BK240 := n2_; have HB := n3_; clear n0_ n1_ n2_ n3_; clear hb ho17) | ((with_reducible refine gate_dst (N := 10) rfl ?_); (try (refine gate_guard (by rfl) ?_; dsimp only)); refine Kd.R_lit (Kd.int .i64) _ 3 ?hg (N := 10) ?hd (xs := ([1, 2, 1] : List Int)) (inner := [.int .i64 1, .int .i64 2, .int .i64 1]) (ok := fun _ => True) (okp := fun _ => True) ?hr ?hp (fun _ hk => hk) trivial (Below.refl _ _) (Nat.le_refl _) (by simp) ?_; (case hd => rfl); (case hg => rfl); (case hr => first | (go_simp; done) | (go_simp; rfl)); (case hp => exact (Reps.one (show Kd.M (Kd.int .i64) _ _ _ 1 [.int .i64 1] from rfl) (Reps.one (show Kd.M (Kd.int .i64) _ _ _ 2 [.int .i64 2] from rfl) (Reps.one (show Kd.M (Kd.int .i64) _ _ _ 1 [.int .i64 1] from rfl) (Reps.none _ _))))); intro v245 w18 ho19 hb hg_ hnew_; clear hg_ hnew_; (first | rw [← Ny244.out] at ho19 | (simp only [Int.reduceToNat] at ho19; rw [← Ny244.out] at ho19)); have n0_ := Aside0.mk (Kd.R_elder' q90_ (Kd.R_base ho19) hb); have n1_ := Aside0.mk (Kd.R_elder' q91_ (Kd.R_base ho19) hb); have n2_ := Aside0.mk (Kd.R_lower (Kd.R_new' (Kd.R_new' ho19 (Kd.R_lt q90_)) (Kd.R_lt q91_)) (below_size q48_)); have n3_ := Aside0.mk (blk_below (g := gb240) (o := .cells #[.int .i64 1, .int .i64 3, .int .i64 8, .slice Ao13 y237.length co13] 35 (0, 0)) q81_ hb); have n4_ := Aside0.mk (below_step q48_ hb); clear HO239; clear HO243; clear BK240; clear HB; have HO239 := n0_; have HO243 := n1_; have HO246 := n2_; have BK240 := n3_; have HB := n4_; clear n0_ n1_ n2_ n3_ n4_; clear hb ho19; obtain ⟨Ao20, co20, eo20⟩ := Kd.R_slice HO243.out; subst eo20; obtain ⟨Ao21, co21, eo21⟩ := Kd.R_slice HO246.out; subst eo21) | ((with_reducible refine gate_callee (f := 20) rfl ?_); refine goesL_ (some 12) rfl rfl Try.func20 (by kernel_rfl) rfl #[.agg #[.int .i64 1, .int .i64 3, .int .i64 8, .slice Ao13 y237.length co13], .agg #[.int .i64 1, .int .i64 0], .slice Ao20 y241.length co20, .slice Ao21 y244.length co21, .int .i64 0, .int .i64 2, .int .i64 255, .agg #[.int .i64 0, .int .i64 0, .int .i64 1, .int .i64 3]] rfl q60_ ?_; (with_reducible refine (separable_Tile.calls k 1 3 8 _ _ y237 1 0 _ _ y241 _ _ y244 0 2 255 0 0 1 3 t247 t248 t249 t250 t253 _ ?side1 ?side2 ?side3 ?side4 ?side5 ?side6 A1.out).mono ?_); (case side1 => repeat (first | exact (Kd.R_reads' HO239.out).2.2 | (with_reducible refine Kd.C_alloc ?_ _) | (with_reducible refine Kd.C_drewN ?_ _) | (with_reducible refine Kd.C_drew ?_))); (case side2 => exact (Kd.R_reads' HO239.out).2.1); (case side3 => repeat (first | exact (Kd.R_reads' HO243.out).2.2 | (with_reducible refine Kd.C_alloc ?_ _) | (with_reducible refine Kd.C_drewN ?_ _) | (with_reducible refine Kd.C_drew ?_))); (case side4 => exact (Kd.R_reads' HO243.out).2.1); (case side5 => repeat (first | exact (Kd.R_reads' HO246.out).2.2 | (with_reducible refine Kd.C_alloc ?_ _) | (with_reducible refine Kd.C_drewN ?_ _) | (with_reducible refine Kd.C_drew ?_))); (case side6 => exact (Kd.R_reads' HO246.out).2.1); rintro e w22 ⟨v251, rfl, ho0, hb⟩; refine ⟨_, rfl, ?_⟩; have n0_ := Aside0.mk (Kd.R_elder' q90_ (Kd.R_base ho0) hb); have n1_ := Aside0.mk (Kd.R_elder' q91_ (Kd.R_base ho0) hb); have n2_ := Aside0.mk (Kd.R_elder' q92_ (Kd.R_base ho0) hb); have n3_ := Aside0.mk (Kd.R_lower (Kd.R_new' (Kd.R_new' (Kd.R_new' ho0 (Kd.R_lt q90_)) (Kd.R_lt q91_)) (Kd.R_lt q92_)) (below_size q48_)); have n4_ := Aside0.mk (blk_below (g := gb240) (o := .cells #[.int .i64 1, .int .i64 3, .int .i64 8, .slice Ao13 y237.length co13] 35 (0, 0)) q81_ hb); have n5_ := Aside0.mk (below_step q48_ hb); clear HO239; clear HO243; clear HO246; clear BK240; clear HB; have HO239 := n0_; have HO243 := n1_; have HO246 := n2_; have HO252 := n3_; have BK240 := n4_; have HB := n5_; clear n0_ n1_ n2_ n3_ n4_ n5_; (try clear hb); (try clear hb2); (try clear hk); (try clear hi); (try clear ho0)) | ((with_reducible refine gate_dst (N := 2) rfl ?_); (try (refine gate_guard (by rfl) ?_; dsimp only)); refine box_event ?hg (N := 2) ?hd (cs := #[.int .i64 0, .int .i64 0, .int .i64 0, .slice none 0 0]) (t := 35) ?hr ?_; (case hd => rfl); (case hg => rfl); (case hr => first | (go_simp; done) | (go_simp; rfl)); intro gb254 hg w23 hbox hb; have n0_ := Aside0.mk (Kd.R_below q90_ hb); have n1_ := Aside0.mk (Kd.R_below q91_ hb); have n2_ := Aside0.mk (Kd.R_below q92_ hb); have n3_ := Aside0.mk (Kd.R_below q93_ hb); have n4_ := Aside0.mk (blk_below (g := gb240) (o := .cells #[.int .i64 1, .int .i64 3, .int .i64 8, .slice Ao13 y237.length co13] 35 (0, 0)) q81_ hb); have n5_ := Aside0.mk (below_step q48_ hb); have n6_ := Aside0.mk (hbox); have n7_ := Aside0.mk ((by rw [hg]; exact (below_size q48_) : w.heap.size ≤ gb254)); have n8_ := Aside0.mk ((by rw [hg]; exact (below_size q48_) : w.heap.size ≤ gb254)); have n9_ := Aside0.mk ((by rw [hg]; exact Nat.ne_of_lt (blk_lt (g := gb240) (o := .cells #[.int .i64 1, .int .i64 3, .int .i64 8, .slice Ao13 y237.length co13] 35 (0, 0)) q81_) : gb240 ≠ gb254)); have n10_ := Aside0.mk ((by rw [hg]; exact Nat.ne_of_gt (blk_lt (g := gb240) (o := .cells #[.int .i64 1, .int .i64 3, .int .i64 8, .slice Ao13 y237.length co13] 35 (0, 0)) q81_) : gb254 ≠ gb240)); clear HO239; clear HO243; clear HO246; clear HO252; clear BK240; clear HB; have HO239 := n0_; have HO243 := n1_; have HO246 := n2_; have HO252 := n3_; have BK240 := n4_; have HB := n5_; have BK254 := n6_; have GW254 := n7_; have GE254 := n8_; have NB240_254 := n9_; have NB254_240 := n10_; clear n0_ n1_ n2_ n3_ n4_ n5_ n6_ n7_ n8_ n9_ n10_; clear hb hbox hg; have hnb24 := NB254_240.out; have hnc24 := NB240_254.out; have hcz25_0 : w23.cell? ⟨gb254, 0, none⟩ = some (.int .i64 0) := (blk_cell BK254.out 0).trans rfl; have hcz25_1 : w23.cell? ⟨gb254, 1, none⟩ = some (.int .i64 0) := (blk_cell BK254.out 1).trans rfl; have hcz25_2 : w23.cell? ⟨gb254, 2, none⟩ = some (.int .i64 0) := (blk_cell BK254.out 2).trans rfl; have hcz25_3 : w23.cell? ⟨gb254, 3, none⟩ = some (.slice none 0 0) := (blk_cell BK254.out 3).trans rfl; have hfz25_0 := blk_frozen BK254.out 0; have hfz25_1 := blk_frozen BK254.out 1; have hfz25_2 := blk_frozen BK254.out 2; have hfz25_3 := blk_frozen BK254.out 3; obtain ⟨Ao26, co26, eo26⟩ := Kd.R_slice HO252.out; subst eo26; have p255 : 0 ≤ (0 : Int) := (by omega); have q255 : 0 < (t250.length : Int) := of_decide_eq_true q108_; obtain ⟨ad255, e255, hx255_0⟩ := Kd.at_int (Kd.R_reads' HO252.out).2.2 0 p255 q255; cases e255; have qi255 : (0 < t250.length) = True := eq_true (by omega); (try rw [show ((0 : Int)).toNat = 0 from rfl] at hx255_0); (try rw [Addr.add_zero'] at hx255_0); have hn255_0 : ad255.block ≠ gb254 := Kd.own_blk (Kd.R_ne HO252.out BK254.out (by decide)); have hn255_1 : ad255.block ≠ gb254 := Kd.own_blk (Kd.R_ne HO252.out BK254.out (by decide)); have hn255_2 : ad255.block ≠ gb254 := Kd.own_blk (Kd.R_ne HO252.out BK254.out (by decide)); have hn255_3 : ad255.block ≠ gb254 := Kd.own_blk (Kd.R_ne HO252.out BK254.out (by decide)); replace hx255_0 := (cell_far (p := ⟨gb254, 0, none⟩) (by first | (rw [add_block]; exact hn255_0) | (show (Addr.add _ _).block ≠ _; rw [add_block]; exact hn255_0) | exact hn255_0) (.int .i64 t247)).trans hx255_0; replace hx255_0 := (cell_far (p := ⟨gb254, 1, none⟩) (by first | (rw [add_block]; exact hn255_1) | (show (Addr.add _ _).block ≠ _; rw [add_block]; exact hn255_1) | exact hn255_1) (.int .i64 t248)).trans hx255_0; replace hx255_0 := (cell_far (p := ⟨gb254, 2, none⟩) (by first | (rw [add_block]; exact hn255_2) | (show (Addr.add _ _).block ≠ _; rw [add_block]; exact hn255_2) | exact hn255_2) (.int .i64 t249)).trans hx255_0; replace hx255_0 := (cell_far (p := ⟨gb254, 3, none⟩) (by first | (rw [add_block]; exact hn255_3) | (show (Addr.add _ _).block ≠ _; rw [add_block]; exact hn255_3) | exact hn255_3) (.slice (some ad255) t250.length co26)).trans hx255_0; clear hn255_0; clear hn255_1; clear hn255_2; clear hn255_3; replace p255 := eq_true p255; replace q255 := eq_true q255; have p256 : 0 ≤ (1 : Int) := (by omega); have q256 : 1 < (t250.length : Int) := of_decide_eq_true q108_; obtain ⟨ad256, e256, hx256_0⟩ := Kd.at_int (Kd.R_reads' HO252.out).2.2 1 p256 q256; obtain rfl : ad255 = ad256 := (by injection e256); (try simp only [show (1 : Int).toNat = 1 from rfl, Nat.reduceMul, Nat.reduceEqDiff, Go.Addr.add, ↓reduceIte] at hx256_0); have qi256 : (1 < t250.length) = True := eq_true (by omega); (try rw [show ((1 : Int)).toNat = 1 from rfl] at hx256_0); have hn256_0 : ad255.block ≠ gb254 := Kd.own_blk (Kd.R_ne HO252.out BK254.out (by decide)); have hn256_1 : ad255.block ≠ gb254 := Kd.own_blk (Kd.R_ne HO252.out BK254.out (by decide)); have hn256_2 : ad255.block ≠ gb254 := Kd.own_blk (Kd.R_ne HO252.out BK254.out (by decide)); have hn256_3 : ad255.block ≠ gb254 := Kd.own_blk (Kd.R_ne HO252.out BK254.out (by decide)); replace hx256_0 := (cell_far (p := ⟨gb254, 0, none⟩) (by first | (rw [add_block]; exact hn256_0) | (show (Addr.add _ _).block ≠ _; rw [add_block]; exact hn256_0) | exact hn256_0) (.int .i64 t247)).trans hx256_0; replace hx256_0 := (cell_far (p := ⟨gb254, 1, none⟩) (by first | (rw [add_block]; exact hn256_1) | (show (Addr.add _ _).block ≠ _; rw [add_block]; exact hn256_1) | exact hn256_1) (.int .i64 t248)).trans hx256_0; replace hx256_0 := (cell_far (p := ⟨gb254, 2, none⟩) (by first | (rw [add_block]; exact hn256_2) | (show (Addr.add _ _).block ≠ _; rw [add_block]; exact hn256_2) | exact hn256_2) (.int .i64 t249)).trans hx256_0; replace hx256_0 := (cell_far (p := ⟨gb254, 3, none⟩) (by first | (rw [add_block]; exact hn256_3) | (show (Addr.add _ _).block ≠ _; rw [add_block]; exact hn256_3) | exact hn256_3) (.slice (some ad255) t250.length co26)).trans hx256_0; clear hn256_0; clear hn256_1; clear hn256_2; clear hn256_3; replace p256 := eq_true p256; replace q256 := eq_true q256; have p257 : 0 ≤ (2 : Int) := (by omega); have q257 : 2 < (t250.length : Int) := of_decide_eq_true q108_; obtain ⟨ad257, e257, hx257_0⟩ := Kd.at_int (Kd.R_reads' HO252.out).2.2 2 p257 q257; obtain rfl : ad255 = ad257 := (by injection e257); (try simp only [show (2 : Int).toNat = 2 from rfl, Nat.reduceMul, Nat.reduceEqDiff, Go.Addr.add, ↓reduceIte] at hx257_0); have qi257 : (2 < t250.length) = True := eq_true (by omega); (try rw [show ((2 : Int)).toNat = 2 from rfl] at hx257_0); have hn257_0 : ad255.block ≠ gb254 := Kd.own_blk (Kd.R_ne HO252.out BK254.out (by decide)); have hn257_1 : ad255.block ≠ gb254 := Kd.own_blk (Kd.R_ne HO252.out BK254.out (by decide)); have hn257_2 : ad255.block ≠ gb254 := Kd.own_blk (Kd.R_ne HO252.out BK254.out (by decide)); have hn257_3 : ad255.block ≠ gb254 := Kd.own_blk (Kd.R_ne HO252.out BK254.out (by decide)); replace hx257_0 := (cell_far (p := ⟨gb254, 0, none⟩) (by first | (rw [add_block]; exact hn257_0) | (show (Addr.add _ _).block ≠ _; rw [add_block]; exact hn257_0) | exact hn257_0) (.int .i64 t247)).trans hx257_0; replace hx257_0 := (cell_far (p := ⟨gb254, 1, none⟩) (by first | (rw [add_block]; exact hn257_1) | (show (Addr.add _ _).block ≠ _; rw [add_block]; exact hn257_1) | exact hn257_1) (.int .i64 t248)).trans hx257_0; replace hx257_0 := (cell_far (p := ⟨gb254, 2, none⟩) (by first | (rw [add_block]; exact hn257_2) | (show (Addr.add _ _).block ≠ _; rw [add_block]; exact hn257_2) | exact hn257_2) (.int .i64 t249)).trans hx257_0; replace hx257_0 := (cell_far (p := ⟨gb254, 3, none⟩) (by first | (rw [add_block]; exact hn257_3) | (show (Addr.add _ _).block ≠ _; rw [add_block]; exact hn257_3) | exact hn257_3) (.slice (some ad255) t250.length co26)).trans hx257_0; clear hn257_0; clear hn257_1; clear hn257_2; clear hn257_3; replace p257 := eq_true p257; replace q257 := eq_true q257) | ((with_reducible refine gate_dst (N := 45) rfl ?_); (try (refine gate_guard (by rfl) ?_; dsimp only)); refine Kd.R_lit (Kd.int .i64) _ 3 ?hg (N := 45) ?hd (xs := ([1] : List Int)) (inner := [.int .i64 1]) (ok := fun _ => True) (okp := fun _ => True) ?hr ?hp (fun _ hk => hk) trivial (Below.refl _ _) (Nat.le_refl _) (by simp) ?_; (case hd => rfl); (case hg => rfl); (case hr => first | (go_simp; done) | (go_simp; rfl)); (case hp => exact (Reps.one (show Kd.M (Kd.int .i64) _ _ _ 1 [.int .i64 1] from rfl) (Reps.none _ _))); intro v259 w27 ho28 hb hg_ hnew_; clear hg_ hnew_; (first | rw [← Ny258.out] at ho28 | (simp only [Int.reduceToNat] at ho28; rw [← Ny258.out] at ho28)); have n0_ := Aside0.mk (Kd.R_elder' (by (with_reducible repeat (first | apply Kd.R_alloc | apply Kd.R_drewN | apply Kd.R_drew)); exact (Kd.R_mono (Kd.R_far (p := ⟨gb254, 3, none⟩) (Kd.R_far (p := ⟨gb254, 2, none⟩) (Kd.R_far (p := ⟨gb254, 1, none⟩) (Kd.R_far (p := ⟨gb254, 0, none⟩) (Kd.R_types HO239.out BK254.out (by decide)) (fun _ hk => hk.2) (.int .i64 t247)) (fun _ hk => hk.2) (.int .i64 t248)) (fun _ hk => hk.2) (.int .i64 t249)) (fun _ hk => hk.2) (.slice (some ad255) t250.length co26)) (fun _ h_ => h_.1))) (Kd.R_base ho28) hb); have n1_ := Aside0.mk (Kd.R_elder' (by (with_reducible repeat (first | apply Kd.R_alloc | apply Kd.R_drewN | apply Kd.R_drew)); exact (Kd.R_mono (Kd.R_far (p := ⟨gb254, 3, none⟩) (Kd.R_far (p := ⟨gb254, 2, none⟩) (Kd.R_far (p := ⟨gb254, 1, none⟩) (Kd.R_far (p := ⟨gb254, 0, none⟩) (Kd.R_types HO243.out BK254.out (by decide)) (fun _ hk => hk.2) (.int .i64 t247)) (fun _ hk => hk.2) (.int .i64 t248)) (fun _ hk => hk.2) (.int .i64 t249)) (fun _ hk => hk.2) (.slice (some ad255) t250.length co26)) (fun _ h_ => h_.1))) (Kd.R_base ho28) hb); have n2_ := Aside0.mk (Kd.R_elder' (by (with_reducible repeat (first | apply Kd.R_alloc | apply Kd.R_drewN | apply Kd.R_drew)); exact (Kd.R_mono (Kd.R_far (p := ⟨gb254, 3, none⟩) (Kd.R_far (p := ⟨gb254, 2, none⟩) (Kd.R_far (p := ⟨gb254, 1, none⟩) (Kd.R_far (p := ⟨gb254, 0, none⟩) (Kd.R_types HO246.out BK254.out (by decide)) (fun _ hk => hk.2) (.int .i64 t247)) (fun _ hk => hk.2) (.int .i64 t248)) (fun _ hk => hk.2) (.int .i64 t249)) (fun _ hk => hk.2) (.slice (some ad255) t250.length co26)) (fun _ h_ => h_.1))) (Kd.R_base ho28) hb); have n3_ := Aside0.mk (Kd.R_elder' (by (with_reducible repeat (first | apply Kd.R_alloc | apply Kd.R_drewN | apply Kd.R_drew)); exact (Kd.R_mono (Kd.R_far (p := ⟨gb254, 3, none⟩) (Kd.R_far (p := ⟨gb254, 2, none⟩) (Kd.R_far (p := ⟨gb254, 1, none⟩) (Kd.R_far (p := ⟨gb254, 0, none⟩) (Kd.R_types HO252.out BK254.out (by decide)) (fun _ hk => hk.2) (.int .i64 t247)) (fun _ hk => hk.2) (.int .i64 t248)) (fun _ hk => hk.2) (.int .i64 t249)) (fun _ hk => hk.2) (.slice (some ad255) t250.length co26)) (fun _ h_ => h_.1))) (Kd.R_base ho28) hb); have n4_ := Aside0.mk (Kd.R_lower (Kd.R_new' (Kd.R_new' (Kd.R_new' (Kd.R_new' ho28 (Kd.R_lt (by (with_reducible repeat (first | apply Kd.R_alloc | apply Kd.R_drewN | apply Kd.R_drew)); exact (Kd.R_mono (Kd.R_far (p := ⟨gb254, 3, none⟩) (Kd.R_far (p := ⟨gb254, 2, none⟩) (Kd.R_far (p := ⟨gb254, 1, none⟩) (Kd.R_far (p := ⟨gb254, 0, none⟩) (Kd.R_types HO239.out BK254.out (by decide)) (fun _ hk => hk.2) (.int .i64 t247)) (fun _ hk => hk.2) (.int .i64 t248)) (fun _ hk => hk.2) (.int .i64 t249)) (fun _ hk => hk.2) (.slice (some ad255) t250.length co26)) (fun _ h_ => h_.1))))) (Kd.R_lt (by (with_reducible repeat (first | apply Kd.R_alloc | apply Kd.R_drewN | apply Kd.R_drew)); exact (Kd.R_mono (Kd.R_far (p := ⟨gb254, 3, none⟩) (Kd.R_far (p := ⟨gb254, 2, none⟩) (Kd.R_far (p := ⟨gb254, 1, none⟩) (Kd.R_far (p := ⟨gb254, 0, none⟩) (Kd.R_types HO243.out BK254.out (by decide)) (fun _ hk => hk.2) (.int .i64 t247)) (fun _ hk => hk.2) (.int .i64 t248)) (fun _ hk => hk.2) (.int .i64 t249)) (fun _ hk => hk.2) (.slice (some ad255) t250.length co26)) (fun _ h_ => h_.1))))) (Kd.R_lt (by (with_reducible repeat (first | apply Kd.R_alloc | apply Kd.R_drewN | apply Kd.R_drew)); exact (Kd.R_mono (Kd.R_far (p := ⟨gb254, 3, none⟩) (Kd.R_far (p := ⟨gb254, 2, none⟩) (Kd.R_far (p := ⟨gb254, 1, none⟩) (Kd.R_far (p := ⟨gb254, 0, none⟩) (Kd.R_types HO246.out BK254.out (by decide)) (fun _ hk => hk.2) (.int .i64 t247)) (fun _ hk => hk.2) (.int .i64 t248)) (fun _ hk => hk.2) (.int .i64 t249)) (fun _ hk => hk.2) (.slice (some ad255) t250.length co26)) (fun _ h_ => h_.1))))) (Kd.R_lt (by (with_reducible repeat (first | apply Kd.R_alloc | apply Kd.R_drewN | apply Kd.R_drew)); exact (Kd.R_mono (Kd.R_far (p := ⟨gb254, 3, none⟩) (Kd.R_far (p := ⟨gb254, 2, none⟩) (Kd.R_far (p := ⟨gb254, 1, none⟩) (Kd.R_far (p := ⟨gb254, 0, none⟩) (Kd.R_types HO252.out BK254.out (by decide)) (fun _ hk => hk.2) (.int .i64 t247)) (fun _ hk => hk.2) (.int .i64 t248)) (fun _ hk => hk.2) (.int .i64 t249)) (fun _ hk => hk.2) (.slice (some ad255) t250.length co26)) (fun _ h_ => h_.1))))) (below_size q35_)); have n5_ := Aside0.mk (blk_below (g := gb240) (o := .cells #[.int .i64 1, .int .i64 3, .int .i64 8, .slice Ao13 y237.length co13] 35 (0, 0)) (by (with_reducible repeat (first | refine blk_drewN ?_ _ | refine blk_drew ?_ | refine blk_alloc ?_ _)); refine blk_far ?_ NB240_254.out _; (with_reducible repeat (first | refine blk_drewN ?_ _ | refine blk_drew ?_ | refine blk_alloc ?_ _)); refine blk_far ?_ NB240_254.out _; (with_reducible repeat (first | refine blk_drewN ?_ _ | refine blk_drew ?_ | refine blk_alloc ?_ _)); refine blk_far ?_ NB240_254.out _; (with_reducible repeat (first | refine blk_drewN ?_ _ | refine blk_drew ?_ | refine blk_alloc ?_ _)); refine blk_far ?_ NB240_254.out _; (with_reducible repeat (first | refine blk_drewN ?_ _ | refine blk_drew ?_ | refine blk_alloc ?_ _)); exact BK240.out) hb); have n6_ := Aside0.mk (blk_below (g := gb254) (o := .cells #[.int .i64 t247, .int .i64 t248, .int .i64 t249, .slice (some ad255) t250.length co26] 35 (0, 0)) (by (with_reducible repeat (first | refine blk_drewN ?_ _ | refine blk_drew ?_ | refine blk_alloc ?_ _)); refine blk_put (cs := #[.int .i64 t247, .int .i64 t248, .int .i64 t249, .slice none 0 0]) ?_ 3 _ rfl; (with_reducible repeat (first | refine blk_drewN ?_ _ | refine blk_drew ?_ | refine blk_alloc ?_ _)); refine blk_put (cs := #[.int .i64 t247, .int .i64 t248, .int .i64 0, .slice none 0 0]) ?_ 2 _ rfl; (with_reducible repeat (first | refine blk_drewN ?_ _ | refine blk_drew ?_ | refine blk_alloc ?_ _)); refine blk_put (cs := #[.int .i64 t247, .int .i64 0, .int .i64 0, .slice none 0 0]) ?_ 1 _ rfl; (with_reducible repeat (first | refine blk_drewN ?_ _ | refine blk_drew ?_ | refine blk_alloc ?_ _)); refine blk_put (cs := #[.int .i64 0, .int .i64 0, .int .i64 0, .slice none 0 0]) ?_ 0 _ rfl; (with_reducible repeat (first | refine blk_drewN ?_ _ | refine blk_drew ?_ | refine blk_alloc ?_ _)); exact BK254.out) hb); have n7_ := Aside0.mk (below_step q35_ hb); clear HO239; clear HO243; clear HO246; clear HO252; clear BK240; clear BK254; clear HB; have HO239 := n0_; have HO243 := n1_; have HO246 := n2_; have HO252 := n3_; have HO260 := n4_; have BK240 := n5_; have BK254 := n6_; have HB := n7_; clear n0_ n1_ n2_ n3_ n4_ n5_ n6_ n7_; clear hb ho28) | ((with_reducible refine gate_dst (N := 46) rfl ?_); (try (refine gate_guard (by rfl) ?_; dsimp only)); refine Kd.R_lit (Kd.int .i64) _ 3 ?hg (N := 46) ?hd (xs := ([1] : List Int)) (inner := [.int .i64 1]) (ok := fun _ => True) (okp := fun _ => True) ?hr ?hp (fun _ hk => hk) trivial (Below.refl _ _) (Nat.le_refl _) (by simp) ?_; (case hd => rfl); (case hg => rfl); (case hr => first | (go_simp; done) | (go_simp; rfl)); (case hp => exact (Reps.one (show Kd.M (Kd.int .i64) _ _ _ 1 [.int .i64 1] from rfl) (Reps.none _ _))); intro v262 w29 ho30 hb hg_ hnew_; clear hg_ hnew_; (first | rw [← Ny261.out] at ho30 | (simp only [Int.reduceToNat] at ho30; rw [← Ny261.out] at ho30)); have n0_ := Aside0.mk (Kd.R_elder' q90_ (Kd.R_base ho30) hb); have n1_ := Aside0.mk (Kd.R_elder' q91_ (Kd.R_base ho30) hb); have n2_ := Aside0.mk (Kd.R_elder' q92_ (Kd.R_base ho30) hb); have n3_ := Aside0.mk (Kd.R_elder' q93_ (Kd.R_base ho30) hb); have n4_ := Aside0.mk (Kd.R_elder' q94_ (Kd.R_base ho30) hb); have n5_ := Aside0.mk (Kd.R_lower (Kd.R_new' (Kd.R_new' (Kd.R_new' (Kd.R_new' (Kd.R_new' ho30 (Kd.R_lt q90_)) (Kd.R_lt q91_)) (Kd.R_lt q92_)) (Kd.R_lt q93_)) (Kd.R_lt q94_)) (below_size q35_)); have n6_ := Aside0.mk (blk_below (g := gb240) (o := .cells #[.int .i64 1, .int .i64 3, .int .i64 8, .slice Ao13 y237.length co13] 35 (0, 0)) q81_ hb); have n7_ := Aside0.mk (blk_below (g := gb254) (o := .cells #[.int .i64 t247, .int .i64 t248, .int .i64 t249, .slice (some ad255) t250.length co26] 35 (0, 0)) (by (with_reducible repeat (first | refine blk_drewN ?_ _ | refine blk_drew ?_ | refine blk_alloc ?_ _)); exact BK254.out) hb); have n8_ := Aside0.mk (below_step q35_ hb); clear HO239; clear HO243; clear HO246; clear HO252; clear HO260; clear BK240; clear BK254; clear HB; have HO239 := n0_; have HO243 := n1_; have HO246 := n2_; have HO252 := n3_; have HO260 := n4_; have HO263 := n5_; have BK240 := n6_; have BK254 := n7_; have HB := n8_; clear n0_ n1_ n2_ n3_ n4_ n5_ n6_ n7_ n8_; clear hb ho30; obtain ⟨Ao31, co31, eo31⟩ := Kd.R_slice HO260.out; subst eo31; obtain ⟨Ao32, co32, eo32⟩ := Kd.R_slice HO263.out; subst eo32) | (go_at_call 12; (with_reducible refine (separable_Check.calls k 8 _ _ y258 _ _ y261 0 0 9 t264 _ ?side1 ?side2 ?side3 ?side4 A10.out).mono ?_); (case side1 => repeat (first | exact (Kd.R_reads' HO260.out).2.2 | (with_reducible refine Kd.C_alloc ?_ _) | (with_reducible refine Kd.C_drewN ?_ _) | (with_reducible refine Kd.C_drew ?_))); (case side2 => exact (Kd.R_reads' HO260.out).2.1); (case side3 => repeat (first | exact (Kd.R_reads' HO263.out).2.2 | (with_reducible refine Kd.C_alloc ?_ _) | (with_reducible refine Kd.C_drewN ?_ _) | (with_reducible refine Kd.C_drew ?_))); (case side4 => exact (Kd.R_reads' HO263.out).2.1); rintro e w33 ⟨rfl, hb⟩; have n0_ := Aside0.mk (Kd.R_below q90_ hb); have n1_ := Aside0.mk (Kd.R_below q91_ hb); have n2_ := Aside0.mk (Kd.R_below q92_ hb); have n3_ := Aside0.mk (Kd.R_below q93_ hb); have n4_ := Aside0.mk (Kd.R_below q94_ hb); have n5_ := Aside0.mk (Kd.R_below (by (with_reducible repeat (first | apply Kd.R_alloc | apply Kd.R_drewN | apply Kd.R_drew)); exact HO263.out) hb); have n6_ := Aside0.mk (blk_below (g := gb240) (o := .cells #[.int .i64 1, .int .i64 3, .int .i64 8, .slice Ao13 y237.length co13] 35 (0, 0)) q81_ hb); have n7_ := Aside0.mk (blk_below (g := gb254) (o := .cells #[.int .i64 t247, .int .i64 t248, .int .i64 t249, .slice (some ad255) t250.length co26] 35 (0, 0)) (by (with_reducible repeat (first | refine blk_drewN ?_ _ | refine blk_drew ?_ | refine blk_alloc ?_ _)); exact BK254.out) hb); have n8_ := Aside0.mk (below_step q35_ hb); clear HO239; clear HO243; clear HO246; clear HO252; clear HO260; clear HO263; clear BK240; clear BK254; clear HB; have HO239 := n0_; have HO243 := n1_; have HO246 := n2_; have HO252 := n3_; have HO260 := n4_; have HO263 := n5_; have BK240 := n6_; have BK254 := n7_; have HB := n8_; clear n0_ n1_ n2_ n3_ n4_ n5_ n6_ n7_ n8_; (try clear hb); (try clear hb2); (try clear hk); (try clear hi)))
                  go_ret
                  exact ⟨q103_, q35_⟩
                · rw [if_neg c9] at H
                  have c9b0 : ((rd t250 2) == 0) = false := beq_eq_false_iff_ne.mpr c9
                  have c9b1 : ((rd t250 2) != 0) = true := bne_iff_ne.mpr c9
                  exact absurd ((Option.some.inj H).trans HT.out) (by decide)
              · rw [if_neg c8] at H
                exact absurd H (by simp)
            · rw [if_neg c7] at H
              have c7b0 : ((rd t250 1) == 1) = false := beq_eq_false_iff_ne.mpr c7
              have c7b1 : ((rd t250 1) != 1) = true := bne_iff_ne.mpr c7
              exact absurd ((Option.some.inj H).trans HT.out) (by decide)
          · rw [if_neg c6] at H
            exact absurd H (by simp)
        · rw [if_neg c5] at H
          have c5b0 : ((rd t250 0) == 3) = false := beq_eq_false_iff_ne.mpr c5
          have c5b1 : ((rd t250 0) != 3) = true := bne_iff_ne.mpr c5
          exact absurd ((Option.some.inj H).trans HT.out) (by decide)
      · rw [if_neg c4] at H
        exact absurd H (by simp)
    · rw [if_neg c3] at H
      have c3b0 : ((t250.length : Int) == 3) = false := beq_eq_false_iff_ne.mpr c3
      have c3b1 : ((t250.length : Int) != 3) = true := bne_iff_ne.mpr c3
      exact absurd ((Option.some.inj H).trans HT.out) (by decide)
  · rw [if_neg c2] at H
    have c2b0 : (t253 == 0) = false := beq_eq_false_iff_ne.mpr c2
    have c2b1 : (t253 != 0) = true := bne_iff_ne.mpr c2
    exact absurd ((Option.some.inj H).trans HT.out) (by decide)


mutual
def tilefarmlaw10_SeparableChecks.l0 : Nat → List Int → List Int → Int → Int → Int → Int → Int → List Int → Int → Option (Bool)
  | 0, _, _, _, _, _, _, _, _, _ => none
  | k + 1, x1, x2, x3, x4, x5, x6, x16, x268000, x268001 => if x16 < 5 then ((tilefarmgen_Tape_Next.f x268000 x268001 11).bind fun bt273 => ((tilefarmgen_Tape_Weights.f k x268000 bt273.2 bt273.1).bind fun bt275 => ((tilefarmgen_Tape_Next.f x268000 bt275.2 9).bind fun bt279 => ((tilefarmgen_Tape_Weights.f k x268000 bt279.2 (wrap64 (1 + bt279.1))).bind fun bt281 => (if (bt275.1.length : Int) > 0 then ((tilefarmgen_Tape_Next.f x268000 bt281.2 3).bind fun bt285 => (tilefarmlaw10_SeparableChecks.j1 k x1 x2 x3 x4 x5 x6 x16 bt275.1 bt281.1 (bt285.1 == 2) x268000 bt285.2)) else (tilefarmlaw10_SeparableChecks.j1 k x1 x2 x3 x4 x5 x6 x16 bt275.1 bt281.1 false x268000 bt281.2)))))) else (if (x1.length : Int) > 1000 then ((tilefarmlaw10_sane.f k).bind fun t268 => (some t268)) else (if (x2.length : Int) > 1000 then ((tilefarmlaw10_sane.f k).bind fun t269 => (some t269)) else ((separable_Check.f k x3 x1 x2 x4 x5 x6).bind fun t270 => ((tilefarmref10_Check.f k x3 x1 x2 x4 x5 x6).bind fun t271 => (if t270 = t271 then ((tilefarmlaw10_sane.f k).bind fun t272 => (some t272)) else (some false))))))
def tilefarmlaw10_SeparableChecks.j1 : Nat → List Int → List Int → Int → Int → Int → Int → Int → List Int → List Int → Bool → List Int → Int → Option (Bool)
  | 0, _, _, _, _, _, _, _, _, _, _, _, _ => none
  | k + 1, x1, x2, x3, x4, x5, x6, x16, x17, x18, x44, x268000, x268001 => if x44 = true then ((tilefarmgen_Tape_Pick.f x268000 x268001 (([32767, 32768] : List Int))).bind fun bt290 => (if 0 < (x17.length : Int) then (if 0 < (x18.length : Int) then (tilefarmlaw10_SeparableChecks.j2 k x1 x2 x3 x4 x5 x6 x16 (x17.set (0 : Int).toNat bt290.1) (x18.set (0 : Int).toNat (-32767)) x268000 bt290.2) else (none)) else (none))) else (tilefarmlaw10_SeparableChecks.j2 k x1 x2 x3 x4 x5 x6 x16 x17 x18 x268000 x268001)
def tilefarmlaw10_SeparableChecks.j2 : Nat → List Int → List Int → Int → Int → Int → Int → Int → List Int → List Int → List Int → Int → Option (Bool)
  | 0, _, _, _, _, _, _, _, _, _, _, _ => none
  | k + 1, x1, x2, x3, x4, x5, x6, x16, x17, x18, x268000, x268001 => (tilefarmgen_Tape_Pick.f x268000 x268001 (([255, 65535, 0, 4294967296] : List Int))).bind fun bt297 => ((tilefarmgen_Tape_Pick.f x268000 bt297.2 (([0, 24, 25, 3] : List Int))).bind fun bt302 => ((tilefarmgen_Tape_Pick.f x268000 bt302.2 (([0, (-1), 8] : List Int))).bind fun bt307 => ((separable_Check.f k bt297.1 x17 x18 bt302.1 bt307.1 255).bind fun t309 => ((tilefarmref10_Check.f k bt297.1 x17 x18 bt302.1 bt307.1 255).bind fun t310 => (if t309 = t310 then (tilefarmlaw10_SeparableChecks.l0 k x1 x2 x3 x4 x5 x6 (wrap64 (x16 + 1)) x268000 bt307.2) else (some false))))))
end
def tilefarmlaw10_SeparableChecks.f (k : Nat) (l0 : List Int) (l1 : List Int) (l2 : List Int) (a3 : Int) (a4 : Int) (a5 : Int) (a6 : Int) : Option (Bool) := (tilefarmgen_New.f l0).bind fun bt265 => (tilefarmlaw10_SeparableChecks.l0 k l1 l2 a3 a4 a5 a6 0 bt265.1 bt265.2)
theorem tilefarmlaw10_SeparableChecks.mono_l : ∀ k, (∀ y0 y1 y2 y3 y4 y5 y6 y7 y8, LeO (tilefarmlaw10_SeparableChecks.l0 k y0 y1 y2 y3 y4 y5 y6 y7 y8) (tilefarmlaw10_SeparableChecks.l0 (k + 1) y0 y1 y2 y3 y4 y5 y6 y7 y8)) ∧ (∀ y0 y1 y2 y3 y4 y5 y6 y7 y8 y9 y10 y11, LeO (tilefarmlaw10_SeparableChecks.j1 k y0 y1 y2 y3 y4 y5 y6 y7 y8 y9 y10 y11) (tilefarmlaw10_SeparableChecks.j1 (k + 1) y0 y1 y2 y3 y4 y5 y6 y7 y8 y9 y10 y11)) ∧ (∀ y0 y1 y2 y3 y4 y5 y6 y7 y8 y9 y10, LeO (tilefarmlaw10_SeparableChecks.j2 k y0 y1 y2 y3 y4 y5 y6 y7 y8 y9 y10) (tilefarmlaw10_SeparableChecks.j2 (k + 1) y0 y1 y2 y3 y4 y5 y6 y7 y8 y9 y10))
  | 0 => ⟨fun _ _ _ _ _ _ _ _ _ r h => by simp [tilefarmlaw10_SeparableChecks.l0] at h, fun _ _ _ _ _ _ _ _ _ _ _ _ r h => by simp [tilefarmlaw10_SeparableChecks.j1] at h, fun _ _ _ _ _ _ _ _ _ _ _ r h => by simp [tilefarmlaw10_SeparableChecks.j2] at h⟩
  | k + 1 => by
    obtain ⟨ih0, ih1, ih2⟩ := tilefarmlaw10_SeparableChecks.mono_l k
    refine ⟨?_, ?_, ?_⟩
    · intro y0 y1 y2 y3 y4 y5 y6 y7 y8
      unfold tilefarmlaw10_SeparableChecks.l0
      repeat' first
      | (with_reducible exact ih0 _ _ _ _ _ _ _ _ _)
      | (with_reducible exact ih1 _ _ _ _ _ _ _ _ _ _ _ _)
      | (with_reducible exact ih2 _ _ _ _ _ _ _ _ _ _ _)
      | (with_reducible exact separable_Check.mono _ _ _ _ _ _ _)
      | (with_reducible exact tilefarmgen_Tape_Weights.mono _ _ _ _)
      | (with_reducible exact tilefarmlaw10_sane.mono _)
      | (with_reducible exact tilefarmref10_Check.mono _ _ _ _ _ _ _)
      | (with_reducible exact LeO.refl _)
      | (with_reducible exact LeO.none _)
      | (with_reducible refine LeO.ite ?_ ?_)
      | (with_reducible refine LeO.bind ?_ (fun _ => ?_))
      | exact ih0 _ _ _ _ _ _ _ _ _
      | exact ih1 _ _ _ _ _ _ _ _ _ _ _ _
      | exact ih2 _ _ _ _ _ _ _ _ _ _ _
      | exact separable_Check.mono _ _ _ _ _ _ _
      | exact tilefarmgen_Tape_Weights.mono _ _ _ _
      | exact tilefarmlaw10_sane.mono _
      | exact tilefarmref10_Check.mono _ _ _ _ _ _ _
      | exact LeO.none _
      | refine LeO.ite ?_ ?_
      | refine LeO.bind ?_ (fun _ => ?_)
    · intro y0 y1 y2 y3 y4 y5 y6 y7 y8 y9 y10 y11
      unfold tilefarmlaw10_SeparableChecks.j1
      repeat' first
      | (with_reducible exact ih0 _ _ _ _ _ _ _ _ _)
      | (with_reducible exact ih1 _ _ _ _ _ _ _ _ _ _ _ _)
      | (with_reducible exact ih2 _ _ _ _ _ _ _ _ _ _ _)
      | (with_reducible exact separable_Check.mono _ _ _ _ _ _ _)
      | (with_reducible exact tilefarmgen_Tape_Weights.mono _ _ _ _)
      | (with_reducible exact tilefarmlaw10_sane.mono _)
      | (with_reducible exact tilefarmref10_Check.mono _ _ _ _ _ _ _)
      | (with_reducible exact LeO.refl _)
      | (with_reducible exact LeO.none _)
      | (with_reducible refine LeO.ite ?_ ?_)
      | (with_reducible refine LeO.bind ?_ (fun _ => ?_))
      | exact ih0 _ _ _ _ _ _ _ _ _
      | exact ih1 _ _ _ _ _ _ _ _ _ _ _ _
      | exact ih2 _ _ _ _ _ _ _ _ _ _ _
      | exact separable_Check.mono _ _ _ _ _ _ _
      | exact tilefarmgen_Tape_Weights.mono _ _ _ _
      | exact tilefarmlaw10_sane.mono _
      | exact tilefarmref10_Check.mono _ _ _ _ _ _ _
      | exact LeO.none _
      | refine LeO.ite ?_ ?_
      | refine LeO.bind ?_ (fun _ => ?_)
    · intro y0 y1 y2 y3 y4 y5 y6 y7 y8 y9 y10
      unfold tilefarmlaw10_SeparableChecks.j2
      repeat' first
      | (with_reducible exact ih0 _ _ _ _ _ _ _ _ _)
      | (with_reducible exact ih1 _ _ _ _ _ _ _ _ _ _ _ _)
      | (with_reducible exact ih2 _ _ _ _ _ _ _ _ _ _ _)
      | (with_reducible exact separable_Check.mono _ _ _ _ _ _ _)
      | (with_reducible exact tilefarmgen_Tape_Weights.mono _ _ _ _)
      | (with_reducible exact tilefarmlaw10_sane.mono _)
      | (with_reducible exact tilefarmref10_Check.mono _ _ _ _ _ _ _)
      | (with_reducible exact LeO.refl _)
      | (with_reducible exact LeO.none _)
      | (with_reducible refine LeO.ite ?_ ?_)
      | (with_reducible refine LeO.bind ?_ (fun _ => ?_))
      | exact ih0 _ _ _ _ _ _ _ _ _
      | exact ih1 _ _ _ _ _ _ _ _ _ _ _ _
      | exact ih2 _ _ _ _ _ _ _ _ _ _ _
      | exact separable_Check.mono _ _ _ _ _ _ _
      | exact tilefarmgen_Tape_Weights.mono _ _ _ _
      | exact tilefarmlaw10_sane.mono _
      | exact tilefarmref10_Check.mono _ _ _ _ _ _ _
      | exact LeO.none _
      | refine LeO.ite ?_ ?_
      | refine LeO.bind ?_ (fun _ => ?_)
theorem tilefarmlaw10_SeparableChecks.mono : ∀ a0 a1 a2 a3 a4 a5 a6 k, LeO (tilefarmlaw10_SeparableChecks.f k a0 a1 a2 a3 a4 a5 a6) (tilefarmlaw10_SeparableChecks.f (k + 1) a0 a1 a2 a3 a4 a5 a6) := by
  intro a0 a1 a2 a3 a4 a5 a6 k
  obtain ⟨ih0, ih1, ih2⟩ := tilefarmlaw10_SeparableChecks.mono_l k
  unfold tilefarmlaw10_SeparableChecks.f
  repeat' first
      | (with_reducible exact ih0 _ _ _ _ _ _ _ _ _)
      | (with_reducible exact ih1 _ _ _ _ _ _ _ _ _ _ _ _)
      | (with_reducible exact ih2 _ _ _ _ _ _ _ _ _ _ _)
      | (with_reducible exact separable_Check.mono _ _ _ _ _ _ _)
      | (with_reducible exact tilefarmgen_Tape_Weights.mono _ _ _ _)
      | (with_reducible exact tilefarmlaw10_sane.mono _)
      | (with_reducible exact tilefarmref10_Check.mono _ _ _ _ _ _ _)
      | (with_reducible exact LeO.refl _)
      | (with_reducible exact LeO.none _)
      | (with_reducible refine LeO.ite ?_ ?_)
      | (with_reducible refine LeO.bind ?_ (fun _ => ?_))
      | exact ih0 _ _ _ _ _ _ _ _ _
      | exact ih1 _ _ _ _ _ _ _ _ _ _ _ _
      | exact ih2 _ _ _ _ _ _ _ _ _ _ _
      | exact separable_Check.mono _ _ _ _ _ _ _
      | exact tilefarmgen_Tape_Weights.mono _ _ _ _
      | exact tilefarmlaw10_sane.mono _
      | exact tilefarmref10_Check.mono _ _ _ _ _ _ _
      | exact LeO.none _
      | refine LeO.ite ?_ ?_
      | refine LeO.bind ?_ (fun _ => ?_)
set_option maxHeartbeats 8000000 in
set_option maxRecDepth 100000 in
theorem tilefarmlaw10_SeparableChecks.calls (k : Nat) (A0 : Option Addr) (c0 : Nat) (l0 : List Int) (A1 : Option Addr) (c1 : Nat) (l1 : List Int) (A2 : Option Addr) (c2 : Nat) (l2 : List Int) (a3 : Int) (a4 : Int) (a5 : Int) (a6 : Int) (r : Bool) (w : World) (hr0 : Kd.C (Kd.int .i64) w A0 l0.length l0) (hc0 : l0.length ≤ c0) (hr1 : Kd.C (Kd.int .i64) w A1 l1.length l1) (hc1 : l1.length ≤ c1) (hr2 : Kd.C (Kd.int .i64) w A2 l2.length l2) (hc2 : l2.length ≤ c2) (h : tilefarmlaw10_SeparableChecks.f k l0 l1 l2 a3 a4 a5 a6 = some r) (hT : r = true := by first | rfl | assumption | exact HT.out) :
    Calls Try.prog 3 #[.slice A0 l0.length c0, .slice A1 l1.length c1, .slice A2 l2.length c2, .int .i64 a3, .int .i64 a4, .int .i64 a5, .int .i64 a6] w fun e w' => e = .returned (.bool r) ∧ Below w.heap.size w w' := by
  have HT := Aside0.mk hT
  clear hT
  have HR0 := Aside0.mk hr0
  have HC0 := Aside0.mk hc0
  clear hr0 hc0
  have HR1 := Aside0.mk hr1
  have HC1 := Aside0.mk hc1
  clear hr1 hc1
  have HR2 := Aside0.mk hr2
  have HC2 := Aside0.mk hc2
  clear hr2 hc2
  have HB := Aside0.mk (Below.refl w.heap.size w)
  have H : ((tilefarmgen_New.f l0).bind fun bt265 => (tilefarmlaw10_SeparableChecks.l0 k l1 l2 a3 a4 a5 a6 0 bt265.1 bt265.2)) = some r := h
  clear h
  replace H := Option.bind_eq_some_iff.mp H
  obtain ⟨⟨t265, t266⟩, A80, H⟩ := H
  replace H : (tilefarmlaw10_SeparableChecks.l0 k l1 l2 a3 a4 a5 a6 0 t265 t266) = some r := H
  have A8 := Aside0.mk A80
  clear A80
  have H' := Aside0.mk H
  clear H
  go_enter Try.func3, Try.ntmps3
  go_wp2_with (first | ((with_reducible refine gate_callee (f := 8) rfl ?_); refine goesL_ (some 23) rfl rfl Try.func8 (by kernel_rfl) rfl #[.slice A0 l0.length c0] rfl q60_ ?_; (with_reducible refine (tilefarmgen_New.calls _ _ l0 t265 t266 w _ ?side1 ?side2 ?side3 A8.out).mono ?_); (case side1 => repeat (first | (with_reducible first | exact HB.out | apply below_alloc | apply pw_below_drewN | apply below_drew1) | exact HB.out)); (case side2 => exact HR0.out); (case side3 => exact HC0.out); rintro e w9 ⟨g267, rfl, hi, hb, hb2⟩; refine ⟨_, rfl, ?_⟩; have n0_ := Aside0.mk (hb); have n1_ := Aside0.mk (hi); clear HB; have HB := n0_; have HI267 := n1_; clear n0_ n1_; (try clear hb); (try clear hb2); (try clear hk); (try clear hi)))
  go_loopg [16] k (fun kq v16 w' => ∃ (x16_1 : Int) (x268001_1 : Int), v16 = .int .i64 x16_1 ∧ Aside0 (tilefarmlaw10_SeparableChecks.l0 kq l1 l2 a3 a4 a5 a6 x16_1 t265 x268001_1 = some r) ∧ Aside0 (kq ≤ k) ∧ Aside0 (IsS53 w w' g267 t265 x268001_1) ∧ Aside0 (Below w.heap.size w w'))
  case atStart => exact ⟨(0), (t266), q109_, H', ⟨Nat.le_refl _⟩, ⟨q49_⟩, ⟨q36_⟩⟩
  case round =>
    clear H'
    try clear c1
    try clear c2
    try clear p2
    try clear c3
    try clear c8
    obtain ⟨x16_1, x268001_1, rfl, HA, HK1, HI267, HB⟩ := hrel
    cases gk with
    | zero => exact absurd HA.out (by simp [tilefarmlaw10_SeparableChecks.l0])
    | succ k1 =>
      have H := HA.out
      clear HA
      simp only [tilefarmlaw10_SeparableChecks.l0] at H
      by_cases c10 : x16_1 < 5
      · rw [if_pos c10] at H
        have c10b0 : decide (x16_1 < 5) = true := decide_eq_true c10
        clear c10
        replace H := Option.bind_eq_some_iff.mp H
        obtain ⟨⟨t273, t274⟩, A110, H⟩ := H
        replace H : ((tilefarmgen_Tape_Weights.f k1 t265 t274 t273).bind fun bt275 => ((tilefarmgen_Tape_Next.f t265 bt275.2 9).bind fun bt279 => ((tilefarmgen_Tape_Weights.f k1 t265 bt279.2 (wrap64 (1 + bt279.1))).bind fun bt281 => (if (bt275.1.length : Int) > 0 then ((tilefarmgen_Tape_Next.f t265 bt281.2 3).bind fun bt285 => (tilefarmlaw10_SeparableChecks.j1 k1 l1 l2 a3 a4 a5 a6 x16_1 bt275.1 bt281.1 (bt285.1 == 2) t265 bt285.2)) else (tilefarmlaw10_SeparableChecks.j1 k1 l1 l2 a3 a4 a5 a6 x16_1 bt275.1 bt281.1 false t265 bt281.2))))) = some r := H
        have A11 := Aside0.mk A110
        clear A110
        replace H := Option.bind_eq_some_iff.mp H
        obtain ⟨⟨t275, t278⟩, A120, H⟩ := H
        replace H : ((tilefarmgen_Tape_Next.f t265 t278 9).bind fun bt279 => ((tilefarmgen_Tape_Weights.f k1 t265 bt279.2 (wrap64 (1 + bt279.1))).bind fun bt281 => (if (t275.length : Int) > 0 then ((tilefarmgen_Tape_Next.f t265 bt281.2 3).bind fun bt285 => (tilefarmlaw10_SeparableChecks.j1 k1 l1 l2 a3 a4 a5 a6 x16_1 t275 bt281.1 (bt285.1 == 2) t265 bt285.2)) else (tilefarmlaw10_SeparableChecks.j1 k1 l1 l2 a3 a4 a5 a6 x16_1 t275 bt281.1 false t265 bt281.2)))) = some r := H
        have A12 := Aside0.mk A120
        clear A120
        replace H := Option.bind_eq_some_iff.mp H
        obtain ⟨⟨t279, t280⟩, A130, H⟩ := H
        replace H : ((tilefarmgen_Tape_Weights.f k1 t265 t280 (wrap64 (1 + t279))).bind fun bt281 => (if (t275.length : Int) > 0 then ((tilefarmgen_Tape_Next.f t265 bt281.2 3).bind fun bt285 => (tilefarmlaw10_SeparableChecks.j1 k1 l1 l2 a3 a4 a5 a6 x16_1 t275 bt281.1 (bt285.1 == 2) t265 bt285.2)) else (tilefarmlaw10_SeparableChecks.j1 k1 l1 l2 a3 a4 a5 a6 x16_1 t275 bt281.1 false t265 bt281.2))) = some r := H
        have A13 := Aside0.mk A130
        clear A130
        replace H := Option.bind_eq_some_iff.mp H
        obtain ⟨⟨t281, t284⟩, A140, H⟩ := H
        replace H : (if (t275.length : Int) > 0 then ((tilefarmgen_Tape_Next.f t265 t284 3).bind fun bt285 => (tilefarmlaw10_SeparableChecks.j1 k1 l1 l2 a3 a4 a5 a6 x16_1 t275 t281 (bt285.1 == 2) t265 bt285.2)) else (tilefarmlaw10_SeparableChecks.j1 k1 l1 l2 a3 a4 a5 a6 x16_1 t275 t281 false t265 t284)) = some r := H
        have A14 := Aside0.mk A140
        clear A140
        have HC15 := Aside0.mk H
        clear H
        go_upto_region 6 with (first | ((with_reducible refine gate_callee (f := 10) rfl ?_); refine goesL_ (some 30) rfl rfl Try.func10 (by kernel_rfl) rfl #[.pointer (some ⟨g267, 0, none⟩), .int .i64 11] rfl q60_ ?_; (with_reducible refine (tilefarmgen_Tape_Next.calls g267 t265 x268001_1 11 t273 t274 w _ ?side1 ?side2 A11.out).mono ?_); (case side1 => repeat (first | (with_reducible first | exact HI267.out | apply IsS53.alloc | apply IsS53.drewN | apply IsS53.drew | apply IsS53.set_1) | exact HI267.out)); (case side2 => repeat (first | (with_reducible first | exact HB.out | apply below_alloc | apply pw_below_drewN | apply below_drew1 | refine below_set ?_ (IsS53.ge HI267.out)) | exact HB.out)); rintro e w16 ⟨rfl, hi, hb, hk⟩; refine ⟨_, rfl, ?_⟩; have n0_ := Aside0.mk (hb); have n1_ := Aside0.mk (hi); clear HB; clear HI267; have HB := n0_; have HI267 := n1_; clear n0_ n1_; (try clear hb); (try clear hb2); (try clear hk); (try clear hi)) | ((with_reducible refine gate_callee (f := 9) rfl ?_); refine goesL_ (some 31) rfl rfl Try.func9 (by kernel_rfl) rfl #[.pointer (some ⟨g267, 0, none⟩), .int .i64 t273] rfl q60_ ?_; (with_reducible refine (tilefarmgen_Tape_Weights.calls k1 g267 t265 t274 t273 t275 t278 w _ ?side1 ?side2 A12.out).mono ?_); (case side1 => repeat (first | (with_reducible first | exact HI267.out | apply IsS53.alloc | apply IsS53.drewN | apply IsS53.drew | apply IsS53.set_1) | exact HI267.out)); (case side2 => repeat (first | (with_reducible first | exact HB.out | apply below_alloc | apply pw_below_drewN | apply below_drew1 | refine below_set ?_ (IsS53.ge HI267.out)) | exact HB.out)); rintro e w17 ⟨v276, rfl, ho0, hi, hb, hk⟩; refine ⟨_, rfl, ?_⟩; have n0_ := Aside0.mk (Kd.R_lower ho0 (below_size q36_)); have n1_ := Aside0.mk (hb); have n2_ := Aside0.mk (hi); clear HB; clear HI267; have HO277 := n0_; have HB := n1_; have HI267 := n2_; clear n0_ n1_ n2_; (try clear hb); (try clear hb2); (try clear hk); (try clear hi); (try clear ho0)) | ((with_reducible refine gate_callee (f := 10) rfl ?_); refine goesL_ (some 34) rfl rfl Try.func10 (by kernel_rfl) rfl #[.pointer (some ⟨g267, 0, none⟩), .int .i64 9] rfl q60_ ?_; (with_reducible refine (tilefarmgen_Tape_Next.calls g267 t265 t278 9 t279 t280 w _ ?side1 ?side2 A13.out).mono ?_); (case side1 => repeat (first | (with_reducible first | exact HI267.out | apply IsS53.alloc | apply IsS53.drewN | apply IsS53.drew | apply IsS53.set_1) | exact HI267.out)); (case side2 => repeat (first | (with_reducible first | exact HB.out | apply below_alloc | apply pw_below_drewN | apply below_drew1 | refine below_set ?_ (IsS53.ge HI267.out)) | exact HB.out)); rintro e w18 ⟨rfl, hi, hb, hk⟩; refine ⟨_, rfl, ?_⟩; have n0_ := Aside0.mk (Kd.R_mono (Kd.R_keep (IsS53.apart (show IsS53 w _ g267 t265 t278 from by repeat (first | (with_reducible first | exact HI267.out | apply IsS53.alloc | apply IsS53.drewN | apply IsS53.drew | apply IsS53.set_1) | exact HI267.out)) q95_ (by decide)) hk (fun _ h => h.2)) (fun _ h => h.1)); have n1_ := Aside0.mk (hb); have n2_ := Aside0.mk (hi); clear HO277; clear HB; clear HI267; have HO277 := n0_; have HB := n1_; have HI267 := n2_; clear n0_ n1_ n2_; (try clear hb); (try clear hb2); (try clear hk); (try clear hi)) | ((with_reducible refine gate_callee (f := 9) rfl ?_); refine goesL_ (some 36) rfl rfl Try.func9 (by kernel_rfl) rfl #[.pointer (some ⟨g267, 0, none⟩), .int .i64 (wrap64 (1 + t279))] rfl q60_ ?_; (with_reducible refine (tilefarmgen_Tape_Weights.calls k1 g267 t265 t280 (wrap64 (1 + t279)) t281 t284 w _ ?side1 ?side2 A14.out).mono ?_); (case side1 => repeat (first | (with_reducible first | exact HI267.out | apply IsS53.alloc | apply IsS53.drewN | apply IsS53.drew | apply IsS53.set_1) | exact HI267.out)); (case side2 => repeat (first | (with_reducible first | exact HB.out | apply below_alloc | apply pw_below_drewN | apply below_drew1 | refine below_set ?_ (IsS53.ge HI267.out)) | exact HB.out)); rintro e w19 ⟨v282, rfl, ho0, hi, hb, hk⟩; refine ⟨_, rfl, ?_⟩; have n0_ := Aside0.mk (Kd.R_mono (Kd.R_told (Kd.R_oldK (IsS53.apart (show IsS53 w _ g267 t265 t280 from by repeat (first | (with_reducible first | exact HI267.out | apply IsS53.alloc | apply IsS53.drewN | apply IsS53.drew | apply IsS53.set_1) | exact HI267.out)) q95_ (by decide)) hk) (Kd.R_base ho0)) (fun _ h_ => h_.1)); have n1_ := Aside0.mk (Kd.R_lower (Kd.R_new' ho0 (Kd.R_lt q95_)) (below_size q36_)); have n2_ := Aside0.mk (hb); have n3_ := Aside0.mk (hi); clear HO277; clear HB; clear HI267; have HO277 := n0_; have HO283 := n1_; have HB := n2_; have HI267 := n3_; clear n0_ n1_ n2_ n3_; (try clear hb); (try clear hb2); (try clear hk); (try clear hi); (try clear ho0)))
        (try simp only [Act.put, List.setIfInBounds_toArray, List.set_cons_zero, List.set_cons_succ])
        go_cut [44] (fun v44 wc => ∃ (kq : Nat) (x44_14 : Bool) (x268001_14 : Int), v44 = .bool x44_14 ∧ Aside0 (tilefarmlaw10_SeparableChecks.j1 kq l1 l2 a3 a4 a5 a6 x16_1 t275 t281 x44_14 t265 x268001_14 = some r) ∧ Aside0 (kq ≤ k1) ∧ Aside0 (Kd.R (Kd.int .i64) 3 wc w.heap.size (fun k_ => some k_ ≠ (v282 : Value).ownBlock) v276 t275) ∧ Aside0 (Kd.R (Kd.int .i64) 3 wc w.heap.size (fun k_ => some k_ ≠ (v276 : Value).ownBlock) v282 t281) ∧ Aside0 (IsS53 w wc g267 t265 x268001_14) ∧ Aside0 (Below w.heap.size w wc))
        case first =>
          have H := HC15.out
          clear HC15
          by_cases c20 : (t275.length : Int) > 0
          · rw [if_pos c20] at H
            have c20b0 : decide (0 < (t275.length : Int)) = true := decide_eq_true c20
            have c20b1 : decide (0 < t275.length) = true := decide_eq_true (by omega)
            clear c20
            (first | rw [c20b0] | (simp only [i64_w, i32_w]; rw [c20b0]) | skip)
            replace H := Option.bind_eq_some_iff.mp H
            obtain ⟨⟨t285, t286⟩, A210, H⟩ := H
            replace H : (tilefarmlaw10_SeparableChecks.j1 k1 l1 l2 a3 a4 a5 a6 x16_1 t275 t281 (t285 == 2) t265 t286) = some r := H
            have A21 := Aside0.mk A210
            clear A210
            have H' := Aside0.mk H
            clear H
            obtain ⟨Ao22, co22, eo22⟩ := Kd.R_slice HO277.out
            subst eo22
            go_wp2_with (first | (go_at_call 10; (with_reducible refine (tilefarmgen_Tape_Next.calls g267 t265 t284 3 t285 t286 w _ ?side1 ?side2 A21.out).mono ?_); (case side1 => repeat (first | (with_reducible first | exact HI267.out | apply IsS53.alloc | apply IsS53.drewN | apply IsS53.drew | apply IsS53.set_1) | exact HI267.out)); (case side2 => repeat (first | (with_reducible first | exact HB.out | apply below_alloc | apply pw_below_drewN | apply below_drew1 | refine below_set ?_ (IsS53.ge HI267.out)) | exact HB.out)); rintro e w23 ⟨rfl, hi, hb, hk⟩; have n0_ := Aside0.mk (Kd.R_mono (Kd.R_keep (IsS53.apart (show IsS53 w _ g267 t265 t284 from by repeat (first | (with_reducible first | exact HI267.out | apply IsS53.alloc | apply IsS53.drewN | apply IsS53.drew | apply IsS53.set_1) | exact HI267.out)) q95_ (by decide)) hk (fun _ h => h.2)) (fun _ h => h.1)); have n1_ := Aside0.mk (Kd.R_mono (Kd.R_keep (IsS53.apart (show IsS53 w _ g267 t265 t284 from by repeat (first | (with_reducible first | exact HI267.out | apply IsS53.alloc | apply IsS53.drewN | apply IsS53.drew | apply IsS53.set_1) | exact HI267.out)) (by (with_reducible repeat (first | apply Kd.R_alloc | apply Kd.R_drewN | apply Kd.R_drew)); exact HO283.out) (by decide)) hk (fun _ h => h.2)) (fun _ h => h.1)); have n2_ := Aside0.mk (hb); have n3_ := Aside0.mk (hi); clear HO277; clear HO283; clear HB; clear HI267; have HO277 := n0_; have HO283 := n1_; have HB := n2_; have HI267 := n3_; clear n0_ n1_ n2_ n3_; (try clear hb); (try clear hb2); (try clear hk); (try clear hi)))
            go_meet
            case rel => exact ⟨_, ((t285 == 2)), (t286), q109_, H', ⟨by have := HK1.out; first | omega | exact Nat.le_refl _⟩, ⟨by (with_reducible repeat (first | apply Kd.R_alloc | apply Kd.R_drewN | apply Kd.R_drew)); exact Kd.R_mono HO277.out (fun _ hk => hk.2)⟩, ⟨by (with_reducible repeat (first | apply Kd.R_alloc | apply Kd.R_drewN | apply Kd.R_drew)); exact Kd.R_mono HO283.out (fun _ hk => hk.2)⟩, ⟨q49_⟩, ⟨q36_⟩⟩
          · rw [if_neg c20] at H
            have c20b0 : decide (0 < (t275.length : Int)) = false := decide_eq_false c20
            have c20b1 : decide (0 < t275.length) = false := decide_eq_false (by omega)
            clear c20
            (first | rw [c20b0] | (simp only [i64_w, i32_w]; rw [c20b0]) | skip)
            have H' := Aside0.mk H
            clear H
            obtain ⟨Ao24, co24, eo24⟩ := Kd.R_slice HO277.out
            subst eo24
            go_wp2
            go_meet
            case rel => exact ⟨_, (false), (t284), q109_, H', ⟨by have := HK1.out; first | omega | exact Nat.le_refl _⟩, ⟨by (with_reducible repeat (first | apply Kd.R_alloc | apply Kd.R_drewN | apply Kd.R_drew)); exact Kd.R_mono HO277.out (fun _ hk => hk.2)⟩, ⟨by (with_reducible repeat (first | apply Kd.R_alloc | apply Kd.R_drewN | apply Kd.R_drew)); exact Kd.R_mono HO283.out (fun _ hk => hk.2)⟩, ⟨q49_⟩, ⟨q36_⟩⟩
        case rest =>
          clear HC15
          try clear c1
          try clear c2
          try clear p2
          try clear c3
          try clear p6
          try clear c8
          try clear c9
          try clear c10
          try clear c10b0
          try clear c20
          try clear c20b0
          try clear c20b1
          try clear p2
          obtain ⟨kq, x44_14, x268001_14, rfl, HA, HJ14, HO_17, HO_18, HI267, HB⟩ := hcut
          cases kq with
          | zero => exact absurd HA.out (by simp [tilefarmlaw10_SeparableChecks.j1])
          | succ kj14 =>
            have H := HA.out
            clear HA
            simp only [tilefarmlaw10_SeparableChecks.j1] at H
            have HC25 := Aside0.mk H
            clear H
            go_upto_if 44 with (fail)
            go_cut [] (fun wc => ∃ (kq : Nat) (x17_24 : List Int) (x18_24 : List Int) (x268001_24 : Int), Aside0 (tilefarmlaw10_SeparableChecks.j2 kq l1 l2 a3 a4 a5 a6 x16_1 x17_24 x18_24 t265 x268001_24 = some r) ∧ Aside0 (kq ≤ kj14) ∧ Aside0 (Kd.R (Kd.int .i64) 3 wc w.heap.size (fun k_ => some k_ ≠ (v282 : Value).ownBlock) v276 x17_24) ∧ Aside0 (Kd.R (Kd.int .i64) 3 wc w.heap.size (fun k_ => some k_ ≠ (v276 : Value).ownBlock) v282 x18_24) ∧ Aside0 (IsS53 w wc g267 t265 x268001_24) ∧ Aside0 (Below w.heap.size w wc))
            case first =>
              have H := HC25.out
              clear HC25
              by_cases c26 : x44_14 = true
              · subst c26
                have H1 : ((tilefarmgen_Tape_Pick.f t265 x268001_14 (([32767, 32768] : List Int))).bind fun bt290 => (if 0 < (t275.length : Int) then (if 0 < (t281.length : Int) then (tilefarmlaw10_SeparableChecks.j2 kj14 l1 l2 a3 a4 a5 a6 x16_1 (t275.set (0 : Int).toNat bt290.1) (t281.set (0 : Int).toNat (-32767)) t265 bt290.2) else (none)) else (none))) = some r := by rw [if_pos rfl] at H; exact H
                clear H
                have H := H1
                clear H1
                obtain ⟨y287, hy287⟩ : ∃ y_ : List Int, y_ = (([32767, 32768] : List Int)) := ⟨_, rfl⟩
                replace H : ((tilefarmgen_Tape_Pick.f t265 x268001_14 y287).bind fun bt290 => (if 0 < (t275.length : Int) then (if 0 < (t281.length : Int) then (tilefarmlaw10_SeparableChecks.j2 kj14 l1 l2 a3 a4 a5 a6 x16_1 (t275.set (0 : Int).toNat bt290.1) (t281.set (0 : Int).toNat (-32767)) t265 bt290.2) else (none)) else (none))) = some r := by first | (rw [hy287]; with_reducible exact H) | (have H2_ := (Option.bind_some _ _).symm.trans H; rw [hy287]; with_reducible exact H2_) | (have H2_ := (Option.bind_some _ _).symm.trans H; with_reducible exact H2_) | with_reducible exact H | (rw [hy287]; exact H) | exact H
                have Ny287 := Aside0.mk hy287
                clear hy287
                replace H := Option.bind_eq_some_iff.mp H
                obtain ⟨⟨t290, t291⟩, A270, H⟩ := H
                replace H : (if 0 < (t275.length : Int) then (if 0 < (t281.length : Int) then (tilefarmlaw10_SeparableChecks.j2 kj14 l1 l2 a3 a4 a5 a6 x16_1 (t275.set (0 : Int).toNat t290) (t281.set (0 : Int).toNat (-32767)) t265 t291) else (none)) else (none)) = some r := H
                have A27 := Aside0.mk A270
                clear A270
                by_cases c28 : 0 < (t275.length : Int)
                · rw [if_pos c28] at H
                  have c28b0 : decide (0 < (t275.length : Int)) = true := decide_eq_true c28
                  have c28b1 : decide (0 < t275.length) = true := decide_eq_true (by omega)
                  clear c28
                  (first | rw [c28b0] | (simp only [i64_w, i32_w]; rw [c28b0]) | skip)
                  obtain ⟨y292, hy292⟩ : ∃ y_ : List Int, y_ = (t275.set (0 : Int).toNat t290) := ⟨_, rfl⟩
                  replace H : (if 0 < (t281.length : Int) then (tilefarmlaw10_SeparableChecks.j2 kj14 l1 l2 a3 a4 a5 a6 x16_1 y292 (t281.set (0 : Int).toNat (-32767)) t265 t291) else (none)) = some r := by first | (rw [hy292]; with_reducible exact H) | (have H2_ := (Option.bind_some _ _).symm.trans H; rw [hy292]; with_reducible exact H2_) | (have H2_ := (Option.bind_some _ _).symm.trans H; with_reducible exact H2_) | with_reducible exact H | (rw [hy292]; exact H) | exact H
                  have Ny292 := Aside0.mk hy292
                  clear hy292
                  by_cases c30 : 0 < (t281.length : Int)
                  · rw [if_pos c30] at H
                    have c30b0 : decide (0 < (t281.length : Int)) = true := decide_eq_true c30
                    have c30b1 : decide (0 < t281.length) = true := decide_eq_true (by omega)
                    clear c30
                    obtain ⟨y293, hy293⟩ : ∃ y_ : List Int, y_ = (t281.set (0 : Int).toNat (-32767)) := ⟨_, rfl⟩
                    replace H : (tilefarmlaw10_SeparableChecks.j2 kj14 l1 l2 a3 a4 a5 a6 x16_1 y292 y293 t265 t291) = some r := by first | (rw [hy293]; with_reducible exact H) | (have H2_ := (Option.bind_some _ _).symm.trans H; rw [hy293]; with_reducible exact H2_) | (have H2_ := (Option.bind_some _ _).symm.trans H; with_reducible exact H2_) | with_reducible exact H | (rw [hy293]; exact H) | exact H
                    have Ny293 := Aside0.mk hy293
                    clear hy293
                    have H' := Aside0.mk H
                    clear H
                    go_wp2_with (first | ((with_reducible refine gate_dst (N := 48) rfl ?_); (try (refine gate_guard (by rfl) ?_; dsimp only)); refine Kd.R_lit (Kd.int .i64) _ 3 ?hg (N := 48) ?hd (xs := ([32767, 32768] : List Int)) (inner := [.int .i64 32767, .int .i64 32768]) (ok := fun _ => True) (okp := fun _ => True) ?hr ?hp (fun _ hk => hk) trivial (Below.refl _ _) (Nat.le_refl _) (by simp) ?_; (case hd => rfl); (case hg => rfl); (case hr => first | (go_simp; done) | (go_simp; rfl)); (case hp => exact (Reps.one (show Kd.M (Kd.int .i64) _ _ _ 32767 [.int .i64 32767] from rfl) (Reps.one (show Kd.M (Kd.int .i64) _ _ _ 32768 [.int .i64 32768] from rfl) (Reps.none _ _)))); intro v288 w32 ho33 hb hg_ hnew_; clear hg_ hnew_; (first | rw [← Ny287.out] at ho33 | (simp only [Int.reduceToNat] at ho33; rw [← Ny287.out] at ho33)); have n0_ := Aside0.mk (Kd.R_elder' q96_ (Kd.R_base ho33) hb); have n1_ := Aside0.mk (Kd.R_elder' q97_ (Kd.R_base ho33) hb); have n2_ := Aside0.mk (Kd.R_lower (Kd.R_new' (Kd.R_new' ho33 (Kd.R_lt q96_)) (Kd.R_lt q97_)) (below_size q36_)); have n3_ := Aside0.mk (IsS53.below q49_ hb); have n4_ := Aside0.mk (below_step q36_ hb); clear HO_17; clear HO_18; clear HI267; clear HB; have HO_17 := n0_; have HO_18 := n1_; have HO289 := n2_; have HI267 := n3_; have HB := n4_; clear n0_ n1_ n2_ n3_ n4_; clear hb ho33; obtain ⟨Ao34, co34, eo34⟩ := Kd.R_slice HO289.out; subst eo34) | ((with_reducible refine gate_callee (f := 11) rfl ?_); refine goesL_ (some 49) rfl rfl Try.func11 (by kernel_rfl) rfl #[.pointer (some ⟨g267, 0, none⟩), .slice Ao34 y287.length co34] rfl q60_ ?_; (with_reducible refine (tilefarmgen_Tape_Pick.calls g267 t265 x268001_14 _ _ y287 t290 t291 w _ ?side1 ?side2 ?side3 ?side4 ?side5 A27.out).mono ?_); (case side1 => repeat (first | (with_reducible first | exact HI267.out | apply IsS53.alloc | apply IsS53.drewN | apply IsS53.drew | apply IsS53.set_1) | exact HI267.out)); (case side2 => repeat (first | (with_reducible first | exact HB.out | apply below_alloc | apply pw_below_drewN | apply below_drew1 | refine below_set ?_ (IsS53.ge HI267.out)) | exact HB.out)); (case side3 => repeat (first | exact (Kd.R_reads' HO289.out).2.2 | (with_reducible refine Kd.C_alloc ?_ _) | (with_reducible refine Kd.C_drewN ?_ _) | (with_reducible refine Kd.C_drew ?_))); (case side4 => exact (Kd.R_reads' HO289.out).2.1); (case side5 => exact far_slice (IsS53.own_ne HI267.out HO289.out (by decide))); rintro e w35 ⟨rfl, hi, hb, hk⟩; refine ⟨_, rfl, ?_⟩; have n0_ := Aside0.mk (Kd.R_mono (Kd.R_keep (IsS53.apart (show IsS53 w _ g267 t265 x268001_14 from by repeat (first | (with_reducible first | exact HI267.out | apply IsS53.alloc | apply IsS53.drewN | apply IsS53.drew | apply IsS53.set_1) | exact HI267.out)) q96_ (by decide)) hk (fun _ h => h.2)) (fun _ h => h.1)); have n1_ := Aside0.mk (Kd.R_mono (Kd.R_keep (IsS53.apart (show IsS53 w _ g267 t265 x268001_14 from by repeat (first | (with_reducible first | exact HI267.out | apply IsS53.alloc | apply IsS53.drewN | apply IsS53.drew | apply IsS53.set_1) | exact HI267.out)) q97_ (by decide)) hk (fun _ h => h.2)) (fun _ h => h.1)); have n2_ := Aside0.mk (Kd.R_mono (Kd.R_keep (IsS53.apart (show IsS53 w _ g267 t265 x268001_14 from by repeat (first | (with_reducible first | exact HI267.out | apply IsS53.alloc | apply IsS53.drewN | apply IsS53.drew | apply IsS53.set_1) | exact HI267.out)) (by (with_reducible repeat (first | apply Kd.R_alloc | apply Kd.R_drewN | apply Kd.R_drew)); exact HO289.out) (by decide)) hk (fun _ h => h.2)) (fun _ h => h.1)); have n3_ := Aside0.mk (hb); have n4_ := Aside0.mk (hi); clear HO_17; clear HO_18; clear HO289; clear HB; clear HI267; have HO_17 := n0_; have HO_18 := n1_; have HO289 := n2_; have HB := n3_; have HI267 := n4_; clear n0_ n1_ n2_ n3_ n4_; (try clear hb); (try clear hb2); (try clear hk); (try clear hi); have p29 : 0 ≤ (0 : Int) := (by omega); have q29 : (0 : Int) < ((t275.length : Int) : Int) := of_decide_eq_true q108_; have qi29 : (0 < t275.length) = True := eq_true (by omega); obtain ⟨go29, co29, eo29, gb29, gl29, cl29, HG29⟩ := Kd.R_form HO_17.out (by omega); (first | cases eo29 | (injection eo29 with ea_ en_ ec_; (first | subst ea_ | (injection ea_ with ea_; subst ea_)); subst ec_; clear en_)); have GB29 := Aside0.mk gb29; have GG29 := Aside0.mk HG29; clear gb29 gl29 HG29; obtain ⟨hx29_0, hf29_0⟩ := Kd.R_celln 0 HO_17.out (0 : Int) p29 q29; (try rw [show ((0 : Int)).toNat = 0 from rfl] at hx29_0); (try simp only [Nat.reduceMul, Nat.zero_mul, Nat.zero_add, Nat.reduceAdd] at hx29_0); (try rw [show ((0 : Int)).toNat = 0 from rfl] at hf29_0); (try simp only [Nat.reduceMul, Nat.zero_mul, Nat.zero_add, Nat.reduceAdd] at hf29_0); replace p29 := eq_true p29; replace q29 := eq_true q29; obtain ⟨hy36_, hz36_⟩ := Kd.R_celln 0 HO_17.out (0 : Int) (by omega) (of_decide_eq_true q108_); (try simp only [Int.reduceToNat, Int.toNat_zero, Int.toNat_ofNat, Nat.reduceMul, Nat.zero_mul, Nat.zero_add] at hy36_ hz36_); (try rw [show ((0 : Int)).toNat = 0 from rfl] at hy36_); (try rw [show ((0 : Int)).toNat = 0 from rfl] at hz36_); have HP36 := Kd.R_putg HO_17.out (0 : Int) t290) | ((with_reducible refine gate_store (t := 3) (p := 50) rfl ?_); refine store_event (t := 3) (p := 50) (v := ?vo_w37) (w1 := (w35.setCell ⟨go29, (0 : Int).toNat, none⟩ (.int .i64 t290))) ?hg ?ho ?hn ?hr ?_; (case ho => rfl); (case hg => rfl); (case hn => rfl); (case hr => first | (go_simp; done) | (go_simp; rfl)); intro w37 hw; have hg : w35.grownBy w37 (some go29) := (by rw [hw]; exact HP36.2); have hp_ : Kd.R (Kd.int .i64) 3 w37 w.heap.size (fun k_ => some k_ ≠ (v282 : Value).ownBlock ∧ some k_ ≠ (.slice Ao34 y287.length co34 : Value).ownBlock) (.slice (some ⟨go29, 0, none⟩) t275.length co29) y292 := (by rw [hw, Ny292.out]; exact HP36.1); clear HP36; have n0_ := Aside0.mk (hp_); have n1_ := Aside0.mk (Kd.R_after (v := (.slice (some ⟨go29, 0, none⟩) t275.length co29)) (v1 := (.slice (some ⟨go29, 0, none⟩) t275.length co29)) (ok := (fun k_ => some k_ ≠ (.slice Ao34 y287.length co34 : Value).ownBlock)) (by (with_reducible repeat (first | apply Kd.R_alloc | apply Kd.R_drewN | apply Kd.R_drew)); exact Kd.R_mono HO_18.out (fun _ hk => ⟨hk.2, hk.1⟩)) hg (.inl rfl)); have n2_ := Aside0.mk (IsS53.grown q49_ hg (IsS53.own_ne HI267.out HO_17.out (by decide))); have n3_ := Aside0.mk (Kd.R_after (v := (.slice (some ⟨go29, 0, none⟩) t275.length co29)) (v1 := (.slice (some ⟨go29, 0, none⟩) t275.length co29)) (ok := (fun k_ => some k_ ≠ (v282 : Value).ownBlock)) (by (with_reducible repeat (first | apply Kd.R_alloc | apply Kd.R_drewN | apply Kd.R_drew)); exact Kd.R_mono HO289.out (fun _ hk => ⟨hk.2, hk.1.2⟩)) hg (.inl rfl)); have n4_ := Aside0.mk ((by rw [hw]; exact below_set (HB.out) GB29.out : Below w.heap.size w w37)); clear HO_17; clear HO_18; clear HI267; clear HO289; clear HB; have HO_17 := n0_; have HO_18 := n1_; have HI267 := n2_; have HO289 := n3_; have HB := n4_; clear n0_ n1_ n2_ n3_ n4_; clear hg hw hp_; have p31 : 0 ≤ (0 : Int) := (by omega); have q31 : (0 : Int) < ((t281.length : Int) : Int) := of_decide_eq_true q108_; have qi31 : (0 < t281.length) = True := eq_true (by omega); obtain ⟨go31, co31, eo31, gb31, gl31, cl31, HG31⟩ := Kd.R_form HO_18.out (by omega); (first | cases eo31 | (injection eo31 with ea_ en_ ec_; (first | subst ea_ | (injection ea_ with ea_; subst ea_)); subst ec_; clear en_)); have GB31 := Aside0.mk gb31; have GG31 := Aside0.mk HG31; clear gb31 gl31 HG31; obtain ⟨hx31_0, hf31_0⟩ := Kd.R_celln 0 HO_18.out (0 : Int) p31 q31; (try rw [show ((0 : Int)).toNat = 0 from rfl] at hx31_0); (try simp only [Nat.reduceMul, Nat.zero_mul, Nat.zero_add, Nat.reduceAdd] at hx31_0); (try rw [show ((0 : Int)).toNat = 0 from rfl] at hf31_0); (try simp only [Nat.reduceMul, Nat.zero_mul, Nat.zero_add, Nat.reduceAdd] at hf31_0); replace p31 := eq_true p31; replace q31 := eq_true q31; obtain ⟨hy38_, hz38_⟩ := Kd.R_celln 0 HO_18.out (0 : Int) (by omega) (of_decide_eq_true q108_); (try simp only [Int.reduceToNat, Int.toNat_zero, Int.toNat_ofNat, Nat.reduceMul, Nat.zero_mul, Nat.zero_add] at hy38_ hz38_); (try rw [show ((0 : Int)).toNat = 0 from rfl] at hy38_); (try rw [show ((0 : Int)).toNat = 0 from rfl] at hz38_); have HP38 := Kd.R_putg HO_18.out (0 : Int) (-32767)) | ((with_reducible refine gate_store (t := 3) (p := 51) rfl ?_); refine store_event (t := 3) (p := 51) (v := ?vo_w39) (w1 := (w37.setCell ⟨go31, (0 : Int).toNat, none⟩ (.int .i64 (-32767)))) ?hg ?ho ?hn ?hr ?_; (case ho => rfl); (case hg => rfl); (case hn => rfl); (case hr => first | (go_simp; done) | (go_simp; rfl)); intro w39 hw; have hg : w37.grownBy w39 (some go31) := (by rw [hw]; exact HP38.2); have hp_ : Kd.R (Kd.int .i64) 3 w39 w.heap.size (fun k_ => some k_ ≠ (.slice Ao34 y287.length co34 : Value).ownBlock ∧ some k_ ≠ (.slice (some ⟨go29, 0, none⟩) t275.length co29 : Value).ownBlock) (.slice (some ⟨go31, 0, none⟩) t281.length co31) y293 := (by rw [hw, Ny293.out]; exact HP38.1); clear HP38; have n0_ := Aside0.mk (Kd.R_after (v := (.slice (some ⟨go31, 0, none⟩) t281.length co31)) (v1 := (.slice (some ⟨go31, 0, none⟩) t281.length co31)) (ok := (fun k_ => some k_ ≠ (.slice Ao34 y287.length co34 : Value).ownBlock)) (by (with_reducible repeat (first | apply Kd.R_alloc | apply Kd.R_drewN | apply Kd.R_drew)); exact Kd.R_mono HO_17.out (fun _ hk => ⟨hk.2, hk.1⟩)) hg (.inl rfl)); have n1_ := Aside0.mk (hp_); have n2_ := Aside0.mk (IsS53.grown q49_ hg (IsS53.own_ne HI267.out HO_18.out (by decide))); have n3_ := Aside0.mk (Kd.R_after (v := (.slice (some ⟨go31, 0, none⟩) t281.length co31)) (v1 := (.slice (some ⟨go31, 0, none⟩) t281.length co31)) (ok := (fun k_ => some k_ ≠ (.slice (some ⟨go29, 0, none⟩) t275.length co29 : Value).ownBlock)) (by (with_reducible repeat (first | apply Kd.R_alloc | apply Kd.R_drewN | apply Kd.R_drew)); exact Kd.R_mono HO289.out (fun _ hk => ⟨hk.2, hk.1⟩)) hg (.inl rfl)); have n4_ := Aside0.mk ((by rw [hw]; exact below_set (HB.out) GB31.out : Below w.heap.size w w39)); clear HO_17; clear HO_18; clear HI267; clear HO289; clear HB; have HO_17 := n0_; have HO_18 := n1_; have HI267 := n2_; have HO289 := n3_; have HB := n4_; clear n0_ n1_ n2_ n3_ n4_; clear hg hw hp_))
                    go_meet
                    case rel => exact ⟨_, (y292), (y293), (t291), H', ⟨by have := HK1.out; have := HJ14.out; first | omega | exact Nat.le_refl _⟩, ⟨by (with_reducible repeat (first | apply Kd.R_alloc | apply Kd.R_drewN | apply Kd.R_drew)); exact Kd.R_mono HO_17.out (fun _ hk => hk.2)⟩, ⟨by (with_reducible repeat (first | apply Kd.R_alloc | apply Kd.R_drewN | apply Kd.R_drew)); exact Kd.R_mono HO_18.out (fun _ hk => hk.2)⟩, ⟨q49_⟩, ⟨q36_⟩⟩
                  · rw [if_neg c30] at H
                    exact absurd H (by simp)
                · rw [if_neg c28] at H
                  exact absurd H (by simp)
              · replace c26 := Bool.eq_false_iff.mpr c26
                subst c26
                have H1 : (tilefarmlaw10_SeparableChecks.j2 kj14 l1 l2 a3 a4 a5 a6 x16_1 t275 t281 t265 x268001_14) = some r := by rw [if_neg (show ¬ (false = true) by decide)] at H; exact H
                clear H
                have H := H1
                clear H1
                have H' := Aside0.mk H
                clear H
                go_wp2
                go_meet
                case rel => exact ⟨_, (t275), (t281), (x268001_14), H', ⟨by have := HK1.out; have := HJ14.out; first | omega | exact Nat.le_refl _⟩, ⟨q96_⟩, ⟨q97_⟩, ⟨q49_⟩, ⟨q36_⟩⟩
            case rest =>
              clear HC25
              try clear c1
              try clear c2
              try clear p2
              try clear q2
              try clear hx2
              try clear qi2
              try clear c3
              try clear p3
              try clear q3
              try clear hx3
              try clear qi3
              try clear p6
              try clear c8
              try clear c9
              try clear c10
              try clear c10b0
              try clear c11
              try clear c20
              try clear c20b0
              try clear c20b1
              try clear c26
              try clear c28
              try clear c28b0
              try clear c28b1
              try clear p29
              try clear q29
              try clear hx29
              try clear qi29
              try clear hf29
              try clear c30
              try clear c30b0
              try clear c30b1
              try clear p31
              try clear q31
              try clear hx31
              try clear qi31
              try clear hf31
              try clear hx29_0
              try clear hx31_0
              try clear p2
              try clear p29
              try clear p31
              try clear p6
              try clear q29
              try clear q31
              obtain ⟨kq, x17_24, x18_24, x268001_24, HA, HJ24, HO_17, HO_18, HI267, HB⟩ := hcut
              cases kq with
              | zero => exact absurd HA.out (by simp [tilefarmlaw10_SeparableChecks.j2])
              | succ kj24 =>
                have H := HA.out
                clear HA
                simp only [tilefarmlaw10_SeparableChecks.j2] at H
                obtain ⟨y294, hy294⟩ : ∃ y_ : List Int, y_ = (([255, 65535, 0, 4294967296] : List Int)) := ⟨_, rfl⟩
                replace H : ((tilefarmgen_Tape_Pick.f t265 x268001_24 y294).bind fun bt297 => ((tilefarmgen_Tape_Pick.f t265 bt297.2 (([0, 24, 25, 3] : List Int))).bind fun bt302 => ((tilefarmgen_Tape_Pick.f t265 bt302.2 (([0, (-1), 8] : List Int))).bind fun bt307 => ((separable_Check.f kj24 bt297.1 x17_24 x18_24 bt302.1 bt307.1 255).bind fun t309 => ((tilefarmref10_Check.f kj24 bt297.1 x17_24 x18_24 bt302.1 bt307.1 255).bind fun t310 => (if t309 = t310 then (tilefarmlaw10_SeparableChecks.l0 kj24 l1 l2 a3 a4 a5 a6 (wrap64 (x16_1 + 1)) t265 bt307.2) else (some false))))))) = some r := by first | (rw [hy294]; with_reducible exact H) | (have H2_ := (Option.bind_some _ _).symm.trans H; rw [hy294]; with_reducible exact H2_) | (have H2_ := (Option.bind_some _ _).symm.trans H; with_reducible exact H2_) | with_reducible exact H | (rw [hy294]; exact H) | exact H
                have Ny294 := Aside0.mk hy294
                clear hy294
                replace H := Option.bind_eq_some_iff.mp H
                obtain ⟨⟨t297, t298⟩, A400, H⟩ := H
                replace H : ((tilefarmgen_Tape_Pick.f t265 t298 (([0, 24, 25, 3] : List Int))).bind fun bt302 => ((tilefarmgen_Tape_Pick.f t265 bt302.2 (([0, (-1), 8] : List Int))).bind fun bt307 => ((separable_Check.f kj24 t297 x17_24 x18_24 bt302.1 bt307.1 255).bind fun t309 => ((tilefarmref10_Check.f kj24 t297 x17_24 x18_24 bt302.1 bt307.1 255).bind fun t310 => (if t309 = t310 then (tilefarmlaw10_SeparableChecks.l0 kj24 l1 l2 a3 a4 a5 a6 (wrap64 (x16_1 + 1)) t265 bt307.2) else (some false)))))) = some r := H
                have A40 := Aside0.mk A400
                clear A400
                obtain ⟨y299, hy299⟩ : ∃ y_ : List Int, y_ = (([0, 24, 25, 3] : List Int)) := ⟨_, rfl⟩
                replace H : ((tilefarmgen_Tape_Pick.f t265 t298 y299).bind fun bt302 => ((tilefarmgen_Tape_Pick.f t265 bt302.2 (([0, (-1), 8] : List Int))).bind fun bt307 => ((separable_Check.f kj24 t297 x17_24 x18_24 bt302.1 bt307.1 255).bind fun t309 => ((tilefarmref10_Check.f kj24 t297 x17_24 x18_24 bt302.1 bt307.1 255).bind fun t310 => (if t309 = t310 then (tilefarmlaw10_SeparableChecks.l0 kj24 l1 l2 a3 a4 a5 a6 (wrap64 (x16_1 + 1)) t265 bt307.2) else (some false)))))) = some r := by first | (rw [hy299]; with_reducible exact H) | (have H2_ := (Option.bind_some _ _).symm.trans H; rw [hy299]; with_reducible exact H2_) | (have H2_ := (Option.bind_some _ _).symm.trans H; with_reducible exact H2_) | with_reducible exact H | (rw [hy299]; exact H) | exact H
                have Ny299 := Aside0.mk hy299
                clear hy299
                replace H := Option.bind_eq_some_iff.mp H
                obtain ⟨⟨t302, t303⟩, A410, H⟩ := H
                replace H : ((tilefarmgen_Tape_Pick.f t265 t303 (([0, (-1), 8] : List Int))).bind fun bt307 => ((separable_Check.f kj24 t297 x17_24 x18_24 t302 bt307.1 255).bind fun t309 => ((tilefarmref10_Check.f kj24 t297 x17_24 x18_24 t302 bt307.1 255).bind fun t310 => (if t309 = t310 then (tilefarmlaw10_SeparableChecks.l0 kj24 l1 l2 a3 a4 a5 a6 (wrap64 (x16_1 + 1)) t265 bt307.2) else (some false))))) = some r := H
                have A41 := Aside0.mk A410
                clear A410
                obtain ⟨y304, hy304⟩ : ∃ y_ : List Int, y_ = (([0, (-1), 8] : List Int)) := ⟨_, rfl⟩
                replace H : ((tilefarmgen_Tape_Pick.f t265 t303 y304).bind fun bt307 => ((separable_Check.f kj24 t297 x17_24 x18_24 t302 bt307.1 255).bind fun t309 => ((tilefarmref10_Check.f kj24 t297 x17_24 x18_24 t302 bt307.1 255).bind fun t310 => (if t309 = t310 then (tilefarmlaw10_SeparableChecks.l0 kj24 l1 l2 a3 a4 a5 a6 (wrap64 (x16_1 + 1)) t265 bt307.2) else (some false))))) = some r := by first | (rw [hy304]; with_reducible exact H) | (have H2_ := (Option.bind_some _ _).symm.trans H; rw [hy304]; with_reducible exact H2_) | (have H2_ := (Option.bind_some _ _).symm.trans H; with_reducible exact H2_) | with_reducible exact H | (rw [hy304]; exact H) | exact H
                have Ny304 := Aside0.mk hy304
                clear hy304
                replace H := Option.bind_eq_some_iff.mp H
                obtain ⟨⟨t307, t308⟩, A420, H⟩ := H
                replace H : ((separable_Check.f kj24 t297 x17_24 x18_24 t302 t307 255).bind fun t309 => ((tilefarmref10_Check.f kj24 t297 x17_24 x18_24 t302 t307 255).bind fun t310 => (if t309 = t310 then (tilefarmlaw10_SeparableChecks.l0 kj24 l1 l2 a3 a4 a5 a6 (wrap64 (x16_1 + 1)) t265 t308) else (some false)))) = some r := H
                have A42 := Aside0.mk A420
                clear A420
                replace H := Option.bind_eq_some_iff.mp H
                obtain ⟨t309, A430, H⟩ := H
                replace H : ((tilefarmref10_Check.f kj24 t297 x17_24 x18_24 t302 t307 255).bind fun t310 => (if t309 = t310 then (tilefarmlaw10_SeparableChecks.l0 kj24 l1 l2 a3 a4 a5 a6 (wrap64 (x16_1 + 1)) t265 t308) else (some false))) = some r := H
                have A43 := Aside0.mk A430
                clear A430
                replace H := Option.bind_eq_some_iff.mp H
                obtain ⟨t310, A440, H⟩ := H
                replace H : (if t309 = t310 then (tilefarmlaw10_SeparableChecks.l0 kj24 l1 l2 a3 a4 a5 a6 (wrap64 (x16_1 + 1)) t265 t308) else (some false)) = some r := H
                have A44 := Aside0.mk A440
                clear A440
                by_cases c45 : t309 = t310
                · rw [if_pos c45] at H
                  have c45b0 : (t309 == t310) = true := beq_iff_eq.mpr c45
                  have c45b1 : (t309 != t310) = false := bne_eq_false_iff_eq.mpr c45
                  clear c45
                  have H' := Aside0.mk H
                  clear H
                  go_wp2_with (first | ((with_reducible refine gate_dst (N := 53) rfl ?_); (try (refine gate_guard (by rfl) ?_; dsimp only)); refine Kd.R_lit (Kd.int .i64) _ 3 ?hg (N := 53) ?hd (xs := ([255, 65535, 0, 4294967296] : List Int)) (inner := [.int .i64 255, .int .i64 65535, .int .i64 0, .int .i64 4294967296]) (ok := fun _ => True) (okp := fun _ => True) ?hr ?hp (fun _ hk => hk) trivial (Below.refl _ _) (Nat.le_refl _) (by simp) ?_; (case hd => rfl); (case hg => rfl); (case hr => first | (go_simp; done) | (go_simp; rfl)); (case hp => exact (Reps.one (show Kd.M (Kd.int .i64) _ _ _ 255 [.int .i64 255] from rfl) (Reps.one (show Kd.M (Kd.int .i64) _ _ _ 65535 [.int .i64 65535] from rfl) (Reps.one (show Kd.M (Kd.int .i64) _ _ _ 0 [.int .i64 0] from rfl) (Reps.one (show Kd.M (Kd.int .i64) _ _ _ 4294967296 [.int .i64 4294967296] from rfl) (Reps.none _ _)))))); intro v295 w46 ho47 hb hg_ hnew_; clear hg_ hnew_; (first | rw [← Ny294.out] at ho47 | (simp only [Int.reduceToNat] at ho47; rw [← Ny294.out] at ho47)); have n0_ := Aside0.mk (Kd.R_elder' q96_ (Kd.R_base ho47) hb); have n1_ := Aside0.mk (Kd.R_elder' q97_ (Kd.R_base ho47) hb); have n2_ := Aside0.mk (Kd.R_lower (Kd.R_new' (Kd.R_new' ho47 (Kd.R_lt q96_)) (Kd.R_lt q97_)) (below_size q36_)); have n3_ := Aside0.mk (IsS53.below q49_ hb); have n4_ := Aside0.mk (below_step q36_ hb); clear HO_17; clear HO_18; clear HI267; clear HB; have HO_17 := n0_; have HO_18 := n1_; have HO296 := n2_; have HI267 := n3_; have HB := n4_; clear n0_ n1_ n2_ n3_ n4_; clear hb ho47; obtain ⟨Ao48, co48, eo48⟩ := Kd.R_slice HO296.out; subst eo48) | ((with_reducible refine gate_callee (f := 11) rfl ?_); refine goesL_ (some 54) rfl rfl Try.func11 (by kernel_rfl) rfl #[.pointer (some ⟨g267, 0, none⟩), .slice Ao48 y294.length co48] rfl q60_ ?_; (with_reducible refine (tilefarmgen_Tape_Pick.calls g267 t265 x268001_24 _ _ y294 t297 t298 w _ ?side1 ?side2 ?side3 ?side4 ?side5 A40.out).mono ?_); (case side1 => repeat (first | (with_reducible first | exact HI267.out | apply IsS53.alloc | apply IsS53.drewN | apply IsS53.drew | apply IsS53.set_1) | exact HI267.out)); (case side2 => repeat (first | (with_reducible first | exact HB.out | apply below_alloc | apply pw_below_drewN | apply below_drew1 | refine below_set ?_ (IsS53.ge HI267.out)) | exact HB.out)); (case side3 => repeat (first | exact (Kd.R_reads' HO296.out).2.2 | (with_reducible refine Kd.C_alloc ?_ _) | (with_reducible refine Kd.C_drewN ?_ _) | (with_reducible refine Kd.C_drew ?_))); (case side4 => exact (Kd.R_reads' HO296.out).2.1); (case side5 => exact far_slice (IsS53.own_ne HI267.out HO296.out (by decide))); rintro e w49 ⟨rfl, hi, hb, hk⟩; refine ⟨_, rfl, ?_⟩; have n0_ := Aside0.mk (Kd.R_mono (Kd.R_keep (IsS53.apart (show IsS53 w _ g267 t265 x268001_24 from by repeat (first | (with_reducible first | exact HI267.out | apply IsS53.alloc | apply IsS53.drewN | apply IsS53.drew | apply IsS53.set_1) | exact HI267.out)) q96_ (by decide)) hk (fun _ h => h.2)) (fun _ h => h.1)); have n1_ := Aside0.mk (Kd.R_mono (Kd.R_keep (IsS53.apart (show IsS53 w _ g267 t265 x268001_24 from by repeat (first | (with_reducible first | exact HI267.out | apply IsS53.alloc | apply IsS53.drewN | apply IsS53.drew | apply IsS53.set_1) | exact HI267.out)) q97_ (by decide)) hk (fun _ h => h.2)) (fun _ h => h.1)); have n2_ := Aside0.mk (Kd.R_mono (Kd.R_keep (IsS53.apart (show IsS53 w _ g267 t265 x268001_24 from by repeat (first | (with_reducible first | exact HI267.out | apply IsS53.alloc | apply IsS53.drewN | apply IsS53.drew | apply IsS53.set_1) | exact HI267.out)) q98_ (by decide)) hk (fun _ h => h.2)) (fun _ h => h.1)); have n3_ := Aside0.mk (hb); have n4_ := Aside0.mk (hi); clear HO_17; clear HO_18; clear HO296; clear HB; clear HI267; have HO_17 := n0_; have HO_18 := n1_; have HO296 := n2_; have HB := n3_; have HI267 := n4_; clear n0_ n1_ n2_ n3_ n4_; (try clear hb); (try clear hb2); (try clear hk); (try clear hi)) | ((with_reducible refine gate_dst (N := 56) rfl ?_); (try (refine gate_guard (by rfl) ?_; dsimp only)); refine Kd.R_lit (Kd.int .i64) _ 3 ?hg (N := 56) ?hd (xs := ([0, 24, 25, 3] : List Int)) (inner := [.int .i64 0, .int .i64 24, .int .i64 25, .int .i64 3]) (ok := fun _ => True) (okp := fun _ => True) ?hr ?hp (fun _ hk => hk) trivial (Below.refl _ _) (Nat.le_refl _) (by simp) ?_; (case hd => rfl); (case hg => rfl); (case hr => first | (go_simp; done) | (go_simp; rfl)); (case hp => exact (Reps.one (show Kd.M (Kd.int .i64) _ _ _ 0 [.int .i64 0] from rfl) (Reps.one (show Kd.M (Kd.int .i64) _ _ _ 24 [.int .i64 24] from rfl) (Reps.one (show Kd.M (Kd.int .i64) _ _ _ 25 [.int .i64 25] from rfl) (Reps.one (show Kd.M (Kd.int .i64) _ _ _ 3 [.int .i64 3] from rfl) (Reps.none _ _)))))); intro v300 w50 ho51 hb hg_ hnew_; clear hg_ hnew_; (first | rw [← Ny299.out] at ho51 | (simp only [Int.reduceToNat] at ho51; rw [← Ny299.out] at ho51)); have n0_ := Aside0.mk (Kd.R_elder' q96_ (Kd.R_base ho51) hb); have n1_ := Aside0.mk (Kd.R_elder' q97_ (Kd.R_base ho51) hb); have n2_ := Aside0.mk (Kd.R_elder' q98_ (Kd.R_base ho51) hb); have n3_ := Aside0.mk (Kd.R_lower (Kd.R_new' (Kd.R_new' (Kd.R_new' ho51 (Kd.R_lt q96_)) (Kd.R_lt q97_)) (Kd.R_lt q98_)) (below_size q36_)); have n4_ := Aside0.mk (IsS53.below q49_ hb); have n5_ := Aside0.mk (below_step q36_ hb); clear HO_17; clear HO_18; clear HO296; clear HI267; clear HB; have HO_17 := n0_; have HO_18 := n1_; have HO296 := n2_; have HO301 := n3_; have HI267 := n4_; have HB := n5_; clear n0_ n1_ n2_ n3_ n4_ n5_; clear hb ho51; obtain ⟨Ao52, co52, eo52⟩ := Kd.R_slice HO301.out; subst eo52) | ((with_reducible refine gate_callee (f := 11) rfl ?_); refine goesL_ (some 57) rfl rfl Try.func11 (by kernel_rfl) rfl #[.pointer (some ⟨g267, 0, none⟩), .slice Ao52 y299.length co52] rfl q60_ ?_; (with_reducible refine (tilefarmgen_Tape_Pick.calls g267 t265 t298 _ _ y299 t302 t303 w _ ?side1 ?side2 ?side3 ?side4 ?side5 A41.out).mono ?_); (case side1 => repeat (first | (with_reducible first | exact HI267.out | apply IsS53.alloc | apply IsS53.drewN | apply IsS53.drew | apply IsS53.set_1) | exact HI267.out)); (case side2 => repeat (first | (with_reducible first | exact HB.out | apply below_alloc | apply pw_below_drewN | apply below_drew1 | refine below_set ?_ (IsS53.ge HI267.out)) | exact HB.out)); (case side3 => repeat (first | exact (Kd.R_reads' HO301.out).2.2 | (with_reducible refine Kd.C_alloc ?_ _) | (with_reducible refine Kd.C_drewN ?_ _) | (with_reducible refine Kd.C_drew ?_))); (case side4 => exact (Kd.R_reads' HO301.out).2.1); (case side5 => exact far_slice (IsS53.own_ne HI267.out HO301.out (by decide))); rintro e w53 ⟨rfl, hi, hb, hk⟩; refine ⟨_, rfl, ?_⟩; have n0_ := Aside0.mk (Kd.R_mono (Kd.R_keep (IsS53.apart (show IsS53 w _ g267 t265 t298 from by repeat (first | (with_reducible first | exact HI267.out | apply IsS53.alloc | apply IsS53.drewN | apply IsS53.drew | apply IsS53.set_1) | exact HI267.out)) q96_ (by decide)) hk (fun _ h => h.2)) (fun _ h => h.1)); have n1_ := Aside0.mk (Kd.R_mono (Kd.R_keep (IsS53.apart (show IsS53 w _ g267 t265 t298 from by repeat (first | (with_reducible first | exact HI267.out | apply IsS53.alloc | apply IsS53.drewN | apply IsS53.drew | apply IsS53.set_1) | exact HI267.out)) q97_ (by decide)) hk (fun _ h => h.2)) (fun _ h => h.1)); have n2_ := Aside0.mk (Kd.R_mono (Kd.R_keep (IsS53.apart (show IsS53 w _ g267 t265 t298 from by repeat (first | (with_reducible first | exact HI267.out | apply IsS53.alloc | apply IsS53.drewN | apply IsS53.drew | apply IsS53.set_1) | exact HI267.out)) q98_ (by decide)) hk (fun _ h => h.2)) (fun _ h => h.1)); have n3_ := Aside0.mk (Kd.R_mono (Kd.R_keep (IsS53.apart (show IsS53 w _ g267 t265 t298 from by repeat (first | (with_reducible first | exact HI267.out | apply IsS53.alloc | apply IsS53.drewN | apply IsS53.drew | apply IsS53.set_1) | exact HI267.out)) q99_ (by decide)) hk (fun _ h => h.2)) (fun _ h => h.1)); have n4_ := Aside0.mk (hb); have n5_ := Aside0.mk (hi); clear HO_17; clear HO_18; clear HO296; clear HO301; clear HB; clear HI267; have HO_17 := n0_; have HO_18 := n1_; have HO296 := n2_; have HO301 := n3_; have HB := n4_; have HI267 := n5_; clear n0_ n1_ n2_ n3_ n4_ n5_; (try clear hb); (try clear hb2); (try clear hk); (try clear hi)) | ((with_reducible refine gate_dst (N := 59) rfl ?_); (try (refine gate_guard (by rfl) ?_; dsimp only)); refine Kd.R_lit (Kd.int .i64) _ 3 ?hg (N := 59) ?hd (xs := ([0, (-1), 8] : List Int)) (inner := [.int .i64 0, .int .i64 (-1), .int .i64 8]) (ok := fun _ => True) (okp := fun _ => True) ?hr ?hp (fun _ hk => hk) trivial (Below.refl _ _) (Nat.le_refl _) (by simp) ?_; (case hd => rfl); (case hg => rfl); (case hr => first | (go_simp; done) | (go_simp; rfl)); (case hp => exact (Reps.one (show Kd.M (Kd.int .i64) _ _ _ 0 [.int .i64 0] from rfl) (Reps.one (show Kd.M (Kd.int .i64) _ _ _ (-1) [.int .i64 (-1)] from rfl) (Reps.one (show Kd.M (Kd.int .i64) _ _ _ 8 [.int .i64 8] from rfl) (Reps.none _ _))))); intro v305 w54 ho55 hb hg_ hnew_; clear hg_ hnew_; (first | rw [← Ny304.out] at ho55 | (simp only [Int.reduceToNat] at ho55; rw [← Ny304.out] at ho55)); have n0_ := Aside0.mk (Kd.R_elder' q96_ (Kd.R_base ho55) hb); have n1_ := Aside0.mk (Kd.R_elder' q97_ (Kd.R_base ho55) hb); have n2_ := Aside0.mk (Kd.R_elder' q98_ (Kd.R_base ho55) hb); have n3_ := Aside0.mk (Kd.R_elder' q99_ (Kd.R_base ho55) hb); have n4_ := Aside0.mk (Kd.R_lower (Kd.R_new' (Kd.R_new' (Kd.R_new' (Kd.R_new' ho55 (Kd.R_lt q96_)) (Kd.R_lt q97_)) (Kd.R_lt q98_)) (Kd.R_lt q99_)) (below_size q36_)); have n5_ := Aside0.mk (IsS53.below q49_ hb); have n6_ := Aside0.mk (below_step q36_ hb); clear HO_17; clear HO_18; clear HO296; clear HO301; clear HI267; clear HB; have HO_17 := n0_; have HO_18 := n1_; have HO296 := n2_; have HO301 := n3_; have HO306 := n4_; have HI267 := n5_; have HB := n6_; clear n0_ n1_ n2_ n3_ n4_ n5_ n6_; clear hb ho55; obtain ⟨Ao56, co56, eo56⟩ := Kd.R_slice HO306.out; subst eo56) | ((with_reducible refine gate_callee (f := 11) rfl ?_); refine goesL_ (some 60) rfl rfl Try.func11 (by kernel_rfl) rfl #[.pointer (some ⟨g267, 0, none⟩), .slice Ao56 y304.length co56] rfl q60_ ?_; (with_reducible refine (tilefarmgen_Tape_Pick.calls g267 t265 t303 _ _ y304 t307 t308 w _ ?side1 ?side2 ?side3 ?side4 ?side5 A42.out).mono ?_); (case side1 => repeat (first | (with_reducible first | exact HI267.out | apply IsS53.alloc | apply IsS53.drewN | apply IsS53.drew | apply IsS53.set_1) | exact HI267.out)); (case side2 => repeat (first | (with_reducible first | exact HB.out | apply below_alloc | apply pw_below_drewN | apply below_drew1 | refine below_set ?_ (IsS53.ge HI267.out)) | exact HB.out)); (case side3 => repeat (first | exact (Kd.R_reads' HO306.out).2.2 | (with_reducible refine Kd.C_alloc ?_ _) | (with_reducible refine Kd.C_drewN ?_ _) | (with_reducible refine Kd.C_drew ?_))); (case side4 => exact (Kd.R_reads' HO306.out).2.1); (case side5 => exact far_slice (IsS53.own_ne HI267.out HO306.out (by decide))); rintro e w57 ⟨rfl, hi, hb, hk⟩; refine ⟨_, rfl, ?_⟩; have n0_ := Aside0.mk (Kd.R_mono (Kd.R_keep (IsS53.apart (show IsS53 w _ g267 t265 t303 from by repeat (first | (with_reducible first | exact HI267.out | apply IsS53.alloc | apply IsS53.drewN | apply IsS53.drew | apply IsS53.set_1) | exact HI267.out)) q96_ (by decide)) hk (fun _ h => h.2)) (fun _ h => h.1)); have n1_ := Aside0.mk (Kd.R_mono (Kd.R_keep (IsS53.apart (show IsS53 w _ g267 t265 t303 from by repeat (first | (with_reducible first | exact HI267.out | apply IsS53.alloc | apply IsS53.drewN | apply IsS53.drew | apply IsS53.set_1) | exact HI267.out)) q97_ (by decide)) hk (fun _ h => h.2)) (fun _ h => h.1)); have n2_ := Aside0.mk (Kd.R_mono (Kd.R_keep (IsS53.apart (show IsS53 w _ g267 t265 t303 from by repeat (first | (with_reducible first | exact HI267.out | apply IsS53.alloc | apply IsS53.drewN | apply IsS53.drew | apply IsS53.set_1) | exact HI267.out)) q98_ (by decide)) hk (fun _ h => h.2)) (fun _ h => h.1)); have n3_ := Aside0.mk (Kd.R_mono (Kd.R_keep (IsS53.apart (show IsS53 w _ g267 t265 t303 from by repeat (first | (with_reducible first | exact HI267.out | apply IsS53.alloc | apply IsS53.drewN | apply IsS53.drew | apply IsS53.set_1) | exact HI267.out)) q99_ (by decide)) hk (fun _ h => h.2)) (fun _ h => h.1)); have n4_ := Aside0.mk (Kd.R_mono (Kd.R_keep (IsS53.apart (show IsS53 w _ g267 t265 t303 from by repeat (first | (with_reducible first | exact HI267.out | apply IsS53.alloc | apply IsS53.drewN | apply IsS53.drew | apply IsS53.set_1) | exact HI267.out)) q100_ (by decide)) hk (fun _ h => h.2)) (fun _ h => h.1)); have n5_ := Aside0.mk (hb); have n6_ := Aside0.mk (hi); clear HO_17; clear HO_18; clear HO296; clear HO301; clear HO306; clear HB; clear HI267; have HO_17 := n0_; have HO_18 := n1_; have HO296 := n2_; have HO301 := n3_; have HO306 := n4_; have HB := n5_; have HI267 := n6_; clear n0_ n1_ n2_ n3_ n4_ n5_ n6_; (try clear hb); (try clear hb2); (try clear hk); (try clear hi); obtain ⟨Ao58, co58, eo58⟩ := Kd.R_slice HO_17.out; subst eo58; obtain ⟨Ao59, co59, eo59⟩ := Kd.R_slice HO_18.out; subst eo59) | ((with_reducible refine gate_callee (f := 12) rfl ?_); refine goesL_ (some 66) rfl rfl Try.func12 (by kernel_rfl) rfl #[.int .i64 t297, .slice Ao58 x17_24.length co58, .slice Ao59 x18_24.length co59, .int .i64 t302, .int .i64 t307, .int .i64 255] rfl q60_ ?_; (with_reducible refine (separable_Check.calls kj24 t297 _ _ x17_24 _ _ x18_24 t302 t307 255 t309 _ ?side1 ?side2 ?side3 ?side4 A43.out).mono ?_); (case side1 => repeat (first | exact (Kd.R_reads' HO_17.out).2.2 | (with_reducible refine Kd.C_alloc ?_ _) | (with_reducible refine Kd.C_drewN ?_ _) | (with_reducible refine Kd.C_drew ?_))); (case side2 => exact (Kd.R_reads' HO_17.out).2.1); (case side3 => repeat (first | exact (Kd.R_reads' HO_18.out).2.2 | (with_reducible refine Kd.C_alloc ?_ _) | (with_reducible refine Kd.C_drewN ?_ _) | (with_reducible refine Kd.C_drew ?_))); (case side4 => exact (Kd.R_reads' HO_18.out).2.1); rintro e w60 ⟨rfl, hb⟩; refine ⟨_, rfl, ?_⟩; have n0_ := Aside0.mk (Kd.R_below q96_ hb); have n1_ := Aside0.mk (Kd.R_below q97_ hb); have n2_ := Aside0.mk (Kd.R_below q98_ hb); have n3_ := Aside0.mk (Kd.R_below q99_ hb); have n4_ := Aside0.mk (Kd.R_below q100_ hb); have n5_ := Aside0.mk (IsS53.below q49_ hb); have n6_ := Aside0.mk (below_step q36_ hb); clear HO_17; clear HO_18; clear HO296; clear HO301; clear HO306; clear HI267; clear HB; have HO_17 := n0_; have HO_18 := n1_; have HO296 := n2_; have HO301 := n3_; have HO306 := n4_; have HI267 := n5_; have HB := n6_; clear n0_ n1_ n2_ n3_ n4_ n5_ n6_; (try clear hb); (try clear hb2); (try clear hk); (try clear hi)) | ((with_reducible refine gate_callee (f := 13) rfl ?_); refine goesL_ (some 72) rfl rfl Try.func13 (by kernel_rfl) rfl #[.int .i64 t297, .slice Ao58 x17_24.length co58, .slice Ao59 x18_24.length co59, .int .i64 t302, .int .i64 t307, .int .i64 255] rfl q60_ ?_; (with_reducible refine (tilefarmref10_Check.calls kj24 t297 _ _ x17_24 _ _ x18_24 t302 t307 255 t310 _ ?side1 ?side2 ?side3 ?side4 A44.out).mono ?_); (case side1 => repeat (first | exact (Kd.R_reads' HO_17.out).2.2 | (with_reducible refine Kd.C_alloc ?_ _) | (with_reducible refine Kd.C_drewN ?_ _) | (with_reducible refine Kd.C_drew ?_))); (case side2 => exact (Kd.R_reads' HO_17.out).2.1); (case side3 => repeat (first | exact (Kd.R_reads' HO_18.out).2.2 | (with_reducible refine Kd.C_alloc ?_ _) | (with_reducible refine Kd.C_drewN ?_ _) | (with_reducible refine Kd.C_drew ?_))); (case side4 => exact (Kd.R_reads' HO_18.out).2.1); rintro e w61 ⟨rfl, hb⟩; refine ⟨_, rfl, ?_⟩; have n0_ := Aside0.mk (Kd.R_below q96_ hb); have n1_ := Aside0.mk (Kd.R_below q97_ hb); have n2_ := Aside0.mk (Kd.R_below q98_ hb); have n3_ := Aside0.mk (Kd.R_below q99_ hb); have n4_ := Aside0.mk (Kd.R_below q100_ hb); have n5_ := Aside0.mk (IsS53.below q49_ hb); have n6_ := Aside0.mk (below_step q36_ hb); clear HO_17; clear HO_18; clear HO296; clear HO301; clear HO306; clear HI267; clear HB; have HO_17 := n0_; have HO_18 := n1_; have HO296 := n2_; have HO301 := n3_; have HO306 := n4_; have HI267 := n5_; have HB := n6_; clear n0_ n1_ n2_ n3_ n4_ n5_ n6_; (try clear hb); (try clear hb2); (try clear hk); (try clear hi)))
                  go_roundg kj24
                  case measure => have := HK1.out; have := HJ14.out; have := HJ24.out; omega
                  case rel => exact ⟨(wrap64 (x16_1 + 1)), (t308), q109_, H', ⟨by have := HK1.out; have := HJ14.out; have := HJ24.out; omega⟩, ⟨q49_⟩, ⟨q36_⟩⟩
                · rw [if_neg c45] at H
                  have c45b0 : (t309 == t310) = false := beq_eq_false_iff_ne.mpr c45
                  have c45b1 : (t309 != t310) = true := bne_iff_ne.mpr c45
                  exact absurd ((Option.some.inj H).trans HT.out) (by decide)
      · rw [if_neg c10] at H
        have c10b0 : decide (x16_1 < 5) = false := decide_eq_false c10
        clear c10
        by_cases c62 : (l1.length : Int) > 1000
        · rw [if_pos c62] at H
          have c62b0 : decide (1000 < (l1.length : Int)) = true := decide_eq_true c62
          have c62b1 : decide (1000 < l1.length) = true := decide_eq_true (by omega)
          clear c62
          replace H := Option.bind_eq_some_iff.mp H
          obtain ⟨t268, A630, H⟩ := H
          replace H : (some t268) = some r := H
          have A63 := Aside0.mk A630
          clear A630
          obtain rfl := Option.some.inj H
          go_wp2_with (first | (go_at_call 14; (with_reducible refine (tilefarmlaw10_sane.calls k1  t268 _ A63.out).mono ?_); rintro e w64 ⟨rfl, hb⟩; have n0_ := Aside0.mk (IsS53.below q49_ hb); have n1_ := Aside0.mk (below_step q36_ hb); clear HI267; clear HB; have HI267 := n0_; have HB := n1_; clear n0_ n1_; (try clear hb); (try clear hb2); (try clear hk); (try clear hi)))
          go_ret
          exact ⟨q103_, q36_⟩
        · rw [if_neg c62] at H
          have c62b0 : decide (1000 < (l1.length : Int)) = false := decide_eq_false c62
          have c62b1 : decide (1000 < l1.length) = false := decide_eq_false (by omega)
          clear c62
          by_cases c65 : (l2.length : Int) > 1000
          · rw [if_pos c65] at H
            have c65b0 : decide (1000 < (l2.length : Int)) = true := decide_eq_true c65
            have c65b1 : decide (1000 < l2.length) = true := decide_eq_true (by omega)
            clear c65
            replace H := Option.bind_eq_some_iff.mp H
            obtain ⟨t269, A660, H⟩ := H
            replace H : (some t269) = some r := H
            have A66 := Aside0.mk A660
            clear A660
            obtain rfl := Option.some.inj H
            go_wp2_with (first | (go_at_call 14; (with_reducible refine (tilefarmlaw10_sane.calls k1  t269 _ A66.out).mono ?_); rintro e w67 ⟨rfl, hb⟩; have n0_ := Aside0.mk (IsS53.below q49_ hb); have n1_ := Aside0.mk (below_step q36_ hb); clear HI267; clear HB; have HI267 := n0_; have HB := n1_; clear n0_ n1_; (try clear hb); (try clear hb2); (try clear hk); (try clear hi)))
            go_ret
            exact ⟨q103_, q36_⟩
          · rw [if_neg c65] at H
            have c65b0 : decide (1000 < (l2.length : Int)) = false := decide_eq_false c65
            have c65b1 : decide (1000 < l2.length) = false := decide_eq_false (by omega)
            clear c65
            replace H := Option.bind_eq_some_iff.mp H
            obtain ⟨t270, A680, H⟩ := H
            replace H : ((tilefarmref10_Check.f k1 a3 l1 l2 a4 a5 a6).bind fun t271 => (if t270 = t271 then ((tilefarmlaw10_sane.f k1).bind fun t272 => (some t272)) else (some false))) = some r := H
            have A68 := Aside0.mk A680
            clear A680
            replace H := Option.bind_eq_some_iff.mp H
            obtain ⟨t271, A690, H⟩ := H
            replace H : (if t270 = t271 then ((tilefarmlaw10_sane.f k1).bind fun t272 => (some t272)) else (some false)) = some r := H
            have A69 := Aside0.mk A690
            clear A690
            by_cases c70 : t270 = t271
            · rw [if_pos c70] at H
              have c70b0 : (t270 == t271) = true := beq_iff_eq.mpr c70
              have c70b1 : (t270 != t271) = false := bne_eq_false_iff_eq.mpr c70
              clear c70
              replace H := Option.bind_eq_some_iff.mp H
              obtain ⟨t272, A710, H⟩ := H
              replace H : (some t272) = some r := H
              have A71 := Aside0.mk A710
              clear A710
              obtain rfl := Option.some.inj H
              go_wp2_with (first | (go_at_call 12; (with_reducible refine (separable_Check.calls k1 a3 _ _ l1 _ _ l2 a4 a5 a6 t270 _ ?side1 ?side2 ?side3 ?side4 A68.out).mono ?_); (case side1 => repeat (first | exact (Kd.C_below HR1.out HB.out) | (with_reducible refine Kd.C_alloc ?_ _) | (with_reducible refine Kd.C_drewN ?_ _) | (with_reducible refine Kd.C_drew ?_))); (case side2 => exact HC1.out); (case side3 => repeat (first | exact (Kd.C_below HR2.out HB.out) | (with_reducible refine Kd.C_alloc ?_ _) | (with_reducible refine Kd.C_drewN ?_ _) | (with_reducible refine Kd.C_drew ?_))); (case side4 => exact HC2.out); rintro e w72 ⟨rfl, hb⟩; have n0_ := Aside0.mk (IsS53.below q49_ hb); have n1_ := Aside0.mk (below_step q36_ hb); clear HI267; clear HB; have HI267 := n0_; have HB := n1_; clear n0_ n1_; (try clear hb); (try clear hb2); (try clear hk); (try clear hi)) | (go_at_call 13; (with_reducible refine (tilefarmref10_Check.calls k1 a3 _ _ l1 _ _ l2 a4 a5 a6 t271 _ ?side1 ?side2 ?side3 ?side4 A69.out).mono ?_); (case side1 => repeat (first | exact (Kd.C_below HR1.out HB.out) | (with_reducible refine Kd.C_alloc ?_ _) | (with_reducible refine Kd.C_drewN ?_ _) | (with_reducible refine Kd.C_drew ?_))); (case side2 => exact HC1.out); (case side3 => repeat (first | exact (Kd.C_below HR2.out HB.out) | (with_reducible refine Kd.C_alloc ?_ _) | (with_reducible refine Kd.C_drewN ?_ _) | (with_reducible refine Kd.C_drew ?_))); (case side4 => exact HC2.out); rintro e w73 ⟨rfl, hb⟩; have n0_ := Aside0.mk (IsS53.below q49_ hb); have n1_ := Aside0.mk (below_step q36_ hb); clear HI267; clear HB; have HI267 := n0_; have HB := n1_; clear n0_ n1_; (try clear hb); (try clear hb2); (try clear hk); (try clear hi)) | (go_at_call 14; (with_reducible refine (tilefarmlaw10_sane.calls k1  t272 _ A71.out).mono ?_); rintro e w74 ⟨rfl, hb⟩; have n0_ := Aside0.mk (IsS53.below q49_ hb); have n1_ := Aside0.mk (below_step q36_ hb); clear HI267; clear HB; have HI267 := n0_; have HB := n1_; clear n0_ n1_; (try clear hb); (try clear hb2); (try clear hk); (try clear hi)))
              go_ret
              exact ⟨q103_, q36_⟩
            · rw [if_neg c70] at H
              have c70b0 : (t270 == t271) = false := beq_eq_false_iff_ne.mpr c70
              have c70b1 : (t270 != t271) = true := bne_iff_ne.mpr c70
              exact absurd ((Option.some.inj H).trans HT.out) (by decide)


def tilefarmlaw10_SeparableChecks.Pure : Prop := ∀ (l0 : List Int) (l1 : List Int) (l2 : List Int) (a3 : Int) (a4 : Int) (a5 : Int) (a6 : Int), l0.length ≤ maxLen → l0.length * 8 ≤ 140737488351232 → (∀ x ∈ l0, (Lit.int .i64 x).wf = true) → l1.length ≤ maxLen → l1.length * 8 ≤ 140737488351232 → (∀ x ∈ l1, (Lit.int .i64 x).wf = true) → l2.length ≤ maxLen → l2.length * 8 ≤ 140737488351232 → (∀ x ∈ l2, (Lit.int .i64 x).wf = true) → (Lit.int .i64 a3).wf = true → (Lit.int .i64 a4).wf = true → (Lit.int .i64 a5).wf = true → (Lit.int .i64 a6).wf = true → ∃ k, tilefarmlaw10_SeparableChecks.f k l0 l1 l2 a3 a4 a5 a6 = some true
theorem tilefarmlaw10_SeparableChecks.walk (P : tilefarmlaw10_SeparableChecks.Pure) (a0 : Option Addr) (len0 cap0 : Nat) (z0 : List Int) (a1 : Option Addr) (len1 cap1 : Nat) (z1 : List Int) (a2 : Option Addr) (len2 cap2 : Nat) (z2 : List Int) (a3 : Int) (a4 : Int) (a5 : Int) (a6 : Int) (w : World) (w0 : (a0 = none ∧ len0 = 0 ∧ cap0 = 0 ∧ z0 = []) ∨ ∃ x, a0 = some x ∧ len0 ≤ cap0 ∧ cap0 ≤ maxLen ∧ z0.length = cap0 ∧ (∀ i, i < z0.length → w.cell? (x.add i) = some (.int .i64 (z0.getD i 0))) ∧ ∀ n ∈ z0, (Lit.int .i64 n).wf = true) (y0 : len0 * 8 ≤ 140737488351232) (w1 : (a1 = none ∧ len1 = 0 ∧ cap1 = 0 ∧ z1 = []) ∨ ∃ x, a1 = some x ∧ len1 ≤ cap1 ∧ cap1 ≤ maxLen ∧ z1.length = cap1 ∧ (∀ i, i < z1.length → w.cell? (x.add i) = some (.int .i64 (z1.getD i 0))) ∧ ∀ n ∈ z1, (Lit.int .i64 n).wf = true) (y1 : len1 * 8 ≤ 140737488351232) (w2 : (a2 = none ∧ len2 = 0 ∧ cap2 = 0 ∧ z2 = []) ∨ ∃ x, a2 = some x ∧ len2 ≤ cap2 ∧ cap2 ≤ maxLen ∧ z2.length = cap2 ∧ (∀ i, i < z2.length → w.cell? (x.add i) = some (.int .i64 (z2.getD i 0))) ∧ ∀ n ∈ z2, (Lit.int .i64 n).wf = true) (y2 : len2 * 8 ≤ 140737488351232) (w3 : (Lit.int .i64 a3).wf = true) (w4 : (Lit.int .i64 a4).wf = true) (w5 : (Lit.int .i64 a5).wf = true) (w6 : (Lit.int .i64 a6).wf = true) :
    Calls Try.prog 3 #[.slice a0 len0 cap0, .slice a1 len1 cap1, .slice a2 len2 cap2, .int .i64 a3, .int .i64 a4, .int .i64 a5, .int .i64 a6] w fun e w' => e = .returned (.bool true) ∧ Below w.heap.size w w' := by
  obtain ⟨l0, rfl, hr0, hm0, hw0, hc0⟩ := ReadsInt.ofRowC w0
  obtain ⟨l1, rfl, hr1, hm1, hw1, hc1⟩ := ReadsInt.ofRowC w1
  obtain ⟨l2, rfl, hr2, hm2, hw2, hc2⟩ := ReadsInt.ofRowC w2
  obtain ⟨k, h⟩ := P l0 l1 l2 a3 a4 a5 a6 hm0 y0 hw0 hm1 y1 hw1 hm2 y2 hw2 w3 w4 w5 w6
  refine (tilefarmlaw10_SeparableChecks.calls k _ _ l0 _ _ l1 _ _ l2 a3 a4 a5 a6 true w (Kd.C_of_reads (d := (0 : Int)) (h1 := fun _ => rfl) hr0) hc0 (Kd.C_of_reads (d := (0 : Int)) (h1 := fun _ => rfl) hr1) hc1 (Kd.C_of_reads (d := (0 : Int)) (h1 := fun _ => rfl) hr2) hc2 h).mono ?_
  rintro e w' ⟨rfl, hd⟩
  exact ⟨rfl, hd⟩

end Go.Proofs.Ytcfllciehmgikaa.PSeparableChecks
