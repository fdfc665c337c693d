-- Written by a program of the session (wip/tools/myprint.py) over the kit's printer; checked by Lean.
import Derived.Test.YthgmndomnibefaaPConvolveChecksx0
import Derived.Test.YthgmndomnibefaaPConvolveChecksx2
import Derived.Test.YthgmndomnibefaaPConvolveChecksx3
import Derived.Test.YthgmndomnibefaaPConvolveChecksx4
import Derived.Test.YthgmndomnibefaaPConvolveChecksx9
namespace Go.Proofs.Ythgmndomnibefaa.PConvolveChecks
open Go.RowKit Go.Proofs.YthgmndomnibefaaW.PrintWords Go.Proofs.YthgmndomnibefaaW.PrintLast Go.Proofs.YthgmndomnibefaaW.PrintMore
attribute [local go_sem] max2_int min2_int max_two min_two max_three min_three max_four min_four   -- for this text's walks alone
set_option linter.unusedVariables false
set_option linter.unusedSimpArgs false

/-! ### tilefarmlaw9_sane: function 14 -/
def tilefarmlaw9_sane.f (k : Nat)  : Option (Bool) := (convolve_Tile.f k 3 1 8 (([0, 8, 0] : List Int)) 0 0 3 1 (([1, 2, 1] : List Int)) 2 255 0 0 3 1).bind fun bt210 => (if bt210.2.2.2.2 = 0 then (if (bt210.2.2.2.1.length : Int) = 3 then (if 0 < (bt210.2.2.2.1.length : Int) then (if (rd bt210.2.2.2.1 0) = 2 then (if 1 < (bt210.2.2.2.1.length : Int) then (if (rd bt210.2.2.2.1 1) = 4 then ((convolve_Check.f k 8 3 1 (([1, 2, 1] : List Int)) 2 255).bind fun t223 => (some (t223 == 0))) else (some false)) else (none)) else (some false)) else (none)) else (some false)) else (some false))
theorem tilefarmlaw9_sane.mono : ∀ k, LeO (tilefarmlaw9_sane.f k ) (tilefarmlaw9_sane.f (k + 1) ) := by
  intro  k
  unfold tilefarmlaw9_sane.f
  repeat' first
      | (with_reducible exact convolve_Check.mono _ _ _ _ _ _ _)
      | (with_reducible exact convolve_Tile.mono _ _ _ _ _ _ _ _ _ _ _ _ _ _ _ _)
      | (with_reducible exact LeO.refl _)
      | (with_reducible exact LeO.none _)
      | (with_reducible refine LeO.ite ?_ ?_)
      | (with_reducible refine LeO.bind ?_ (fun _ => ?_))
      | exact convolve_Check.mono _ _ _ _ _ _ _
      | exact convolve_Tile.mono _ _ _ _ _ _ _ _ _ _ _ _ _ _ _ _
      | exact LeO.none _
      | refine LeO.ite ?_ ?_
      | refine LeO.bind ?_ (fun _ => ?_)
set_option maxHeartbeats 8000000 in
set_option maxRecDepth 100000 in
theorem tilefarmlaw9_sane.calls (k : Nat)  (r : Bool) (w : World) (h : tilefarmlaw9_sane.f k  = some r) (hT : r = true := by first | rfl | assumption | exact HT.out) :
    Calls Try.prog 14 #[] w fun e w' => e = .returned (.bool r) ∧ Below w.heap.size w w' := by
  have HT := Aside0.mk hT
  clear hT
  have hu35 := Try.underlying35
  have hu38 := Try.underlying38
  have hu33 := Try.underlying33
  have HB := Aside0.mk (Below.refl w.heap.size w)
  have H : ((convolve_Tile.f k 3 1 8 (([0, 8, 0] : List Int)) 0 0 3 1 (([1, 2, 1] : List Int)) 2 255 0 0 3 1).bind fun bt210 => (if bt210.2.2.2.2 = 0 then (if (bt210.2.2.2.1.length : Int) = 3 then (if 0 < (bt210.2.2.2.1.length : Int) then (if (rd bt210.2.2.2.1 0) = 2 then (if 1 < (bt210.2.2.2.1.length : Int) then (if (rd bt210.2.2.2.1 1) = 4 then ((convolve_Check.f k 8 3 1 (([1, 2, 1] : List Int)) 2 255).bind fun t223 => (some (t223 == 0))) else (some false)) else (none)) else (some false)) else (none)) else (some false)) else (some false))) = some r := h
  clear h
  obtain ⟨y203, hy203⟩ : ∃ y_ : List Int, y_ = (([0, 8, 0] : List Int)) := ⟨_, rfl⟩
  replace H : ((convolve_Tile.f k 3 1 8 y203 0 0 3 1 (([1, 2, 1] : List Int)) 2 255 0 0 3 1).bind fun bt210 => (if bt210.2.2.2.2 = 0 then (if (bt210.2.2.2.1.length : Int) = 3 then (if 0 < (bt210.2.2.2.1.length : Int) then (if (rd bt210.2.2.2.1 0) = 2 then (if 1 < (bt210.2.2.2.1.length : Int) then (if (rd bt210.2.2.2.1 1) = 4 then ((convolve_Check.f k 8 3 1 (([1, 2, 1] : List Int)) 2 255).bind fun t223 => (some (t223 == 0))) else (some false)) else (none)) else (some false)) else (none)) else (some false)) else (some false))) = some r := by first | (rw [hy203]; with_reducible exact H) | (have H2_ := (Option.bind_some _ _).symm.trans H; rw [hy203]; with_reducible exact H2_) | (have H2_ := (Option.bind_some _ _).symm.trans H; with_reducible exact H2_) | with_reducible exact H | (rw [hy203]; exact H) | exact H
  have Ny203 := Aside0.mk hy203
  clear hy203
  obtain ⟨y207, hy207⟩ : ∃ y_ : List Int, y_ = (([1, 2, 1] : List Int)) := ⟨_, rfl⟩
  replace H : ((convolve_Tile.f k 3 1 8 y203 0 0 3 1 y207 2 255 0 0 3 1).bind fun bt210 => (if bt210.2.2.2.2 = 0 then (if (bt210.2.2.2.1.length : Int) = 3 then (if 0 < (bt210.2.2.2.1.length : Int) then (if (rd bt210.2.2.2.1 0) = 2 then (if 1 < (bt210.2.2.2.1.length : Int) then (if (rd bt210.2.2.2.1 1) = 4 then ((convolve_Check.f k 8 3 1 (([1, 2, 1] : List Int)) 2 255).bind fun t223 => (some (t223 == 0))) else (some false)) else (none)) else (some false)) else (none)) else (some false)) else (some false))) = some r := by first | (rw [hy207]; with_reducible exact H) | (have H2_ := (Option.bind_some _ _).symm.trans H; rw [hy207]; with_reducible exact H2_) | (have H2_ := (Option.bind_some _ _).symm.trans H; with_reducible exact H2_) | with_reducible exact H | (rw [hy207]; exact H) | exact H
  have Ny207 := Aside0.mk hy207
  clear hy207
  replace H := Option.bind_eq_some_iff.mp H
  obtain ⟨⟨t210, t211, t212, t213, t216⟩, A10, H⟩ := H
  replace H : (if t216 = 0 then (if (t213.length : Int) = 3 then (if 0 < (t213.length : Int) then (if (rd t213 0) = 2 then (if 1 < (t213.length : Int) then (if (rd t213 1) = 4 then ((convolve_Check.f k 8 3 1 (([1, 2, 1] : List Int)) 2 255).bind fun t223 => (some (t223 == 0))) else (some false)) else (none)) else (some false)) else (none)) else (some false)) else (some false)) = some r := H
  have A1 := Aside0.mk A10
  clear A10
  by_cases c2 : t216 = 0
  · rw [if_pos c2] at H
    have c2b0 : (t216 == 0) = true := beq_iff_eq.mpr c2
    have c2b1 : (t216 != 0) = false := bne_eq_false_iff_eq.mpr c2
    clear c2
    by_cases c3 : (t213.length : Int) = 3
    · rw [if_pos c3] at H
      have c3b0 : ((t213.length : Int) == 3) = true := beq_iff_eq.mpr c3
      have c3b1 : ((t213.length : Int) != 3) = false := bne_eq_false_iff_eq.mpr c3
      clear c3
      by_cases c4 : 0 < (t213.length : Int)
      · rw [if_pos c4] at H
        have c4b0 : decide (0 < (t213.length : Int)) = true := decide_eq_true c4
        have c4b1 : decide (0 < t213.length) = true := decide_eq_true (by omega)
        clear c4
        by_cases c5 : (rd t213 0) = 2
        · rw [if_pos c5] at H
          have c5b0 : ((rd t213 0) == 2) = true := beq_iff_eq.mpr c5
          have c5b1 : ((rd t213 0) != 2) = false := bne_eq_false_iff_eq.mpr c5
          clear c5
          by_cases c6 : 1 < (t213.length : Int)
          · rw [if_pos c6] at H
            have c6b0 : decide (1 < (t213.length : Int)) = true := decide_eq_true c6
            have c6b1 : decide (1 < t213.length) = true := decide_eq_true (by omega)
            clear c6
            by_cases c7 : (rd t213 1) = 4
            · rw [if_pos c7] at H
              have c7b0 : ((rd t213 1) == 4) = true := beq_iff_eq.mpr c7
              have c7b1 : ((rd t213 1) != 4) = false := bne_eq_false_iff_eq.mpr c7
              clear c7
              obtain ⟨y220, hy220⟩ : ∃ y_ : List Int, y_ = (([1, 2, 1] : List Int)) := ⟨_, rfl⟩
              replace H : ((convolve_Check.f k 8 3 1 y220 2 255).bind fun t223 => (some (t223 == 0))) = some r := by first | (rw [hy220]; with_reducible exact H) | (have H2_ := (Option.bind_some _ _).symm.trans H; rw [hy220]; with_reducible exact H2_) | (have H2_ := (Option.bind_some _ _).symm.trans H; with_reducible exact H2_) | with_reducible exact H | (rw [hy220]; exact H) | exact H
              have Ny220 := Aside0.mk hy220
              clear hy220
              replace H := Option.bind_eq_some_iff.mp H
              obtain ⟨t223, A80, H⟩ := H
              replace H : (some (t223 == 0)) = some r := H
              have A8 := Aside0.mk A80
              clear A80
              obtain rfl := Option.some.inj H
              go_enter Try.func14, Try.ntmps14
              go_wp2_with (first | ((with_reducible refine gate_dst (N := 4) rfl ?_); (try (refine gate_guard (by rfl) ?_; dsimp only)); refine Kd.R_lit (Kd.int .i64) _ 3 ?hg (N := 4) ?hd (xs := ([0, 8, 0] : List Int)) (inner := [.int .i64 0, .int .i64 8, .int .i64 0]) (ok := fun _ => True) (okp := fun _ => True) ?hr ?hp (fun _ hk => hk) trivial (Below.refl _ _) (Nat.le_refl _) (by simp) ?_; (case hd => rfl); (case hg => rfl); (case hr => first | (go_simp; done) | (go_simp; rfl)); (case hp => exact (Reps.one (show Kd.M (Kd.int .i64) _ _ _ 0 [.int .i64 0] from rfl) (Reps.one (show Kd.M (Kd.int .i64) _ _ _ 8 [.int .i64 8] from rfl) (Reps.one (show Kd.M (Kd.int .i64) _ _ _ 0 [.int .i64 0] from rfl) (Reps.none _ _))))); intro v204 w9 ho10 hb hg_ hnew_; clear hg_ hnew_; (first | rw [← Ny203.out] at ho10 | (simp only [Int.reduceToNat] at ho10; rw [← Ny203.out] at ho10)); have n0_ := Aside0.mk (Kd.R_lower ho10 (below_size (by repeat (first | (with_reducible first | exact HB.out | apply below_alloc | apply pw_below_drewN | apply below_drew1) | exact HB.out)))); have n1_ := Aside0.mk (below_step (by repeat (first | (with_reducible first | exact HB.out | apply below_alloc | apply pw_below_drewN | apply below_drew1) | exact HB.out)) hb); clear HB; have HO205 := n0_; have HB := n1_; clear n0_ n1_; clear hb ho10; obtain ⟨Ao11, co11, eo11⟩ := Kd.R_slice HO205.out; subst eo11) | ((with_reducible refine gate_dst (N := 1) rfl ?_); (try (refine gate_guard (by rfl) ?_; dsimp only)); refine box_event ?hg (N := 1) ?hd (cs := #[.int .i64 0, .int .i64 0, .int .i64 0, .slice none 0 0]) (t := 35) ?hr ?_; (case hd => rfl); (case hg => rfl); (case hr => first | (go_simp; done) | (go_simp; rfl)); intro gb206 hg w12 hbox hb; have n0_ := Aside0.mk (Kd.R_below (by (with_reducible repeat (first | apply Kd.R_alloc | apply Kd.R_drewN | apply Kd.R_drew)); exact HO205.out) hb); have n1_ := Aside0.mk (below_step (by repeat (first | (with_reducible first | exact HB.out | apply below_alloc | apply pw_below_drewN | apply below_drew1) | exact HB.out)) hb); have n2_ := Aside0.mk (hbox); have n3_ := Aside0.mk ((by rw [hg]; exact (below_size (by repeat (first | (with_reducible first | exact HB.out | apply below_alloc | apply pw_below_drewN | apply below_drew1) | exact HB.out))) : w.heap.size ≤ gb206)); have n4_ := Aside0.mk ((by rw [hg]; exact (below_size (by repeat (first | (with_reducible first | exact HB.out | apply below_alloc | apply pw_below_drewN | apply below_drew1) | exact HB.out))) : w.heap.size ≤ gb206)); clear HO205; clear HB; have HO205 := n0_; have HB := n1_; have BK206 := n2_; have GW206 := n3_; have GE206 := n4_; clear n0_ n1_ n2_ n3_ n4_; clear hb hbox hg; have hcz13_0 : w12.cell? ⟨gb206, 0, none⟩ = some (.int .i64 0) := (blk_cell BK206.out 0).trans rfl; have hcz13_1 : w12.cell? ⟨gb206, 1, none⟩ = some (.int .i64 0) := (blk_cell BK206.out 1).trans rfl; have hcz13_2 : w12.cell? ⟨gb206, 2, none⟩ = some (.int .i64 0) := (blk_cell BK206.out 2).trans rfl; have hcz13_3 : w12.cell? ⟨gb206, 3, none⟩ = some (.slice none 0 0) := (blk_cell BK206.out 3).trans rfl; have hfz13_0 := blk_frozen BK206.out 0; have hfz13_1 := blk_frozen BK206.out 1; have hfz13_2 := blk_frozen BK206.out 2; have hfz13_3 := blk_frozen BK206.out 3) | ((with_reducible refine gate_dst (N := 9) rfl ?_); (try (refine gate_guard (by rfl) ?_; dsimp only)); refine Kd.R_lit (Kd.int .i64) _ 3 ?hg (N := 9) ?hd (xs := ([1, 2, 1] : List Int)) (inner := [.int .i64 1, .int .i64 2, .int .i64 1]) (ok := fun _ => True) (okp := fun _ => True) ?hr ?hp (fun _ hk => hk) trivial (Below.refl _ _) (Nat.le_refl _) (by simp) ?_; (case hd => rfl); (case hg => rfl); (case hr => first | (go_simp; done) | (go_simp; rfl)); (case hp => exact (Reps.one (show Kd.M (Kd.int .i64) _ _ _ 1 [.int .i64 1] from rfl) (Reps.one (show Kd.M (Kd.int .i64) _ _ _ 2 [.int .i64 2] from rfl) (Reps.one (show Kd.M (Kd.int .i64) _ _ _ 1 [.int .i64 1] from rfl) (Reps.none _ _))))); intro v208 w14 ho15 hb hg_ hnew_; clear hg_ hnew_; (first | rw [← Ny207.out] at ho15 | (simp only [Int.reduceToNat] at ho15; rw [← Ny207.out] at ho15)); have n0_ := Aside0.mk (Kd.R_elder' (by (with_reducible repeat (first | apply Kd.R_alloc | apply Kd.R_drewN | apply Kd.R_drew)); exact (Kd.R_mono (Kd.R_far (p := ⟨gb206, 3, none⟩) (Kd.R_far (p := ⟨gb206, 2, none⟩) (Kd.R_far (p := ⟨gb206, 1, none⟩) (Kd.R_far (p := ⟨gb206, 0, none⟩) (Kd.R_types HO205.out BK206.out (by decide)) (fun _ hk => hk.2) (.int .i64 3)) (fun _ hk => hk.2) (.int .i64 1)) (fun _ hk => hk.2) (.int .i64 8)) (fun _ hk => hk.2) (.slice Ao11 y203.length co11)) (fun _ h_ => h_.1))) (Kd.R_base ho15) hb); have n1_ := Aside0.mk (Kd.R_lower (Kd.R_new' ho15 (Kd.R_lt (by (with_reducible repeat (first | apply Kd.R_alloc | apply Kd.R_drewN | apply Kd.R_drew)); exact (Kd.R_mono (Kd.R_far (p := ⟨gb206, 3, none⟩) (Kd.R_far (p := ⟨gb206, 2, none⟩) (Kd.R_far (p := ⟨gb206, 1, none⟩) (Kd.R_far (p := ⟨gb206, 0, none⟩) (Kd.R_types HO205.out BK206.out (by decide)) (fun _ hk => hk.2) (.int .i64 3)) (fun _ hk => hk.2) (.int .i64 1)) (fun _ hk => hk.2) (.int .i64 8)) (fun _ hk => hk.2) (.slice Ao11 y203.length co11)) (fun _ h_ => h_.1))))) (below_size (by repeat (first | (with_reducible first | exact HB.out | apply below_alloc | apply pw_below_drewN | apply below_drew1 | refine below_set ?_ GE206.out) | exact HB.out)))); have n2_ := Aside0.mk (blk_below (g := gb206) (o := .cells #[.int .i64 3, .int .i64 1, .int .i64 8, .slice Ao11 y203.length co11] 35 (0, 0)) (by (with_reducible repeat (first | refine blk_drewN ?_ _ | refine blk_drew ?_ | refine blk_alloc ?_ _)); refine blk_put (cs := #[.int .i64 3, .int .i64 1, .int .i64 8, .slice none 0 0]) ?_ 3 _ rfl; (with_reducible repeat (first | refine blk_drewN ?_ _ | refine blk_drew ?_ | refine blk_alloc ?_ _)); refine blk_put (cs := #[.int .i64 3, .int .i64 1, .int .i64 0, .slice none 0 0]) ?_ 2 _ rfl; (with_reducible repeat (first | refine blk_drewN ?_ _ | refine blk_drew ?_ | refine blk_alloc ?_ _)); refine blk_put (cs := #[.int .i64 3, .int .i64 0, .int .i64 0, .slice none 0 0]) ?_ 1 _ rfl; (with_reducible repeat (first | refine blk_drewN ?_ _ | refine blk_drew ?_ | refine blk_alloc ?_ _)); refine blk_put (cs := #[.int .i64 0, .int .i64 0, .int .i64 0, .slice none 0 0]) ?_ 0 _ rfl; (with_reducible repeat (first | refine blk_drewN ?_ _ | refine blk_drew ?_ | refine blk_alloc ?_ _)); exact BK206.out) hb); have n3_ := Aside0.mk (below_step (by repeat (first | (with_reducible first | exact HB.out | apply below_alloc | apply pw_below_drewN | apply below_drew1 | refine below_set ?_ GE206.out) | exact HB.out)) hb); clear HO205; clear BK206; clear HB; have HO205 := n0_; have HO209 := n1_; have BK206 := n2_; have HB := n3_; clear n0_ n1_ n2_ n3_; clear hb ho15; obtain ⟨Ao16, co16, eo16⟩ := Kd.R_slice HO209.out; subst eo16) | ((with_reducible refine gate_callee (f := 20) rfl ?_); refine goesL_ (some 11) rfl rfl Try.func20 (by kernel_rfl) rfl #[.agg #[.int .i64 3, .int .i64 1, .int .i64 8, .slice Ao11 y203.length co11], .agg #[.int .i64 0, .int .i64 0], .int .i64 3, .int .i64 1, .slice Ao16 y207.length co16, .int .i64 2, .int .i64 255, .agg #[.int .i64 0, .int .i64 0, .int .i64 3, .int .i64 1]] rfl (by (try simp only [List.map_toArray, List.map_cons, List.map_nil]); first | done | rfl | (simp only [List.length_drop, List.length_take]; rfl)) ?_; (with_reducible refine (convolve_Tile.calls k 3 1 8 _ _ y203 0 0 3 1 _ _ y207 2 255 0 0 3 1 t210 t211 t212 t213 t216 _ ?side1 ?side2 ?side3 ?side4 A1.out).mono ?_); (case side1 => repeat (first | exact (Kd.R_reads' HO205.out).2.2 | (with_reducible refine Kd.C_alloc ?_ _) | (with_reducible refine Kd.C_drewN ?_ _) | (with_reducible refine Kd.C_drew ?_))); (case side2 => exact (Kd.R_reads' HO205.out).2.1); (case side3 => repeat (first | exact (Kd.R_reads' HO209.out).2.2 | (with_reducible refine Kd.C_alloc ?_ _) | (with_reducible refine Kd.C_drewN ?_ _) | (with_reducible refine Kd.C_drew ?_))); (case side4 => exact (Kd.R_reads' HO209.out).2.1); rintro e w17 ⟨v214, rfl, ho0, hb⟩; refine ⟨_, rfl, ?_⟩; have n0_ := Aside0.mk (Kd.R_elder' (by (with_reducible repeat (first | apply Kd.R_alloc | apply Kd.R_drewN | apply Kd.R_drew)); exact HO205.out) (Kd.R_base ho0) hb); have n1_ := Aside0.mk (Kd.R_elder' (by (with_reducible repeat (first | apply Kd.R_alloc | apply Kd.R_drewN | apply Kd.R_drew)); exact HO209.out) (Kd.R_base ho0) hb); have n2_ := Aside0.mk (Kd.R_lower (Kd.R_new' (Kd.R_new' ho0 (Kd.R_lt (by (with_reducible repeat (first | apply Kd.R_alloc | apply Kd.R_drewN | apply Kd.R_drew)); exact HO205.out))) (Kd.R_lt (by (with_reducible repeat (first | apply Kd.R_alloc | apply Kd.R_drewN | apply Kd.R_drew)); exact HO209.out))) (below_size (by repeat (first | (with_reducible first | exact HB.out | apply below_alloc | apply pw_below_drewN | apply below_drew1 | refine below_set ?_ GE206.out) | exact HB.out)))); have n3_ := Aside0.mk (blk_below (g := gb206) (o := .cells #[.int .i64 3, .int .i64 1, .int .i64 8, .slice Ao11 y203.length co11] 35 (0, 0)) (by (with_reducible repeat (first | refine blk_drewN ?_ _ | refine blk_drew ?_ | refine blk_alloc ?_ _)); exact BK206.out) hb); have n4_ := Aside0.mk (below_step (by repeat (first | (with_reducible first | exact HB.out | apply below_alloc | apply pw_below_drewN | apply below_drew1 | refine below_set ?_ GE206.out) | exact HB.out)) hb); clear HO205; clear HO209; clear BK206; clear HB; have HO205 := n0_; have HO209 := n1_; have HO215 := n2_; have BK206 := n3_; have HB := n4_; clear n0_ n1_ n2_ n3_ n4_; (try clear hb); (try clear hb2); (try clear hk); (try clear hi); (try clear ho0)) | ((with_reducible refine gate_dst (N := 2) rfl ?_); (try (refine gate_guard (by rfl) ?_; dsimp only)); refine box_event ?hg (N := 2) ?hd (cs := #[.int .i64 0, .int .i64 0, .int .i64 0, .slice none 0 0]) (t := 35) ?hr ?_; (case hd => rfl); (case hg => rfl); (case hr => first | (go_simp; done) | (go_simp; rfl)); intro gb217 hg w18 hbox hb; have n0_ := Aside0.mk (Kd.R_below (by (with_reducible repeat (first | apply Kd.R_alloc | apply Kd.R_drewN | apply Kd.R_drew)); exact HO205.out) hb); have n1_ := Aside0.mk (Kd.R_below (by (with_reducible repeat (first | apply Kd.R_alloc | apply Kd.R_drewN | apply Kd.R_drew)); exact HO209.out) hb); have n2_ := Aside0.mk (Kd.R_below (by (with_reducible repeat (first | apply Kd.R_alloc | apply Kd.R_drewN | apply Kd.R_drew)); exact HO215.out) hb); have n3_ := Aside0.mk (blk_below (g := gb206) (o := .cells #[.int .i64 3, .int .i64 1, .int .i64 8, .slice Ao11 y203.length co11] 35 (0, 0)) (by (with_reducible repeat (first | refine blk_drewN ?_ _ | refine blk_drew ?_ | refine blk_alloc ?_ _)); exact BK206.out) hb); have n4_ := Aside0.mk (below_step (by repeat (first | (with_reducible first | exact HB.out | apply below_alloc | apply pw_below_drewN | apply below_drew1 | refine below_set ?_ GE206.out) | exact HB.out)) hb); have n5_ := Aside0.mk (hbox); have n6_ := Aside0.mk ((by rw [hg]; exact (below_size (by repeat (first | (with_reducible first | exact HB.out | apply below_alloc | apply pw_below_drewN | apply below_drew1 | refine below_set ?_ GE206.out) | exact HB.out))) : w.heap.size ≤ gb217)); have n7_ := Aside0.mk ((by rw [hg]; exact (below_size (by repeat (first | (with_reducible first | exact HB.out | apply below_alloc | apply pw_below_drewN | apply below_drew1 | refine below_set ?_ GE206.out) | exact HB.out))) : w.heap.size ≤ gb217)); have n8_ := Aside0.mk ((by rw [hg]; exact Nat.ne_of_lt (blk_lt (g := gb206) (o := .cells #[.int .i64 3, .int .i64 1, .int .i64 8, .slice Ao11 y203.length co11] 35 (0, 0)) (by (with_reducible repeat (first | refine blk_drewN ?_ _ | refine blk_drew ?_ | refine blk_alloc ?_ _)); exact BK206.out)) : gb206 ≠ gb217)); have n9_ := Aside0.mk ((by rw [hg]; exact Nat.ne_of_gt (blk_lt (g := gb206) (o := .cells #[.int .i64 3, .int .i64 1, .int .i64 8, .slice Ao11 y203.length co11] 35 (0, 0)) (by (with_reducible repeat (first | refine blk_drewN ?_ _ | refine blk_drew ?_ | refine blk_alloc ?_ _)); exact BK206.out)) : gb217 ≠ gb206)); clear HO205; clear HO209; clear HO215; clear BK206; clear HB; have HO205 := n0_; have HO209 := n1_; have HO215 := n2_; have BK206 := n3_; have HB := n4_; have BK217 := n5_; have GW217 := n6_; have GE217 := n7_; have NB206_217 := n8_; have NB217_206 := n9_; clear n0_ n1_ n2_ n3_ n4_ n5_ n6_ n7_ n8_ n9_; clear hb hbox hg; have hnb19 := NB217_206.out; have hnc19 := NB206_217.out; have hcz20_0 : w18.cell? ⟨gb217, 0, none⟩ = some (.int .i64 0) := (blk_cell BK217.out 0).trans rfl; have hcz20_1 : w18.cell? ⟨gb217, 1, none⟩ = some (.int .i64 0) := (blk_cell BK217.out 1).trans rfl; have hcz20_2 : w18.cell? ⟨gb217, 2, none⟩ = some (.int .i64 0) := (blk_cell BK217.out 2).trans rfl; have hcz20_3 : w18.cell? ⟨gb217, 3, none⟩ = some (.slice none 0 0) := (blk_cell BK217.out 3).trans rfl; have hfz20_0 := blk_frozen BK217.out 0; have hfz20_1 := blk_frozen BK217.out 1; have hfz20_2 := blk_frozen BK217.out 2; have hfz20_3 := blk_frozen BK217.out 3; obtain ⟨Ao21, co21, eo21⟩ := Kd.R_slice HO215.out; subst eo21; have p218 : 0 ≤ (0 : Int) := (by omega); have q218 : 0 < (t213.length : Int) := of_decide_eq_true (by first | (with_reducible assumption) | assumption); obtain ⟨ad218, e218, hx218_0⟩ := Kd.at_int (Kd.R_reads' HO215.out).2.2 0 p218 q218; cases e218; have qi218 : (0 < t213.length) = True := eq_true (by omega); (try rw [show ((0 : Int)).toNat = 0 from rfl] at hx218_0); (try rw [Addr.add_zero'] at hx218_0); have hn218_0 : ad218.block ≠ gb217 := Kd.own_blk (Kd.R_ne HO215.out BK217.out (by decide)); have hn218_1 : ad218.block ≠ gb217 := Kd.own_blk (Kd.R_ne HO215.out BK217.out (by decide)); have hn218_2 : ad218.block ≠ gb217 := Kd.own_blk (Kd.R_ne HO215.out BK217.out (by decide)); have hn218_3 : ad218.block ≠ gb217 := Kd.own_blk (Kd.R_ne HO215.out BK217.out (by decide)); replace hx218_0 := (cell_far (p := ⟨gb217, 0, none⟩) (by first | (rw [add_block]; exact hn218_0) | (show (Addr.add _ _).block ≠ _; rw [add_block]; exact hn218_0) | exact hn218_0) (.int .i64 t210)).trans hx218_0; replace hx218_0 := (cell_far (p := ⟨gb217, 1, none⟩) (by first | (rw [add_block]; exact hn218_1) | (show (Addr.add _ _).block ≠ _; rw [add_block]; exact hn218_1) | exact hn218_1) (.int .i64 t211)).trans hx218_0; replace hx218_0 := (cell_far (p := ⟨gb217, 2, none⟩) (by first | (rw [add_block]; exact hn218_2) | (show (Addr.add _ _).block ≠ _; rw [add_block]; exact hn218_2) | exact hn218_2) (.int .i64 t212)).trans hx218_0; replace hx218_0 := (cell_far (p := ⟨gb217, 3, none⟩) (by first | (rw [add_block]; exact hn218_3) | (show (Addr.add _ _).block ≠ _; rw [add_block]; exact hn218_3) | exact hn218_3) (.slice (some ad218) t213.length co21)).trans hx218_0; clear hn218_0; clear hn218_1; clear hn218_2; clear hn218_3; replace p218 := eq_true p218; replace q218 := eq_true q218; have p219 : 0 ≤ (1 : Int) := (by omega); have q219 : 1 < (t213.length : Int) := of_decide_eq_true (by first | (with_reducible assumption) | assumption); obtain ⟨ad219, e219, hx219_0⟩ := Kd.at_int (Kd.R_reads' HO215.out).2.2 1 p219 q219; obtain rfl : ad218 = ad219 := (by injection e219); (try simp only [show (1 : Int).toNat = 1 from rfl, Nat.reduceMul, Nat.reduceEqDiff, Go.Addr.add, ↓reduceIte] at hx219_0); have qi219 : (1 < t213.length) = True := eq_true (by omega); (try rw [show ((1 : Int)).toNat = 1 from rfl] at hx219_0); have hn219_0 : ad218.block ≠ gb217 := Kd.own_blk (Kd.R_ne HO215.out BK217.out (by decide)); have hn219_1 : ad218.block ≠ gb217 := Kd.own_blk (Kd.R_ne HO215.out BK217.out (by decide)); have hn219_2 : ad218.block ≠ gb217 := Kd.own_blk (Kd.R_ne HO215.out BK217.out (by decide)); have hn219_3 : ad218.block ≠ gb217 := Kd.own_blk (Kd.R_ne HO215.out BK217.out (by decide)); replace hx219_0 := (cell_far (p := ⟨gb217, 0, none⟩) (by first | (rw [add_block]; exact hn219_0) | (show (Addr.add _ _).block ≠ _; rw [add_block]; exact hn219_0) | exact hn219_0) (.int .i64 t210)).trans hx219_0; replace hx219_0 := (cell_far (p := ⟨gb217, 1, none⟩) (by first | (rw [add_block]; exact hn219_1) | (show (Addr.add _ _).block ≠ _; rw [add_block]; exact hn219_1) | exact hn219_1) (.int .i64 t211)).trans hx219_0; replace hx219_0 := (cell_far (p := ⟨gb217, 2, none⟩) (by first | (rw [add_block]; exact hn219_2) | (show (Addr.add _ _).block ≠ _; rw [add_block]; exact hn219_2) | exact hn219_2) (.int .i64 t212)).trans hx219_0; replace hx219_0 := (cell_far (p := ⟨gb217, 3, none⟩) (by first | (rw [add_block]; exact hn219_3) | (show (Addr.add _ _).block ≠ _; rw [add_block]; exact hn219_3) | exact hn219_3) (.slice (some ad218) t213.length co21)).trans hx219_0; clear hn219_0; clear hn219_1; clear hn219_2; clear hn219_3; replace p219 := eq_true p219; replace q219 := eq_true q219) | ((with_reducible refine gate_dst (N := 37) rfl ?_); (try (refine gate_guard (by rfl) ?_; dsimp only)); refine Kd.R_lit (Kd.int .i64) _ 3 ?hg (N := 37) ?hd (xs := ([1, 2, 1] : List Int)) (inner := [.int .i64 1, .int .i64 2, .int .i64 1]) (ok := fun _ => True) (okp := fun _ => True) ?hr ?hp (fun _ hk => hk) trivial (Below.refl _ _) (Nat.le_refl _) (by simp) ?_; (case hd => rfl); (case hg => rfl); (case hr => first | (go_simp; done) | (go_simp; rfl)); (case hp => exact (Reps.one (show Kd.M (Kd.int .i64) _ _ _ 1 [.int .i64 1] from rfl) (Reps.one (show Kd.M (Kd.int .i64) _ _ _ 2 [.int .i64 2] from rfl) (Reps.one (show Kd.M (Kd.int .i64) _ _ _ 1 [.int .i64 1] from rfl) (Reps.none _ _))))); intro v221 w22 ho23 hb hg_ hnew_; clear hg_ hnew_; (first | rw [← Ny220.out] at ho23 | (simp only [Int.reduceToNat] at ho23; rw [← Ny220.out] at ho23)); have n0_ := Aside0.mk (Kd.R_elder' (by (with_reducible repeat (first | apply Kd.R_alloc | apply Kd.R_drewN | apply Kd.R_drew)); exact (Kd.R_mono (Kd.R_far (p := ⟨gb217, 3, none⟩) (Kd.R_far (p := ⟨gb217, 2, none⟩) (Kd.R_far (p := ⟨gb217, 1, none⟩) (Kd.R_far (p := ⟨gb217, 0, none⟩) (Kd.R_types HO205.out BK217.out (by decide)) (fun _ hk => hk.2) (.int .i64 t210)) (fun _ hk => hk.2) (.int .i64 t211)) (fun _ hk => hk.2) (.int .i64 t212)) (fun _ hk => hk.2) (.slice (some ad218) t213.length co21)) (fun _ h_ => h_.1))) (Kd.R_base ho23) hb); have n1_ := Aside0.mk (Kd.R_elder' (by (with_reducible repeat (first | apply Kd.R_alloc | apply Kd.R_drewN | apply Kd.R_drew)); exact (Kd.R_mono (Kd.R_far (p := ⟨gb217, 3, none⟩) (Kd.R_far (p := ⟨gb217, 2, none⟩) (Kd.R_far (p := ⟨gb217, 1, none⟩) (Kd.R_far (p := ⟨gb217, 0, none⟩) (Kd.R_types HO209.out BK217.out (by decide)) (fun _ hk => hk.2) (.int .i64 t210)) (fun _ hk => hk.2) (.int .i64 t211)) (fun _ hk => hk.2) (.int .i64 t212)) (fun _ hk => hk.2) (.slice (some ad218) t213.length co21)) (fun _ h_ => h_.1))) (Kd.R_base ho23) hb); have n2_ := Aside0.mk (Kd.R_elder' (by (with_reducible repeat (first | apply Kd.R_alloc | apply Kd.R_drewN | apply Kd.R_drew)); exact (Kd.R_mono (Kd.R_far (p := ⟨gb217, 3, none⟩) (Kd.R_far (p := ⟨gb217, 2, none⟩) (Kd.R_far (p := ⟨gb217, 1, none⟩) (Kd.R_far (p := ⟨gb217, 0, none⟩) (Kd.R_types HO215.out BK217.out (by decide)) (fun _ hk => hk.2) (.int .i64 t210)) (fun _ hk => hk.2) (.int .i64 t211)) (fun _ hk => hk.2) (.int .i64 t212)) (fun _ hk => hk.2) (.slice (some ad218) t213.length co21)) (fun _ h_ => h_.1))) (Kd.R_base ho23) hb); have n3_ := Aside0.mk (Kd.R_lower (Kd.R_new' (Kd.R_new' (Kd.R_new' ho23 (Kd.R_lt (by (with_reducible repeat (first | apply Kd.R_alloc | apply Kd.R_drewN | apply Kd.R_drew)); exact (Kd.R_mono (Kd.R_far (p := ⟨gb217, 3, none⟩) (Kd.R_far (p := ⟨gb217, 2, none⟩) (Kd.R_far (p := ⟨gb217, 1, none⟩) (Kd.R_far (p := ⟨gb217, 0, none⟩) (Kd.R_types HO205.out BK217.out (by decide)) (fun _ hk => hk.2) (.int .i64 t210)) (fun _ hk => hk.2) (.int .i64 t211)) (fun _ hk => hk.2) (.int .i64 t212)) (fun _ hk => hk.2) (.slice (some ad218) t213.length co21)) (fun _ h_ => h_.1))))) (Kd.R_lt (by (with_reducible repeat (first | apply Kd.R_alloc | apply Kd.R_drewN | apply Kd.R_drew)); exact (Kd.R_mono (Kd.R_far (p := ⟨gb217, 3, none⟩) (Kd.R_far (p := ⟨gb217, 2, none⟩) (Kd.R_far (p := ⟨gb217, 1, none⟩) (Kd.R_far (p := ⟨gb217, 0, none⟩) (Kd.R_types HO209.out BK217.out (by decide)) (fun _ hk => hk.2) (.int .i64 t210)) (fun _ hk => hk.2) (.int .i64 t211)) (fun _ hk => hk.2) (.int .i64 t212)) (fun _ hk => hk.2) (.slice (some ad218) t213.length co21)) (fun _ h_ => h_.1))))) (Kd.R_lt (by (with_reducible repeat (first | apply Kd.R_alloc | apply Kd.R_drewN | apply Kd.R_drew)); exact (Kd.R_mono (Kd.R_far (p := ⟨gb217, 3, none⟩) (Kd.R_far (p := ⟨gb217, 2, none⟩) (Kd.R_far (p := ⟨gb217, 1, none⟩) (Kd.R_far (p := ⟨gb217, 0, none⟩) (Kd.R_types HO215.out BK217.out (by decide)) (fun _ hk => hk.2) (.int .i64 t210)) (fun _ hk => hk.2) (.int .i64 t211)) (fun _ hk => hk.2) (.int .i64 t212)) (fun _ hk => hk.2) (.slice (some ad218) t213.length co21)) (fun _ h_ => h_.1))))) (below_size (by repeat (first | (with_reducible first | exact HB.out | apply below_alloc | apply pw_below_drewN | apply below_drew1 | refine below_set ?_ GE206.out | refine below_set ?_ GE217.out) | exact HB.out)))); have n4_ := Aside0.mk (blk_below (g := gb206) (o := .cells #[.int .i64 3, .int .i64 1, .int .i64 8, .slice Ao11 y203.length co11] 35 (0, 0)) (by (with_reducible repeat (first | refine blk_drewN ?_ _ | refine blk_drew ?_ | refine blk_alloc ?_ _)); refine blk_far ?_ NB206_217.out _; (with_reducible repeat (first | refine blk_drewN ?_ _ | refine blk_drew ?_ | refine blk_alloc ?_ _)); refine blk_far ?_ NB206_217.out _; (with_reducible repeat (first | refine blk_drewN ?_ _ | refine blk_drew ?_ | refine blk_alloc ?_ _)); refine blk_far ?_ NB206_217.out _; (with_reducible repeat (first | refine blk_drewN ?_ _ | refine blk_drew ?_ | refine blk_alloc ?_ _)); refine blk_far ?_ NB206_217.out _; (with_reducible repeat (first | refine blk_drewN ?_ _ | refine blk_drew ?_ | refine blk_alloc ?_ _)); exact BK206.out) hb); have n5_ := Aside0.mk (blk_below (g := gb217) (o := .cells #[.int .i64 t210, .int .i64 t211, .int .i64 t212, .slice (some ad218) t213.length co21] 35 (0, 0)) (by (with_reducible repeat (first | refine blk_drewN ?_ _ | refine blk_drew ?_ | refine blk_alloc ?_ _)); refine blk_put (cs := #[.int .i64 t210, .int .i64 t211, .int .i64 t212, .slice none 0 0]) ?_ 3 _ rfl; (with_reducible repeat (first | refine blk_drewN ?_ _ | refine blk_drew ?_ | refine blk_alloc ?_ _)); refine blk_put (cs := #[.int .i64 t210, .int .i64 t211, .int .i64 0, .slice none 0 0]) ?_ 2 _ rfl; (with_reducible repeat (first | refine blk_drewN ?_ _ | refine blk_drew ?_ | refine blk_alloc ?_ _)); refine blk_put (cs := #[.int .i64 t210, .int .i64 0, .int .i64 0, .slice none 0 0]) ?_ 1 _ rfl; (with_reducible repeat (first | refine blk_drewN ?_ _ | refine blk_drew ?_ | refine blk_alloc ?_ _)); refine blk_put (cs := #[.int .i64 0, .int .i64 0, .int .i64 0, .slice none 0 0]) ?_ 0 _ rfl; (with_reducible repeat (first | refine blk_drewN ?_ _ | refine blk_drew ?_ | refine blk_alloc ?_ _)); exact BK217.out) hb); have n6_ := Aside0.mk (below_step (by repeat (first | (with_reducible first | exact HB.out | apply below_alloc | apply pw_below_drewN | apply below_drew1 | refine below_set ?_ GE206.out | refine below_set ?_ GE217.out) | exact HB.out)) hb); clear HO205; clear HO209; clear HO215; clear BK206; clear BK217; clear HB; have HO205 := n0_; have HO209 := n1_; have HO215 := n2_; have HO222 := n3_; have BK206 := n4_; have BK217 := n5_; have HB := n6_; clear n0_ n1_ n2_ n3_ n4_ n5_ n6_; clear hb ho23; obtain ⟨Ao24, co24, eo24⟩ := Kd.R_slice HO222.out; subst eo24) | (go_at_call 12; (with_reducible refine (convolve_Check.calls k 8 3 1 _ _ y220 2 255 t223 _ ?side1 ?side2 A8.out).mono ?_); (case side1 => repeat (first | exact (Kd.R_reads' HO222.out).2.2 | (with_reducible refine Kd.C_alloc ?_ _) | (with_reducible refine Kd.C_drewN ?_ _) | (with_reducible refine Kd.C_drew ?_))); (case side2 => exact (Kd.R_reads' HO222.out).2.1); rintro e w25 ⟨rfl, hb⟩; have n0_ := Aside0.mk (Kd.R_below (by (with_reducible repeat (first | apply Kd.R_alloc | apply Kd.R_drewN | apply Kd.R_drew)); exact HO205.out) hb); have n1_ := Aside0.mk (Kd.R_below (by (with_reducible repeat (first | apply Kd.R_alloc | apply Kd.R_drewN | apply Kd.R_drew)); exact HO209.out) hb); have n2_ := Aside0.mk (Kd.R_below (by (with_reducible repeat (first | apply Kd.R_alloc | apply Kd.R_drewN | apply Kd.R_drew)); exact HO215.out) hb); have n3_ := Aside0.mk (Kd.R_below (by (with_reducible repeat (first | apply Kd.R_alloc | apply Kd.R_drewN | apply Kd.R_drew)); exact HO222.out) hb); have n4_ := Aside0.mk (blk_below (g := gb206) (o := .cells #[.int .i64 3, .int .i64 1, .int .i64 8, .slice Ao11 y203.length co11] 35 (0, 0)) (by (with_reducible repeat (first | refine blk_drewN ?_ _ | refine blk_drew ?_ | refine blk_alloc ?_ _)); exact BK206.out) hb); have n5_ := Aside0.mk (blk_below (g := gb217) (o := .cells #[.int .i64 t210, .int .i64 t211, .int .i64 t212, .slice (some ad218) t213.length co21] 35 (0, 0)) (by (with_reducible repeat (first | refine blk_drewN ?_ _ | refine blk_drew ?_ | refine blk_alloc ?_ _)); exact BK217.out) hb); have n6_ := Aside0.mk (below_step (by repeat (first | (with_reducible first | exact HB.out | apply below_alloc | apply pw_below_drewN | apply below_drew1 | refine below_set ?_ GE206.out | refine below_set ?_ GE217.out) | exact HB.out)) hb); clear HO205; clear HO209; clear HO215; clear HO222; clear BK206; clear BK217; clear HB; have HO205 := n0_; have HO209 := n1_; have HO215 := n2_; have HO222 := n3_; have BK206 := n4_; have BK217 := n5_; have HB := n6_; clear n0_ n1_ n2_ n3_ n4_ n5_ n6_; (try clear hb); (try clear hb2); (try clear hk); (try clear hi)))
              go_ret
              exact ⟨by first | rfl | (simp [errW_none, errW_some] <;> rfl) | (simp [*, errW_none, errW_some] <;> rfl), by repeat (first | (with_reducible first | exact HB.out | apply below_alloc | apply pw_below_drewN | apply below_drew1 | refine below_set ?_ GE206.out | refine below_set ?_ GE217.out) | exact HB.out)⟩
            · rw [if_neg c7] at H
              have c7b0 : ((rd t213 1) == 4) = false := beq_eq_false_iff_ne.mpr c7
              have c7b1 : ((rd t213 1) != 4) = true := bne_iff_ne.mpr c7
              exact absurd ((Option.some.inj H).trans HT.out) (by decide)
          · rw [if_neg c6] at H
            exact absurd H (by simp)
        · rw [if_neg c5] at H
          have c5b0 : ((rd t213 0) == 2) = false := beq_eq_false_iff_ne.mpr c5
          have c5b1 : ((rd t213 0) != 2) = true := bne_iff_ne.mpr c5
          exact absurd ((Option.some.inj H).trans HT.out) (by decide)
      · rw [if_neg c4] at H
        exact absurd H (by simp)
    · rw [if_neg c3] at H
      have c3b0 : ((t213.length : Int) == 3) = false := beq_eq_false_iff_ne.mpr c3
      have c3b1 : ((t213.length : Int) != 3) = true := bne_iff_ne.mpr c3
      exact absurd ((Option.some.inj H).trans HT.out) (by decide)
  · rw [if_neg c2] at H
    have c2b0 : (t216 == 0) = false := beq_eq_false_iff_ne.mpr c2
    have c2b1 : (t216 != 0) = true := bne_iff_ne.mpr c2
    exact absurd ((Option.some.inj H).trans HT.out) (by decide)

/-! ### tilefarmlaw9_ConvolveChecks: function 3 -/
mutual
def tilefarmlaw9_ConvolveChecks.l0 : Nat → List Int → Int → Int → Int → Int → Int → Int → List Int → Int → Option (Bool)
  | 0, _, _, _, _, _, _, _, _, _ => none
  | k + 1, x1, x2, x3, x4, x5, x6, x16, x227000, x227001 => if x16 < 5 then ((tilefarmgen_Tape_Next.f x227000 x227001 11).bind fun bt231 => ((tilefarmgen_Tape_Next.f x227000 bt231.2 5).bind fun bt233 => ((tilefarmgen_Tape_Next.f x227000 bt233.2 8).bind fun bt235 => ((tilefarmgen_Tape_Weights.f k x227000 bt235.2 (wrap64 ((wrap64 (bt231.1 * bt233.1)) + (wrap64 (Int.tdiv bt235.1 7))))).bind fun bt237 => (if (bt237.1.length : Int) > 0 then ((tilefarmgen_Tape_Next.f x227000 bt237.2 4).bind fun bt241 => (tilefarmlaw9_ConvolveChecks.j1 k x1 x2 x3 x4 x5 x6 x16 bt231.1 bt233.1 bt237.1 (bt241.1 == 3) x227000 bt241.2)) else (tilefarmlaw9_ConvolveChecks.j1 k x1 x2 x3 x4 x5 x6 x16 bt231.1 bt233.1 bt237.1 false x227000 bt237.2)))))) else (if (x1.length : Int) > 1000 then ((tilefarmlaw9_sane.f k).bind fun t227 => (some t227)) else ((convolve_Check.f k x2 x3 x4 x1 x5 x6).bind fun t228 => ((tilefarmref9_Check.f k x2 x3 x4 x1 x5 x6).bind fun t229 => (if t228 = t229 then ((tilefarmlaw9_sane.f k).bind fun t230 => (some t230)) else (some false)))))
def tilefarmlaw9_ConvolveChecks.j1 : Nat → List Int → Int → Int → Int → Int → Int → Int → Int → Int → List Int → Bool → List Int → Int → Option (Bool)
  | 0, _, _, _, _, _, _, _, _, _, _, _, _, _ => none
  | k + 1, x1, x2, x3, x4, x5, x6, x16, x17, x18, x19, x49, x227000, x227001 => if x49 = true then ((tilefarmgen_Tape_Pick.f x227000 x227001 (([32767, 32768, (-32767)] : List Int))).bind fun bt246 => (if 0 < (x19.length : Int) then (tilefarmlaw9_ConvolveChecks.j2 k x1 x2 x3 x4 x5 x6 x16 x17 x18 (x19.set (0 : Int).toNat bt246.1) x227000 bt246.2) else (none))) else (tilefarmlaw9_ConvolveChecks.j2 k x1 x2 x3 x4 x5 x6 x16 x17 x18 x19 x227000 x227001)
def tilefarmlaw9_ConvolveChecks.j2 : Nat → List Int → Int → Int → Int → Int → Int → Int → Int → Int → List Int → List Int → Int → Option (Bool)
  | 0, _, _, _, _, _, _, _, _, _, _, _, _ => none
  | k + 1, x1, x2, x3, x4, x5, x6, x16, x17, x18, x19, x227000, x227001 => (tilefarmgen_Tape_Pick.f x227000 x227001 (([255, 65535, 0, 4294967296, 4294967297] : List Int))).bind fun bt252 => ((tilefarmgen_Tape_Pick.f x227000 bt252.2 (([0, 24, 25, (-1)] : List Int))).bind fun bt257 => ((tilefarmgen_Tape_Pick.f x227000 bt257.2 (([255, 0, 4294967296] : List Int))).bind fun bt262 => ((convolve_Check.f k bt252.1 x17 x18 x19 bt257.1 bt262.1).bind fun t264 => ((tilefarmref9_Check.f k bt252.1 x17 x18 x19 bt257.1 bt262.1).bind fun t265 => (if t264 = t265 then (tilefarmlaw9_ConvolveChecks.l0 k x1 x2 x3 x4 x5 x6 (wrap64 (x16 + 1)) x227000 bt262.2) else (some false))))))
end
def tilefarmlaw9_ConvolveChecks.f (k : Nat) (l0 : List Int) (l1 : List Int) (a2 : Int) (a3 : Int) (a4 : Int) (a5 : Int) (a6 : Int) : Option (Bool) := (tilefarmgen_New.f l0).bind fun bt224 => (tilefarmlaw9_ConvolveChecks.l0 k l1 a2 a3 a4 a5 a6 0 bt224.1 bt224.2)
theorem tilefarmlaw9_ConvolveChecks.mono_l : ∀ k, (∀ y0 y1 y2 y3 y4 y5 y6 y7 y8, LeO (tilefarmlaw9_ConvolveChecks.l0 k y0 y1 y2 y3 y4 y5 y6 y7 y8) (tilefarmlaw9_ConvolveChecks.l0 (k + 1) y0 y1 y2 y3 y4 y5 y6 y7 y8)) ∧ (∀ y0 y1 y2 y3 y4 y5 y6 y7 y8 y9 y10 y11 y12, LeO (tilefarmlaw9_ConvolveChecks.j1 k y0 y1 y2 y3 y4 y5 y6 y7 y8 y9 y10 y11 y12) (tilefarmlaw9_ConvolveChecks.j1 (k + 1) y0 y1 y2 y3 y4 y5 y6 y7 y8 y9 y10 y11 y12)) ∧ (∀ y0 y1 y2 y3 y4 y5 y6 y7 y8 y9 y10 y11, LeO (tilefarmlaw9_ConvolveChecks.j2 k y0 y1 y2 y3 y4 y5 y6 y7 y8 y9 y10 y11) (tilefarmlaw9_ConvolveChecks.j2 (k + 1) y0 y1 y2 y3 y4 y5 y6 y7 y8 y9 y10 y11))
  | 0 => ⟨fun _ _ _ _ _ _ _ _ _ r h => by simp [tilefarmlaw9_ConvolveChecks.l0] at h, fun _ _ _ _ _ _ _ _ _ _ _ _ _ r h => by simp [tilefarmlaw9_ConvolveChecks.j1] at h, fun _ _ _ _ _ _ _ _ _ _ _ _ r h => by simp [tilefarmlaw9_ConvolveChecks.j2] at h⟩
  | k + 1 => by
    obtain ⟨ih0, ih1, ih2⟩ := tilefarmlaw9_ConvolveChecks.mono_l k
    refine ⟨?_, ?_, ?_⟩
    · intro y0 y1 y2 y3 y4 y5 y6 y7 y8
      unfold tilefarmlaw9_ConvolveChecks.l0
      repeat' first
      | (with_reducible exact ih0 _ _ _ _ _ _ _ _ _)
      | (with_reducible exact ih1 _ _ _ _ _ _ _ _ _ _ _ _ _)
      | (with_reducible exact ih2 _ _ _ _ _ _ _ _ _ _ _ _)
      | (with_reducible exact convolve_Check.mono _ _ _ _ _ _ _)
      | (with_reducible exact tilefarmgen_Tape_Weights.mono _ _ _ _)
      | (with_reducible exact tilefarmlaw9_sane.mono _)
      | (with_reducible exact tilefarmref9_Check.mono _ _ _ _ _ _ _)
      | (with_reducible exact LeO.refl _)
      | (with_reducible exact LeO.none _)
      | (with_reducible refine LeO.ite ?_ ?_)
      | (with_reducible refine LeO.bind ?_ (fun _ => ?_))
      | exact ih0 _ _ _ _ _ _ _ _ _
      | exact ih1 _ _ _ _ _ _ _ _ _ _ _ _ _
      | exact ih2 _ _ _ _ _ _ _ _ _ _ _ _
      | exact convolve_Check.mono _ _ _ _ _ _ _
      | exact tilefarmgen_Tape_Weights.mono _ _ _ _
      | exact tilefarmlaw9_sane.mono _
      | exact tilefarmref9_Check.mono _ _ _ _ _ _ _
      | exact LeO.none _
      | refine LeO.ite ?_ ?_
      | refine LeO.bind ?_ (fun _ => ?_)
    · intro y0 y1 y2 y3 y4 y5 y6 y7 y8 y9 y10 y11 y12
      unfold tilefarmlaw9_ConvolveChecks.j1
      repeat' first
      | (with_reducible exact ih0 _ _ _ _ _ _ _ _ _)
      | (with_reducible exact ih1 _ _ _ _ _ _ _ _ _ _ _ _ _)
      | (with_reducible exact ih2 _ _ _ _ _ _ _ _ _ _ _ _)
      | (with_reducible exact convolve_Check.mono _ _ _ _ _ _ _)
      | (with_reducible exact tilefarmgen_Tape_Weights.mono _ _ _ _)
      | (with_reducible exact tilefarmlaw9_sane.mono _)
      | (with_reducible exact tilefarmref9_Check.mono _ _ _ _ _ _ _)
      | (with_reducible exact LeO.refl _)
      | (with_reducible exact LeO.none _)
      | (with_reducible refine LeO.ite ?_ ?_)
      | (with_reducible refine LeO.bind ?_ (fun _ => ?_))
      | exact ih0 _ _ _ _ _ _ _ _ _
      | exact ih1 _ _ _ _ _ _ _ _ _ _ _ _ _
      | exact ih2 _ _ _ _ _ _ _ _ _ _ _ _
      | exact convolve_Check.mono _ _ _ _ _ _ _
      | exact tilefarmgen_Tape_Weights.mono _ _ _ _
      | exact tilefarmlaw9_sane.mono _
      | exact tilefarmref9_Check.mono _ _ _ _ _ _ _
      | exact LeO.none _
      | refine LeO.ite ?_ ?_
      | refine LeO.bind ?_ (fun _ => ?_)
    · intro y0 y1 y2 y3 y4 y5 y6 y7 y8 y9 y10 y11
      unfold tilefarmlaw9_ConvolveChecks.j2
      repeat' first
      | (with_reducible exact ih0 _ _ _ _ _ _ _ _ _)
      | (with_reducible exact ih1 _ _ _ _ _ _ _ _ _ _ _ _ _)
      | (with_reducible exact ih2 _ _ _ _ _ _ _ _ _ _ _ _)
      | (with_reducible exact convolve_Check.mono _ _ _ _ _ _ _)
      | (with_reducible exact tilefarmgen_Tape_Weights.mono _ _ _ _)
      | (with_reducible exact tilefarmlaw9_sane.mono _)
      | (with_reducible exact tilefarmref9_Check.mono _ _ _ _ _ _ _)
      | (with_reducible exact LeO.refl _)
      | (with_reducible exact LeO.none _)
      | (with_reducible refine LeO.ite ?_ ?_)
      | (with_reducible refine LeO.bind ?_ (fun _ => ?_))
      | exact ih0 _ _ _ _ _ _ _ _ _
      | exact ih1 _ _ _ _ _ _ _ _ _ _ _ _ _
      | exact ih2 _ _ _ _ _ _ _ _ _ _ _ _
      | exact convolve_Check.mono _ _ _ _ _ _ _
      | exact tilefarmgen_Tape_Weights.mono _ _ _ _
      | exact tilefarmlaw9_sane.mono _
      | exact tilefarmref9_Check.mono _ _ _ _ _ _ _
      | exact LeO.none _
      | refine LeO.ite ?_ ?_
      | refine LeO.bind ?_ (fun _ => ?_)
theorem tilefarmlaw9_ConvolveChecks.mono : ∀ a0 a1 a2 a3 a4 a5 a6 k, LeO (tilefarmlaw9_ConvolveChecks.f k a0 a1 a2 a3 a4 a5 a6) (tilefarmlaw9_ConvolveChecks.f (k + 1) a0 a1 a2 a3 a4 a5 a6) := by
  intro a0 a1 a2 a3 a4 a5 a6 k
  obtain ⟨ih0, ih1, ih2⟩ := tilefarmlaw9_ConvolveChecks.mono_l k
  unfold tilefarmlaw9_ConvolveChecks.f
  repeat' first
      | (with_reducible exact ih0 _ _ _ _ _ _ _ _ _)
      | (with_reducible exact ih1 _ _ _ _ _ _ _ _ _ _ _ _ _)
      | (with_reducible exact ih2 _ _ _ _ _ _ _ _ _ _ _ _)
      | (with_reducible exact convolve_Check.mono _ _ _ _ _ _ _)
      | (with_reducible exact tilefarmgen_Tape_Weights.mono _ _ _ _)
      | (with_reducible exact tilefarmlaw9_sane.mono _)
      | (with_reducible exact tilefarmref9_Check.mono _ _ _ _ _ _ _)
      | (with_reducible exact LeO.refl _)
      | (with_reducible exact LeO.none _)
      | (with_reducible refine LeO.ite ?_ ?_)
      | (with_reducible refine LeO.bind ?_ (fun _ => ?_))
      | exact ih0 _ _ _ _ _ _ _ _ _
      | exact ih1 _ _ _ _ _ _ _ _ _ _ _ _ _
      | exact ih2 _ _ _ _ _ _ _ _ _ _ _ _
      | exact convolve_Check.mono _ _ _ _ _ _ _
      | exact tilefarmgen_Tape_Weights.mono _ _ _ _
      | exact tilefarmlaw9_sane.mono _
      | exact tilefarmref9_Check.mono _ _ _ _ _ _ _
      | exact LeO.none _
      | refine LeO.ite ?_ ?_
      | refine LeO.bind ?_ (fun _ => ?_)
set_option maxHeartbeats 8000000 in
set_option maxRecDepth 100000 in
theorem tilefarmlaw9_ConvolveChecks.calls (k : Nat) (A0 : Option Addr) (c0 : Nat) (l0 : List Int) (A1 : Option Addr) (c1 : Nat) (l1 : List Int) (a2 : Int) (a3 : Int) (a4 : Int) (a5 : Int) (a6 : Int) (r : Bool) (w : World) (hr0 : Kd.C (Kd.int .i64) w A0 l0.length l0) (hc0 : l0.length ≤ c0) (hr1 : Kd.C (Kd.int .i64) w A1 l1.length l1) (hc1 : l1.length ≤ c1) (h : tilefarmlaw9_ConvolveChecks.f k l0 l1 a2 a3 a4 a5 a6 = some r) (hT : r = true := by first | rfl | assumption | exact HT.out) :
    Calls Try.prog 3 #[.slice A0 l0.length c0, .slice A1 l1.length c1, .int .i64 a2, .int .i64 a3, .int .i64 a4, .int .i64 a5, .int .i64 a6] w fun e w' => e = .returned (.bool r) ∧ Below w.heap.size w w' := by
  have HT := Aside0.mk hT
  clear hT
  have HR0 := Aside0.mk hr0
  have HC0 := Aside0.mk hc0
  clear hr0 hc0
  have HR1 := Aside0.mk hr1
  have HC1 := Aside0.mk hc1
  clear hr1 hc1
  have HB := Aside0.mk (Below.refl w.heap.size w)
  have H : ((tilefarmgen_New.f l0).bind fun bt224 => (tilefarmlaw9_ConvolveChecks.l0 k l1 a2 a3 a4 a5 a6 0 bt224.1 bt224.2)) = some r := h
  clear h
  replace H := Option.bind_eq_some_iff.mp H
  obtain ⟨⟨t224, t225⟩, A80, H⟩ := H
  replace H : (tilefarmlaw9_ConvolveChecks.l0 k l1 a2 a3 a4 a5 a6 0 t224 t225) = some r := H
  have A8 := Aside0.mk A80
  clear A80
  have H' := Aside0.mk H
  clear H
  go_enter Try.func3, Try.ntmps3
  go_wp2_with (first | ((with_reducible refine gate_callee (f := 8) rfl ?_); refine goesL_ (some 24) rfl rfl Try.func8 (by kernel_rfl) rfl #[.slice A0 l0.length c0] rfl (by (try simp only [List.map_toArray, List.map_cons, List.map_nil]); first | done | rfl | (simp only [List.length_drop, List.length_take]; rfl)) ?_; (with_reducible refine (tilefarmgen_New.calls _ _ l0 t224 t225 w _ ?side1 ?side2 ?side3 A8.out).mono ?_); (case side1 => repeat (first | (with_reducible first | exact HB.out | apply below_alloc | apply pw_below_drewN | apply below_drew1) | exact HB.out)); (case side2 => exact HR0.out); (case side3 => exact HC0.out); rintro e w9 ⟨g226, rfl, hi, hb, hb2⟩; refine ⟨_, rfl, ?_⟩; have n0_ := Aside0.mk (hb); have n1_ := Aside0.mk (hi); clear HB; have HB := n0_; have HI226 := n1_; clear n0_ n1_; (try clear hb); (try clear hb2); (try clear hk); (try clear hi)))
  go_loopg [16] k (fun kq v16 w' => ∃ (x16_1 : Int) (x227001_1 : Int), v16 = .int .i64 x16_1 ∧ Aside0 (tilefarmlaw9_ConvolveChecks.l0 kq l1 a2 a3 a4 a5 a6 x16_1 t224 x227001_1 = some r) ∧ Aside0 (kq ≤ k) ∧ Aside0 (IsS54 w w' g226 t224 x227001_1) ∧ Aside0 (Below w.heap.size w w'))
  case atStart => exact ⟨(0), (t225), (by first | rfl | (simp; done) | (simp [*]; done)), H', ⟨Nat.le_refl _⟩, ⟨by repeat (first | (with_reducible first | exact HI226.out | apply IsS54.alloc | apply IsS54.drewN | apply IsS54.drew | apply IsS54.set_1) | exact HI226.out)⟩, ⟨by repeat (first | (with_reducible first | exact HB.out | apply below_alloc | apply pw_below_drewN | apply below_drew1 | refine below_set ?_ (IsS54.ge HI226.out)) | exact HB.out)⟩⟩
  case round =>
    clear H'
    try clear c1
    try clear p2
    try clear c3
    try clear c8
    obtain ⟨x16_1, x227001_1, rfl, HA, HK1, HI226, HB⟩ := hrel
    cases gk with
    | zero => exact absurd HA.out (by simp [tilefarmlaw9_ConvolveChecks.l0])
    | succ k1 =>
      have H := HA.out
      clear HA
      simp only [tilefarmlaw9_ConvolveChecks.l0] at H
      by_cases c10 : x16_1 < 5
      · rw [if_pos c10] at H
        have c10b0 : decide (x16_1 < 5) = true := decide_eq_true c10
        clear c10
        replace H := Option.bind_eq_some_iff.mp H
        obtain ⟨⟨t231, t232⟩, A110, H⟩ := H
        replace H : ((tilefarmgen_Tape_Next.f t224 t232 5).bind fun bt233 => ((tilefarmgen_Tape_Next.f t224 bt233.2 8).bind fun bt235 => ((tilefarmgen_Tape_Weights.f k1 t224 bt235.2 (wrap64 ((wrap64 (t231 * bt233.1)) + (wrap64 (Int.tdiv bt235.1 7))))).bind fun bt237 => (if (bt237.1.length : Int) > 0 then ((tilefarmgen_Tape_Next.f t224 bt237.2 4).bind fun bt241 => (tilefarmlaw9_ConvolveChecks.j1 k1 l1 a2 a3 a4 a5 a6 x16_1 t231 bt233.1 bt237.1 (bt241.1 == 3) t224 bt241.2)) else (tilefarmlaw9_ConvolveChecks.j1 k1 l1 a2 a3 a4 a5 a6 x16_1 t231 bt233.1 bt237.1 false t224 bt237.2))))) = some r := H
        have A11 := Aside0.mk A110
        clear A110
        replace H := Option.bind_eq_some_iff.mp H
        obtain ⟨⟨t233, t234⟩, A120, H⟩ := H
        replace H : ((tilefarmgen_Tape_Next.f t224 t234 8).bind fun bt235 => ((tilefarmgen_Tape_Weights.f k1 t224 bt235.2 (wrap64 ((wrap64 (t231 * t233)) + (wrap64 (Int.tdiv bt235.1 7))))).bind fun bt237 => (if (bt237.1.length : Int) > 0 then ((tilefarmgen_Tape_Next.f t224 bt237.2 4).bind fun bt241 => (tilefarmlaw9_ConvolveChecks.j1 k1 l1 a2 a3 a4 a5 a6 x16_1 t231 t233 bt237.1 (bt241.1 == 3) t224 bt241.2)) else (tilefarmlaw9_ConvolveChecks.j1 k1 l1 a2 a3 a4 a5 a6 x16_1 t231 t233 bt237.1 false t224 bt237.2)))) = some r := H
        have A12 := Aside0.mk A120
        clear A120
        replace H := Option.bind_eq_some_iff.mp H
        obtain ⟨⟨t235, t236⟩, A130, H⟩ := H
        replace H : ((tilefarmgen_Tape_Weights.f k1 t224 t236 (wrap64 ((wrap64 (t231 * t233)) + (wrap64 (Int.tdiv t235 7))))).bind fun bt237 => (if (bt237.1.length : Int) > 0 then ((tilefarmgen_Tape_Next.f t224 bt237.2 4).bind fun bt241 => (tilefarmlaw9_ConvolveChecks.j1 k1 l1 a2 a3 a4 a5 a6 x16_1 t231 t233 bt237.1 (bt241.1 == 3) t224 bt241.2)) else (tilefarmlaw9_ConvolveChecks.j1 k1 l1 a2 a3 a4 a5 a6 x16_1 t231 t233 bt237.1 false t224 bt237.2))) = some r := H
        have A13 := Aside0.mk A130
        clear A130
        replace H := Option.bind_eq_some_iff.mp H
        obtain ⟨⟨t237, t240⟩, A140, H⟩ := H
        replace H : (if (t237.length : Int) > 0 then ((tilefarmgen_Tape_Next.f t224 t240 4).bind fun bt241 => (tilefarmlaw9_ConvolveChecks.j1 k1 l1 a2 a3 a4 a5 a6 x16_1 t231 t233 t237 (bt241.1 == 3) t224 bt241.2)) else (tilefarmlaw9_ConvolveChecks.j1 k1 l1 a2 a3 a4 a5 a6 x16_1 t231 t233 t237 false t224 t240)) = some r := H
        have A14 := Aside0.mk A140
        clear A140
        have HC15 := Aside0.mk H
        clear H
        go_upto_region 7 with (first | ((with_reducible refine gate_callee (f := 9) rfl ?_); refine goesL_ (some 30) rfl rfl Try.func9 (by kernel_rfl) rfl #[.pointer (some ⟨g226, 0, none⟩), .int .i64 11] rfl (by (try simp only [List.map_toArray, List.map_cons, List.map_nil]); first | done | rfl | (simp only [List.length_drop, List.length_take]; rfl)) ?_; (with_reducible refine (tilefarmgen_Tape_Next.calls g226 t224 x227001_1 11 t231 t232 w _ ?side1 ?side2 A11.out).mono ?_); (case side1 => repeat (first | (with_reducible first | exact HI226.out | apply IsS54.alloc | apply IsS54.drewN | apply IsS54.drew | apply IsS54.set_1) | exact HI226.out)); (case side2 => repeat (first | (with_reducible first | exact HB.out | apply below_alloc | apply pw_below_drewN | apply below_drew1 | refine below_set ?_ (IsS54.ge HI226.out)) | exact HB.out)); rintro e w16 ⟨rfl, hi, hb, hk⟩; refine ⟨_, rfl, ?_⟩; have n0_ := Aside0.mk (hb); have n1_ := Aside0.mk (hi); clear HB; clear HI226; have HB := n0_; have HI226 := n1_; clear n0_ n1_; (try clear hb); (try clear hb2); (try clear hk); (try clear hi)) | ((with_reducible refine gate_callee (f := 9) rfl ?_); refine goesL_ (some 32) rfl rfl Try.func9 (by kernel_rfl) rfl #[.pointer (some ⟨g226, 0, none⟩), .int .i64 5] rfl (by (try simp only [List.map_toArray, List.map_cons, List.map_nil]); first | done | rfl | (simp only [List.length_drop, List.length_take]; rfl)) ?_; (with_reducible refine (tilefarmgen_Tape_Next.calls g226 t224 t232 5 t233 t234 w _ ?side1 ?side2 A12.out).mono ?_); (case side1 => repeat (first | (with_reducible first | exact HI226.out | apply IsS54.alloc | apply IsS54.drewN | apply IsS54.drew | apply IsS54.set_1) | exact HI226.out)); (case side2 => repeat (first | (with_reducible first | exact HB.out | apply below_alloc | apply pw_below_drewN | apply below_drew1 | refine below_set ?_ (IsS54.ge HI226.out)) | exact HB.out)); rintro e w17 ⟨rfl, hi, hb, hk⟩; refine ⟨_, rfl, ?_⟩; have n0_ := Aside0.mk (hb); have n1_ := Aside0.mk (hi); clear HB; clear HI226; have HB := n0_; have HI226 := n1_; clear n0_ n1_; (try clear hb); (try clear hb2); (try clear hk); (try clear hi)) | ((with_reducible refine gate_callee (f := 9) rfl ?_); refine goesL_ (some 38) rfl rfl Try.func9 (by kernel_rfl) rfl #[.pointer (some ⟨g226, 0, none⟩), .int .i64 8] rfl (by (try simp only [List.map_toArray, List.map_cons, List.map_nil]); first | done | rfl | (simp only [List.length_drop, List.length_take]; rfl)) ?_; (with_reducible refine (tilefarmgen_Tape_Next.calls g226 t224 t234 8 t235 t236 w _ ?side1 ?side2 A13.out).mono ?_); (case side1 => repeat (first | (with_reducible first | exact HI226.out | apply IsS54.alloc | apply IsS54.drewN | apply IsS54.drew | apply IsS54.set_1) | exact HI226.out)); (case side2 => repeat (first | (with_reducible first | exact HB.out | apply below_alloc | apply pw_below_drewN | apply below_drew1 | refine below_set ?_ (IsS54.ge HI226.out)) | exact HB.out)); rintro e w18 ⟨rfl, hi, hb, hk⟩; refine ⟨_, rfl, ?_⟩; have n0_ := Aside0.mk (hb); have n1_ := Aside0.mk (hi); clear HB; clear HI226; have HB := n0_; have HI226 := n1_; clear n0_ n1_; (try clear hb); (try clear hb2); (try clear hk); (try clear hi)) | ((with_reducible refine gate_callee (f := 10) rfl ?_); refine goesL_ (some 41) rfl rfl Try.func10 (by kernel_rfl) rfl #[.pointer (some ⟨g226, 0, none⟩), .int .i64 (wrap64 ((wrap64 (t231 * t233)) + (wrap64 (Int.tdiv t235 7))))] rfl (by (try simp only [List.map_toArray, List.map_cons, List.map_nil]); first | done | rfl | (simp only [List.length_drop, List.length_take]; rfl)) ?_; (with_reducible refine (tilefarmgen_Tape_Weights.calls k1 g226 t224 t236 (wrap64 ((wrap64 (t231 * t233)) + (wrap64 (Int.tdiv t235 7)))) t237 t240 w _ ?side1 ?side2 A14.out).mono ?_); (case side1 => repeat (first | (with_reducible first | exact HI226.out | apply IsS54.alloc | apply IsS54.drewN | apply IsS54.drew | apply IsS54.set_1) | exact HI226.out)); (case side2 => repeat (first | (with_reducible first | exact HB.out | apply below_alloc | apply pw_below_drewN | apply below_drew1 | refine below_set ?_ (IsS54.ge HI226.out)) | exact HB.out)); rintro e w19 ⟨v238, rfl, ho0, hi, hb, hk⟩; refine ⟨_, rfl, ?_⟩; have n0_ := Aside0.mk (Kd.R_lower ho0 (below_size (by repeat (first | (with_reducible first | exact HB.out | apply below_alloc | apply pw_below_drewN | apply below_drew1 | refine below_set ?_ (IsS54.ge HI226.out)) | exact HB.out)))); have n1_ := Aside0.mk (hb); have n2_ := Aside0.mk (hi); clear HB; clear HI226; have HO239 := n0_; have HB := n1_; have HI226 := n2_; clear n0_ n1_ n2_; (try clear hb); (try clear hb2); (try clear hk); (try clear hi); (try clear ho0)))
        (try simp only [Act.put, List.setIfInBounds_toArray, List.set_cons_zero, List.set_cons_succ])
        go_cut [49] (fun v49 wc => ∃ (kq : Nat) (x49_14 : Bool) (x227001_14 : Int), v49 = .bool x49_14 ∧ Aside0 (tilefarmlaw9_ConvolveChecks.j1 kq l1 a2 a3 a4 a5 a6 x16_1 t231 t233 t237 x49_14 t224 x227001_14 = some r) ∧ Aside0 (kq ≤ k1) ∧ Aside0 (Kd.R (Kd.int .i64) 3 wc w.heap.size (fun _ => True) v238 t237) ∧ Aside0 (IsS54 w wc g226 t224 x227001_14) ∧ Aside0 (Below w.heap.size w wc))
        case first =>
          have H := HC15.out
          clear HC15
          by_cases c20 : (t237.length : Int) > 0
          · rw [if_pos c20] at H
            have c20b0 : decide (0 < (t237.length : Int)) = true := decide_eq_true c20
            have c20b1 : decide (0 < t237.length) = true := decide_eq_true (by omega)
            clear c20
            (first | rw [c20b0] | (simp only [i64_w, i32_w]; rw [c20b0]) | skip)
            replace H := Option.bind_eq_some_iff.mp H
            obtain ⟨⟨t241, t242⟩, A210, H⟩ := H
            replace H : (tilefarmlaw9_ConvolveChecks.j1 k1 l1 a2 a3 a4 a5 a6 x16_1 t231 t233 t237 (t241 == 3) t224 t242) = some r := H
            have A21 := Aside0.mk A210
            clear A210
            have H' := Aside0.mk H
            clear H
            obtain ⟨Ao22, co22, eo22⟩ := Kd.R_slice HO239.out
            subst eo22
            go_wp2_with (first | (go_at_call 9; (with_reducible refine (tilefarmgen_Tape_Next.calls g226 t224 t240 4 t241 t242 w _ ?side1 ?side2 A21.out).mono ?_); (case side1 => repeat (first | (with_reducible first | exact HI226.out | apply IsS54.alloc | apply IsS54.drewN | apply IsS54.drew | apply IsS54.set_1) | exact HI226.out)); (case side2 => repeat (first | (with_reducible first | exact HB.out | apply below_alloc | apply pw_below_drewN | apply below_drew1 | refine below_set ?_ (IsS54.ge HI226.out)) | exact HB.out)); rintro e w23 ⟨rfl, hi, hb, hk⟩; have n0_ := Aside0.mk (Kd.R_mono (Kd.R_keep (IsS54.apart (show IsS54 w _ g226 t224 t240 from by repeat (first | (with_reducible first | exact HI226.out | apply IsS54.alloc | apply IsS54.drewN | apply IsS54.drew | apply IsS54.set_1) | exact HI226.out)) (by (with_reducible repeat (first | apply Kd.R_alloc | apply Kd.R_drewN | apply Kd.R_drew)); exact HO239.out) (by decide)) hk (fun _ h => h.2)) (fun _ h => h.1)); have n1_ := Aside0.mk (hb); have n2_ := Aside0.mk (hi); clear HO239; clear HB; clear HI226; have HO239 := n0_; have HB := n1_; have HI226 := n2_; clear n0_ n1_ n2_; (try clear hb); (try clear hb2); (try clear hk); (try clear hi)))
            go_meet
            case rel => exact ⟨_, ((t241 == 3)), (t242), (by first | rfl | (simp; done) | (simp [*]; done)), H', ⟨by have := HK1.out; first | omega | exact Nat.le_refl _⟩, ⟨by (with_reducible repeat (first | apply Kd.R_alloc | apply Kd.R_drewN | apply Kd.R_drew)); exact HO239.out⟩, ⟨by repeat (first | (with_reducible first | exact HI226.out | apply IsS54.alloc | apply IsS54.drewN | apply IsS54.drew | apply IsS54.set_1) | exact HI226.out)⟩, ⟨by repeat (first | (with_reducible first | exact HB.out | apply below_alloc | apply pw_below_drewN | apply below_drew1 | refine below_set ?_ (IsS54.ge HI226.out)) | exact HB.out)⟩⟩
          · rw [if_neg c20] at H
            have c20b0 : decide (0 < (t237.length : Int)) = false := decide_eq_false c20
            have c20b1 : decide (0 < t237.length) = false := decide_eq_false (by omega)
            clear c20
            (first | rw [c20b0] | (simp only [i64_w, i32_w]; rw [c20b0]) | skip)
            have H' := Aside0.mk H
            clear H
            obtain ⟨Ao24, co24, eo24⟩ := Kd.R_slice HO239.out
            subst eo24
            go_wp2
            go_meet
            case rel => exact ⟨_, (false), (t240), (by first | rfl | (simp; done) | (simp [*]; done)), H', ⟨by have := HK1.out; first | omega | exact Nat.le_refl _⟩, ⟨by (with_reducible repeat (first | apply Kd.R_alloc | apply Kd.R_drewN | apply Kd.R_drew)); exact HO239.out⟩, ⟨by repeat (first | (with_reducible first | exact HI226.out | apply IsS54.alloc | apply IsS54.drewN | apply IsS54.drew | apply IsS54.set_1) | exact HI226.out)⟩, ⟨by repeat (first | (with_reducible first | exact HB.out | apply below_alloc | apply pw_below_drewN | apply below_drew1 | refine below_set ?_ (IsS54.ge HI226.out)) | exact HB.out)⟩⟩
        case rest =>
          clear HC15
          try clear c1
          try clear c2
          try clear p2
          try clear c3
          try clear p6
          try clear c8
          try clear c9
          try clear c10
          try clear c10b0
          try clear c20
          try clear c20b0
          try clear c20b1
          try clear p2
          obtain ⟨kq, x49_14, x227001_14, rfl, HA, HJ14, HO_19, HI226, HB⟩ := hcut
          cases kq with
          | zero => exact absurd HA.out (by simp [tilefarmlaw9_ConvolveChecks.j1])
          | succ kj14 =>
            have H := HA.out
            clear HA
            simp only [tilefarmlaw9_ConvolveChecks.j1] at H
            have HC25 := Aside0.mk H
            clear H
            go_upto_if 49 with (fail)
            go_cut [] (fun wc => ∃ (kq : Nat) (x19_24 : List Int) (x227001_24 : Int), Aside0 (tilefarmlaw9_ConvolveChecks.j2 kq l1 a2 a3 a4 a5 a6 x16_1 t231 t233 x19_24 t224 x227001_24 = some r) ∧ Aside0 (kq ≤ kj14) ∧ Aside0 (Kd.R (Kd.int .i64) 3 wc w.heap.size (fun _ => True) v238 x19_24) ∧ Aside0 (IsS54 w wc g226 t224 x227001_24) ∧ Aside0 (Below w.heap.size w wc))
            case first =>
              have H := HC25.out
              clear HC25
              by_cases c26 : x49_14 = true
              · subst c26
                have H1 : ((tilefarmgen_Tape_Pick.f t224 x227001_14 (([32767, 32768, (-32767)] : List Int))).bind fun bt246 => (if 0 < (t237.length : Int) then (tilefarmlaw9_ConvolveChecks.j2 kj14 l1 a2 a3 a4 a5 a6 x16_1 t231 t233 (t237.set (0 : Int).toNat bt246.1) t224 bt246.2) else (none))) = some r := by rw [if_pos rfl] at H; exact H
                clear H
                have H := H1
                clear H1
                obtain ⟨y243, hy243⟩ : ∃ y_ : List Int, y_ = (([32767, 32768, (-32767)] : List Int)) := ⟨_, rfl⟩
                replace H : ((tilefarmgen_Tape_Pick.f t224 x227001_14 y243).bind fun bt246 => (if 0 < (t237.length : Int) then (tilefarmlaw9_ConvolveChecks.j2 kj14 l1 a2 a3 a4 a5 a6 x16_1 t231 t233 (t237.set (0 : Int).toNat bt246.1) t224 bt246.2) else (none))) = some r := by first | (rw [hy243]; with_reducible exact H) | (have H2_ := (Option.bind_some _ _).symm.trans H; rw [hy243]; with_reducible exact H2_) | (have H2_ := (Option.bind_some _ _).symm.trans H; with_reducible exact H2_) | with_reducible exact H | (rw [hy243]; exact H) | exact H
                have Ny243 := Aside0.mk hy243
                clear hy243
                replace H := Option.bind_eq_some_iff.mp H
                obtain ⟨⟨t246, t247⟩, A270, H⟩ := H
                replace H : (if 0 < (t237.length : Int) then (tilefarmlaw9_ConvolveChecks.j2 kj14 l1 a2 a3 a4 a5 a6 x16_1 t231 t233 (t237.set (0 : Int).toNat t246) t224 t247) else (none)) = some r := H
                have A27 := Aside0.mk A270
                clear A270
                by_cases c28 : 0 < (t237.length : Int)
                · rw [if_pos c28] at H
                  have c28b0 : decide (0 < (t237.length : Int)) = true := decide_eq_true c28
                  have c28b1 : decide (0 < t237.length) = true := decide_eq_true (by omega)
                  clear c28
                  (first | rw [c28b0] | (simp only [i64_w, i32_w]; rw [c28b0]) | skip)
                  obtain ⟨y248, hy248⟩ : ∃ y_ : List Int, y_ = (t237.set (0 : Int).toNat t246) := ⟨_, rfl⟩
                  replace H : (tilefarmlaw9_ConvolveChecks.j2 kj14 l1 a2 a3 a4 a5 a6 x16_1 t231 t233 y248 t224 t247) = some r := by first | (rw [hy248]; with_reducible exact H) | (have H2_ := (Option.bind_some _ _).symm.trans H; rw [hy248]; with_reducible exact H2_) | (have H2_ := (Option.bind_some _ _).symm.trans H; with_reducible exact H2_) | with_reducible exact H | (rw [hy248]; exact H) | exact H
                  have Ny248 := Aside0.mk hy248
                  clear hy248
                  have H' := Aside0.mk H
                  clear H
                  go_wp2_with (first | ((with_reducible refine gate_dst (N := 52) rfl ?_); refine Kd.R_lit (Kd.int .i64) _ 3 ?hg (N := 52) ?hd (xs := ([32767, 32768, (-32767)] : List Int)) (inner := [.int .i64 32767, .int .i64 32768, .int .i64 (-32767)]) (ok := fun _ => True) (okp := fun _ => True) ?hr ?hp (fun _ hk => hk) trivial (Below.refl _ _) (Nat.le_refl _) (by simp) ?_; (case hd => rfl); (case hg => rfl); (case hr => first | (go_simp; done) | (go_simp; rfl)); (case hp => exact (Reps.one (show Kd.M (Kd.int .i64) _ _ _ 32767 [.int .i64 32767] from rfl) (Reps.one (show Kd.M (Kd.int .i64) _ _ _ 32768 [.int .i64 32768] from rfl) (Reps.one (show Kd.M (Kd.int .i64) _ _ _ (-32767) [.int .i64 (-32767)] from rfl) (Reps.none _ _))))); intro v244 w30 ho31 hb hg_ hnew_; clear hg_ hnew_; (first | rw [← Ny243.out] at ho31 | (simp only [Int.reduceToNat] at ho31; rw [← Ny243.out] at ho31)); have n0_ := Aside0.mk (Kd.R_elder' (by (with_reducible repeat (first | apply Kd.R_alloc | apply Kd.R_drewN | apply Kd.R_drew)); exact HO_19.out) (Kd.R_base ho31) hb); have n1_ := Aside0.mk (Kd.R_lower (Kd.R_new' ho31 (Kd.R_lt (by (with_reducible repeat (first | apply Kd.R_alloc | apply Kd.R_drewN | apply Kd.R_drew)); exact HO_19.out))) (below_size (by repeat (first | (with_reducible first | exact HB.out | apply below_alloc | apply pw_below_drewN | apply below_drew1 | refine below_set ?_ (IsS54.ge HI226.out)) | exact HB.out)))); have n2_ := Aside0.mk (IsS54.below (by repeat (first | (with_reducible first | exact HI226.out | apply IsS54.alloc | apply IsS54.drewN | apply IsS54.drew | apply IsS54.set_1) | exact HI226.out)) hb); have n3_ := Aside0.mk (below_step (by repeat (first | (with_reducible first | exact HB.out | apply below_alloc | apply pw_below_drewN | apply below_drew1 | refine below_set ?_ (IsS54.ge HI226.out)) | exact HB.out)) hb); clear HO_19; clear HI226; clear HB; have HO_19 := n0_; have HO245 := n1_; have HI226 := n2_; have HB := n3_; clear n0_ n1_ n2_ n3_; clear hb ho31; obtain ⟨Ao32, co32, eo32⟩ := Kd.R_slice HO245.out; subst eo32) | ((with_reducible refine gate_callee (f := 11) rfl ?_); refine goesL_ (some 53) rfl rfl Try.func11 (by kernel_rfl) rfl #[.pointer (some ⟨g226, 0, none⟩), .slice Ao32 y243.length co32] rfl (by (try simp only [List.map_toArray, List.map_cons, List.map_nil]); first | done | rfl | (simp only [List.length_drop, List.length_take]; rfl)) ?_; (with_reducible refine (tilefarmgen_Tape_Pick.calls g226 t224 x227001_14 _ _ y243 t246 t247 w _ ?side1 ?side2 ?side3 ?side4 ?side5 A27.out).mono ?_); (case side1 => repeat (first | (with_reducible first | exact HI226.out | apply IsS54.alloc | apply IsS54.drewN | apply IsS54.drew | apply IsS54.set_1) | exact HI226.out)); (case side2 => repeat (first | (with_reducible first | exact HB.out | apply below_alloc | apply pw_below_drewN | apply below_drew1 | refine below_set ?_ (IsS54.ge HI226.out)) | exact HB.out)); (case side3 => repeat (first | exact (Kd.R_reads' HO245.out).2.2 | (with_reducible refine Kd.C_alloc ?_ _) | (with_reducible refine Kd.C_drewN ?_ _) | (with_reducible refine Kd.C_drew ?_))); (case side4 => exact (Kd.R_reads' HO245.out).2.1); (case side5 => exact far_slice (IsS54.own_ne HI226.out HO245.out (by decide))); rintro e w33 ⟨rfl, hi, hb, hk⟩; refine ⟨_, rfl, ?_⟩; have n0_ := Aside0.mk (Kd.R_mono (Kd.R_keep (IsS54.apart (show IsS54 w _ g226 t224 x227001_14 from by repeat (first | (with_reducible first | exact HI226.out | apply IsS54.alloc | apply IsS54.drewN | apply IsS54.drew | apply IsS54.set_1) | exact HI226.out)) (by (with_reducible repeat (first | apply Kd.R_alloc | apply Kd.R_drewN | apply Kd.R_drew)); exact HO_19.out) (by decide)) hk (fun _ h => h.2)) (fun _ h => h.1)); have n1_ := Aside0.mk (Kd.R_mono (Kd.R_keep (IsS54.apart (show IsS54 w _ g226 t224 x227001_14 from by repeat (first | (with_reducible first | exact HI226.out | apply IsS54.alloc | apply IsS54.drewN | apply IsS54.drew | apply IsS54.set_1) | exact HI226.out)) (by (with_reducible repeat (first | apply Kd.R_alloc | apply Kd.R_drewN | apply Kd.R_drew)); exact HO245.out) (by decide)) hk (fun _ h => h.2)) (fun _ h => h.1)); have n2_ := Aside0.mk (hb); have n3_ := Aside0.mk (hi); clear HO_19; clear HO245; clear HB; clear HI226; have HO_19 := n0_; have HO245 := n1_; have HB := n2_; have HI226 := n3_; clear n0_ n1_ n2_ n3_; (try clear hb); (try clear hb2); (try clear hk); (try clear hi); have p29 : 0 ≤ (0 : Int) := (by omega); have q29 : (0 : Int) < ((t237.length : Int) : Int) := of_decide_eq_true (by first | (with_reducible assumption) | assumption); have qi29 : (0 < t237.length) = True := eq_true (by omega); obtain ⟨go29, co29, eo29, gb29, gl29, cl29, HG29⟩ := Kd.R_form HO_19.out (by omega); (first | cases eo29 | (injection eo29 with ea_ en_ ec_; (first | subst ea_ | (injection ea_ with ea_; subst ea_)); subst ec_; clear en_)); have GB29 := Aside0.mk gb29; have GG29 := Aside0.mk HG29; clear gb29 gl29 HG29; obtain ⟨hx29_0, hf29_0⟩ := Kd.R_celln 0 HO_19.out (0 : Int) p29 q29; (try rw [show ((0 : Int)).toNat = 0 from rfl] at hx29_0); (try simp only [Nat.reduceMul, Nat.zero_mul, Nat.zero_add, Nat.reduceAdd] at hx29_0); (try rw [show ((0 : Int)).toNat = 0 from rfl] at hf29_0); (try simp only [Nat.reduceMul, Nat.zero_mul, Nat.zero_add, Nat.reduceAdd] at hf29_0); replace p29 := eq_true p29; replace q29 := eq_true q29; have n_ := Aside0.mk (Kd.R_mono (ok' := (fun k_ => some k_ ≠ (.slice Ao32 y243.length co32 : Value).ownBlock)) HO_19.out (fun k_ hk => hk.2)); clear HO_19; have HO_19 := n_; clear n_; obtain ⟨hy34_, hz34_⟩ := Kd.R_celln 0 HO_19.out (0 : Int) (by omega) (of_decide_eq_true (by first | (with_reducible assumption) | assumption)); (try simp only [Int.reduceToNat, Int.toNat_zero, Int.toNat_ofNat, Nat.reduceMul, Nat.zero_mul, Nat.zero_add] at hy34_ hz34_); (try rw [show ((0 : Int)).toNat = 0 from rfl] at hy34_); (try rw [show ((0 : Int)).toNat = 0 from rfl] at hz34_); have HP34 := Kd.R_putg HO_19.out (0 : Int) t246) | ((with_reducible refine gate_store (t := 3) (p := 54) rfl ?_); refine store_event (t := 3) (p := 54) (v := ?vo_w35) (w1 := (w33.setCell ⟨go29, (0 : Int).toNat, none⟩ (.int .i64 t246))) ?hg ?ho ?hn ?hr ?_; (case ho => rfl); (case hg => rfl); (case hn => rfl); (case hr => first | (go_simp; done) | (go_simp; rfl)); intro w35 hw; have hg : w33.grownBy w35 (some go29) := (by rw [hw]; exact HP34.2); have hp_ : Kd.R (Kd.int .i64) 3 w35 w.heap.size (fun k_ => some k_ ≠ (.slice Ao32 y243.length co32 : Value).ownBlock) (.slice (some ⟨go29, 0, none⟩) t237.length co29) y248 := (by rw [hw, Ny248.out]; exact HP34.1); clear HP34; have n0_ := Aside0.mk (hp_); have n1_ := Aside0.mk (IsS54.grown (by repeat (first | (with_reducible first | exact HI226.out | apply IsS54.alloc | apply IsS54.drewN | apply IsS54.drew | apply IsS54.set_1) | exact HI226.out)) hg (IsS54.own_ne HI226.out HO_19.out (by decide))); have n2_ := Aside0.mk (Kd.R_after (v := (.slice (some ⟨go29, 0, none⟩) t237.length co29)) (v1 := (.slice (some ⟨go29, 0, none⟩) t237.length co29)) (ok := (fun _ => True)) (by (with_reducible repeat (first | apply Kd.R_alloc | apply Kd.R_drewN | apply Kd.R_drew)); exact HO245.out) hg (.inl rfl)); have n3_ := Aside0.mk ((by rw [hw]; exact below_set (HB.out) GB29.out : Below w.heap.size w w35)); clear HO_19; clear HI226; clear HO245; clear HB; have HO_19 := n0_; have HI226 := n1_; have HO245 := n2_; have HB := n3_; clear n0_ n1_ n2_ n3_; clear hg hw hp_))
                  go_meet
                  case rel => exact ⟨_, (y248), (t247), H', ⟨by have := HK1.out; have := HJ14.out; first | omega | exact Nat.le_refl _⟩, ⟨by (with_reducible repeat (first | apply Kd.R_alloc | apply Kd.R_drewN | apply Kd.R_drew)); exact Kd.R_mono HO_19.out (fun _ hk => trivial)⟩, ⟨by repeat (first | (with_reducible first | exact HI226.out | apply IsS54.alloc | apply IsS54.drewN | apply IsS54.drew | apply IsS54.set_1) | exact HI226.out)⟩, ⟨by repeat (first | (with_reducible first | exact HB.out | apply below_alloc | apply pw_below_drewN | apply below_drew1 | refine below_set ?_ (IsS54.ge HI226.out)) | exact HB.out)⟩⟩
                · rw [if_neg c28] at H
                  exact absurd H (by simp)
              · replace c26 := Bool.eq_false_iff.mpr c26
                subst c26
                have H1 : (tilefarmlaw9_ConvolveChecks.j2 kj14 l1 a2 a3 a4 a5 a6 x16_1 t231 t233 t237 t224 x227001_14) = some r := by rw [if_neg (show ¬ (false = true) by decide)] at H; exact H
                clear H
                have H := H1
                clear H1
                have H' := Aside0.mk H
                clear H
                go_wp2
                go_meet
                case rel => exact ⟨_, (t237), (x227001_14), H', ⟨by have := HK1.out; have := HJ14.out; first | omega | exact Nat.le_refl _⟩, ⟨by (with_reducible repeat (first | apply Kd.R_alloc | apply Kd.R_drewN | apply Kd.R_drew)); exact HO_19.out⟩, ⟨by repeat (first | (with_reducible first | exact HI226.out | apply IsS54.alloc | apply IsS54.drewN | apply IsS54.drew | apply IsS54.set_1) | exact HI226.out)⟩, ⟨by repeat (first | (with_reducible first | exact HB.out | apply below_alloc | apply pw_below_drewN | apply below_drew1 | refine below_set ?_ (IsS54.ge HI226.out)) | exact HB.out)⟩⟩
            case rest =>
              clear HC25
              try clear c1
              try clear c2
              try clear p2
              try clear q2
              try clear hx2
              try clear qi2
              try clear c3
              try clear p6
              try clear c8
              try clear c9
              try clear c10
              try clear c10b0
              try clear c11
              try clear c20
              try clear c20b0
              try clear c20b1
              try clear c26
              try clear c28
              try clear c28b0
              try clear c28b1
              try clear p29
              try clear q29
              try clear hx29
              try clear qi29
              try clear hf29
              try clear hx29_0
              try clear p2
              try clear p29
              try clear p6
              try clear q29
              obtain ⟨kq, x19_24, x227001_24, HA, HJ24, HO_19, HI226, HB⟩ := hcut
              cases kq with
              | zero => exact absurd HA.out (by simp [tilefarmlaw9_ConvolveChecks.j2])
              | succ kj24 =>
                have H := HA.out
                clear HA
                simp only [tilefarmlaw9_ConvolveChecks.j2] at H
                obtain ⟨y249, hy249⟩ : ∃ y_ : List Int, y_ = (([255, 65535, 0, 4294967296, 4294967297] : List Int)) := ⟨_, rfl⟩
                replace H : ((tilefarmgen_Tape_Pick.f t224 x227001_24 y249).bind fun bt252 => ((tilefarmgen_Tape_Pick.f t224 bt252.2 (([0, 24, 25, (-1)] : List Int))).bind fun bt257 => ((tilefarmgen_Tape_Pick.f t224 bt257.2 (([255, 0, 4294967296] : List Int))).bind fun bt262 => ((convolve_Check.f kj24 bt252.1 t231 t233 x19_24 bt257.1 bt262.1).bind fun t264 => ((tilefarmref9_Check.f kj24 bt252.1 t231 t233 x19_24 bt257.1 bt262.1).bind fun t265 => (if t264 = t265 then (tilefarmlaw9_ConvolveChecks.l0 kj24 l1 a2 a3 a4 a5 a6 (wrap64 (x16_1 + 1)) t224 bt262.2) else (some false))))))) = some r := by first | (rw [hy249]; with_reducible exact H) | (have H2_ := (Option.bind_some _ _).symm.trans H; rw [hy249]; with_reducible exact H2_) | (have H2_ := (Option.bind_some _ _).symm.trans H; with_reducible exact H2_) | with_reducible exact H | (rw [hy249]; exact H) | exact H
                have Ny249 := Aside0.mk hy249
                clear hy249
                replace H := Option.bind_eq_some_iff.mp H
                obtain ⟨⟨t252, t253⟩, A360, H⟩ := H
                replace H : ((tilefarmgen_Tape_Pick.f t224 t253 (([0, 24, 25, (-1)] : List Int))).bind fun bt257 => ((tilefarmgen_Tape_Pick.f t224 bt257.2 (([255, 0, 4294967296] : List Int))).bind fun bt262 => ((convolve_Check.f kj24 t252 t231 t233 x19_24 bt257.1 bt262.1).bind fun t264 => ((tilefarmref9_Check.f kj24 t252 t231 t233 x19_24 bt257.1 bt262.1).bind fun t265 => (if t264 = t265 then (tilefarmlaw9_ConvolveChecks.l0 kj24 l1 a2 a3 a4 a5 a6 (wrap64 (x16_1 + 1)) t224 bt262.2) else (some false)))))) = some r := H
                have A36 := Aside0.mk A360
                clear A360
                obtain ⟨y254, hy254⟩ : ∃ y_ : List Int, y_ = (([0, 24, 25, (-1)] : List Int)) := ⟨_, rfl⟩
                replace H : ((tilefarmgen_Tape_Pick.f t224 t253 y254).bind fun bt257 => ((tilefarmgen_Tape_Pick.f t224 bt257.2 (([255, 0, 4294967296] : List Int))).bind fun bt262 => ((convolve_Check.f kj24 t252 t231 t233 x19_24 bt257.1 bt262.1).bind fun t264 => ((tilefarmref9_Check.f kj24 t252 t231 t233 x19_24 bt257.1 bt262.1).bind fun t265 => (if t264 = t265 then (tilefarmlaw9_ConvolveChecks.l0 kj24 l1 a2 a3 a4 a5 a6 (wrap64 (x16_1 + 1)) t224 bt262.2) else (some false)))))) = some r := by first | (rw [hy254]; with_reducible exact H) | (have H2_ := (Option.bind_some _ _).symm.trans H; rw [hy254]; with_reducible exact H2_) | (have H2_ := (Option.bind_some _ _).symm.trans H; with_reducible exact H2_) | with_reducible exact H | (rw [hy254]; exact H) | exact H
                have Ny254 := Aside0.mk hy254
                clear hy254
                replace H := Option.bind_eq_some_iff.mp H
                obtain ⟨⟨t257, t258⟩, A370, H⟩ := H
                replace H : ((tilefarmgen_Tape_Pick.f t224 t258 (([255, 0, 4294967296] : List Int))).bind fun bt262 => ((convolve_Check.f kj24 t252 t231 t233 x19_24 t257 bt262.1).bind fun t264 => ((tilefarmref9_Check.f kj24 t252 t231 t233 x19_24 t257 bt262.1).bind fun t265 => (if t264 = t265 then (tilefarmlaw9_ConvolveChecks.l0 kj24 l1 a2 a3 a4 a5 a6 (wrap64 (x16_1 + 1)) t224 bt262.2) else (some false))))) = some r := H
                have A37 := Aside0.mk A370
                clear A370
                obtain ⟨y259, hy259⟩ : ∃ y_ : List Int, y_ = (([255, 0, 4294967296] : List Int)) := ⟨_, rfl⟩
                replace H : ((tilefarmgen_Tape_Pick.f t224 t258 y259).bind fun bt262 => ((convolve_Check.f kj24 t252 t231 t233 x19_24 t257 bt262.1).bind fun t264 => ((tilefarmref9_Check.f kj24 t252 t231 t233 x19_24 t257 bt262.1).bind fun t265 => (if t264 = t265 then (tilefarmlaw9_ConvolveChecks.l0 kj24 l1 a2 a3 a4 a5 a6 (wrap64 (x16_1 + 1)) t224 bt262.2) else (some false))))) = some r := by first | (rw [hy259]; with_reducible exact H) | (have H2_ := (Option.bind_some _ _).symm.trans H; rw [hy259]; with_reducible exact H2_) | (have H2_ := (Option.bind_some _ _).symm.trans H; with_reducible exact H2_) | with_reducible exact H | (rw [hy259]; exact H) | exact H
                have Ny259 := Aside0.mk hy259
                clear hy259
                replace H := Option.bind_eq_some_iff.mp H
                obtain ⟨⟨t262, t263⟩, A380, H⟩ := H
                replace H : ((convolve_Check.f kj24 t252 t231 t233 x19_24 t257 t262).bind fun t264 => ((tilefarmref9_Check.f kj24 t252 t231 t233 x19_24 t257 t262).bind fun t265 => (if t264 = t265 then (tilefarmlaw9_ConvolveChecks.l0 kj24 l1 a2 a3 a4 a5 a6 (wrap64 (x16_1 + 1)) t224 t263) else (some false)))) = some r := H
                have A38 := Aside0.mk A380
                clear A380
                replace H := Option.bind_eq_some_iff.mp H
                obtain ⟨t264, A390, H⟩ := H
                replace H : ((tilefarmref9_Check.f kj24 t252 t231 t233 x19_24 t257 t262).bind fun t265 => (if t264 = t265 then (tilefarmlaw9_ConvolveChecks.l0 kj24 l1 a2 a3 a4 a5 a6 (wrap64 (x16_1 + 1)) t224 t263) else (some false))) = some r := H
                have A39 := Aside0.mk A390
                clear A390
                replace H := Option.bind_eq_some_iff.mp H
                obtain ⟨t265, A400, H⟩ := H
                replace H : (if t264 = t265 then (tilefarmlaw9_ConvolveChecks.l0 kj24 l1 a2 a3 a4 a5 a6 (wrap64 (x16_1 + 1)) t224 t263) else (some false)) = some r := H
                have A40 := Aside0.mk A400
                clear A400
                by_cases c41 : t264 = t265
                · rw [if_pos c41] at H
                  have c41b0 : (t264 == t265) = true := beq_iff_eq.mpr c41
                  have c41b1 : (t264 != t265) = false := bne_eq_false_iff_eq.mpr c41
                  clear c41
                  have H' := Aside0.mk H
                  clear H
                  go_wp2_with (first | ((with_reducible refine gate_dst (N := 56) rfl ?_); refine Kd.R_lit (Kd.int .i64) _ 3 ?hg (N := 56) ?hd (xs := ([255, 65535, 0, 4294967296, 4294967297] : List Int)) (inner := [.int .i64 255, .int .i64 65535, .int .i64 0, .int .i64 4294967296, .int .i64 4294967297]) (ok := fun _ => True) (okp := fun _ => True) ?hr ?hp (fun _ hk => hk) trivial (Below.refl _ _) (Nat.le_refl _) (by simp) ?_; (case hd => rfl); (case hg => rfl); (case hr => first | (go_simp; done) | (go_simp; rfl)); (case hp => exact (Reps.one (show Kd.M (Kd.int .i64) _ _ _ 255 [.int .i64 255] from rfl) (Reps.one (show Kd.M (Kd.int .i64) _ _ _ 65535 [.int .i64 65535] from rfl) (Reps.one (show Kd.M (Kd.int .i64) _ _ _ 0 [.int .i64 0] from rfl) (Reps.one (show Kd.M (Kd.int .i64) _ _ _ 4294967296 [.int .i64 4294967296] from rfl) (Reps.one (show Kd.M (Kd.int .i64) _ _ _ 4294967297 [.int .i64 4294967297] from rfl) (Reps.none _ _))))))); intro v250 w42 ho43 hb hg_ hnew_; clear hg_ hnew_; (first | rw [← Ny249.out] at ho43 | (simp only [Int.reduceToNat] at ho43; rw [← Ny249.out] at ho43)); have n0_ := Aside0.mk (Kd.R_elder' (by (with_reducible repeat (first | apply Kd.R_alloc | apply Kd.R_drewN | apply Kd.R_drew)); exact HO_19.out) (Kd.R_base ho43) hb); have n1_ := Aside0.mk (Kd.R_lower (Kd.R_new' ho43 (Kd.R_lt (by (with_reducible repeat (first | apply Kd.R_alloc | apply Kd.R_drewN | apply Kd.R_drew)); exact HO_19.out))) (below_size (by repeat (first | (with_reducible first | exact HB.out | apply below_alloc | apply pw_below_drewN | apply below_drew1 | refine below_set ?_ (IsS54.ge HI226.out)) | exact HB.out)))); have n2_ := Aside0.mk (IsS54.below (by repeat (first | (with_reducible first | exact HI226.out | apply IsS54.alloc | apply IsS54.drewN | apply IsS54.drew | apply IsS54.set_1) | exact HI226.out)) hb); have n3_ := Aside0.mk (below_step (by repeat (first | (with_reducible first | exact HB.out | apply below_alloc | apply pw_below_drewN | apply below_drew1 | refine below_set ?_ (IsS54.ge HI226.out)) | exact HB.out)) hb); clear HO_19; clear HI226; clear HB; have HO_19 := n0_; have HO251 := n1_; have HI226 := n2_; have HB := n3_; clear n0_ n1_ n2_ n3_; clear hb ho43; obtain ⟨Ao44, co44, eo44⟩ := Kd.R_slice HO251.out; subst eo44) | ((with_reducible refine gate_callee (f := 11) rfl ?_); refine goesL_ (some 57) rfl rfl Try.func11 (by kernel_rfl) rfl #[.pointer (some ⟨g226, 0, none⟩), .slice Ao44 y249.length co44] rfl (by (try simp only [List.map_toArray, List.map_cons, List.map_nil]); first | done | rfl | (simp only [List.length_drop, List.length_take]; rfl)) ?_; (with_reducible refine (tilefarmgen_Tape_Pick.calls g226 t224 x227001_24 _ _ y249 t252 t253 w _ ?side1 ?side2 ?side3 ?side4 ?side5 A36.out).mono ?_); (case side1 => repeat (first | (with_reducible first | exact HI226.out | apply IsS54.alloc | apply IsS54.drewN | apply IsS54.drew | apply IsS54.set_1) | exact HI226.out)); (case side2 => repeat (first | (with_reducible first | exact HB.out | apply below_alloc | apply pw_below_drewN | apply below_drew1 | refine below_set ?_ (IsS54.ge HI226.out)) | exact HB.out)); (case side3 => repeat (first | exact (Kd.R_reads' HO251.out).2.2 | (with_reducible refine Kd.C_alloc ?_ _) | (with_reducible refine Kd.C_drewN ?_ _) | (with_reducible refine Kd.C_drew ?_))); (case side4 => exact (Kd.R_reads' HO251.out).2.1); (case side5 => exact far_slice (IsS54.own_ne HI226.out HO251.out (by decide))); rintro e w45 ⟨rfl, hi, hb, hk⟩; refine ⟨_, rfl, ?_⟩; have n0_ := Aside0.mk (Kd.R_mono (Kd.R_keep (IsS54.apart (show IsS54 w _ g226 t224 x227001_24 from by repeat (first | (with_reducible first | exact HI226.out | apply IsS54.alloc | apply IsS54.drewN | apply IsS54.drew | apply IsS54.set_1) | exact HI226.out)) (by (with_reducible repeat (first | apply Kd.R_alloc | apply Kd.R_drewN | apply Kd.R_drew)); exact HO_19.out) (by decide)) hk (fun _ h => h.2)) (fun _ h => h.1)); have n1_ := Aside0.mk (Kd.R_mono (Kd.R_keep (IsS54.apart (show IsS54 w _ g226 t224 x227001_24 from by repeat (first | (with_reducible first | exact HI226.out | apply IsS54.alloc | apply IsS54.drewN | apply IsS54.drew | apply IsS54.set_1) | exact HI226.out)) (by (with_reducible repeat (first | apply Kd.R_alloc | apply Kd.R_drewN | apply Kd.R_drew)); exact HO251.out) (by decide)) hk (fun _ h => h.2)) (fun _ h => h.1)); have n2_ := Aside0.mk (hb); have n3_ := Aside0.mk (hi); clear HO_19; clear HO251; clear HB; clear HI226; have HO_19 := n0_; have HO251 := n1_; have HB := n2_; have HI226 := n3_; clear n0_ n1_ n2_ n3_; (try clear hb); (try clear hb2); (try clear hk); (try clear hi)) | ((with_reducible refine gate_dst (N := 59) rfl ?_); refine Kd.R_lit (Kd.int .i64) _ 3 ?hg (N := 59) ?hd (xs := ([0, 24, 25, (-1)] : List Int)) (inner := [.int .i64 0, .int .i64 24, .int .i64 25, .int .i64 (-1)]) (ok := fun _ => True) (okp := fun _ => True) ?hr ?hp (fun _ hk => hk) trivial (Below.refl _ _) (Nat.le_refl _) (by simp) ?_; (case hd => rfl); (case hg => rfl); (case hr => first | (go_simp; done) | (go_simp; rfl)); (case hp => exact (Reps.one (show Kd.M (Kd.int .i64) _ _ _ 0 [.int .i64 0] from rfl) (Reps.one (show Kd.M (Kd.int .i64) _ _ _ 24 [.int .i64 24] from rfl) (Reps.one (show Kd.M (Kd.int .i64) _ _ _ 25 [.int .i64 25] from rfl) (Reps.one (show Kd.M (Kd.int .i64) _ _ _ (-1) [.int .i64 (-1)] from rfl) (Reps.none _ _)))))); intro v255 w46 ho47 hb hg_ hnew_; clear hg_ hnew_; (first | rw [← Ny254.out] at ho47 | (simp only [Int.reduceToNat] at ho47; rw [← Ny254.out] at ho47)); have n0_ := Aside0.mk (Kd.R_elder' (by (with_reducible repeat (first | apply Kd.R_alloc | apply Kd.R_drewN | apply Kd.R_drew)); exact HO_19.out) (Kd.R_base ho47) hb); have n1_ := Aside0.mk (Kd.R_elder' (by (with_reducible repeat (first | apply Kd.R_alloc | apply Kd.R_drewN | apply Kd.R_drew)); exact HO251.out) (Kd.R_base ho47) hb); have n2_ := Aside0.mk (Kd.R_lower (Kd.R_new' (Kd.R_new' ho47 (Kd.R_lt (by (with_reducible repeat (first | apply Kd.R_alloc | apply Kd.R_drewN | apply Kd.R_drew)); exact HO_19.out))) (Kd.R_lt (by (with_reducible repeat (first | apply Kd.R_alloc | apply Kd.R_drewN | apply Kd.R_drew)); exact HO251.out))) (below_size (by repeat (first | (with_reducible first | exact HB.out | apply below_alloc | apply pw_below_drewN | apply below_drew1 | refine below_set ?_ (IsS54.ge HI226.out)) | exact HB.out)))); have n3_ := Aside0.mk (IsS54.below (by repeat (first | (with_reducible first | exact HI226.out | apply IsS54.alloc | apply IsS54.drewN | apply IsS54.drew | apply IsS54.set_1) | exact HI226.out)) hb); have n4_ := Aside0.mk (below_step (by repeat (first | (with_reducible first | exact HB.out | apply below_alloc | apply pw_below_drewN | apply below_drew1 | refine below_set ?_ (IsS54.ge HI226.out)) | exact HB.out)) hb); clear HO_19; clear HO251; clear HI226; clear HB; have HO_19 := n0_; have HO251 := n1_; have HO256 := n2_; have HI226 := n3_; have HB := n4_; clear n0_ n1_ n2_ n3_ n4_; clear hb ho47; obtain ⟨Ao48, co48, eo48⟩ := Kd.R_slice HO256.out; subst eo48) | ((with_reducible refine gate_callee (f := 11) rfl ?_); refine goesL_ (some 60) rfl rfl Try.func11 (by kernel_rfl) rfl #[.pointer (some ⟨g226, 0, none⟩), .slice Ao48 y254.length co48] rfl (by (try simp only [List.map_toArray, List.map_cons, List.map_nil]); first | done | rfl | (simp only [List.length_drop, List.length_take]; rfl)) ?_; (with_reducible refine (tilefarmgen_Tape_Pick.calls g226 t224 t253 _ _ y254 t257 t258 w _ ?side1 ?side2 ?side3 ?side4 ?side5 A37.out).mono ?_); (case side1 => repeat (first | (with_reducible first | exact HI226.out | apply IsS54.alloc | apply IsS54.drewN | apply IsS54.drew | apply IsS54.set_1) | exact HI226.out)); (case side2 => repeat (first | (with_reducible first | exact HB.out | apply below_alloc | apply pw_below_drewN | apply below_drew1 | refine below_set ?_ (IsS54.ge HI226.out)) | exact HB.out)); (case side3 => repeat (first | exact (Kd.R_reads' HO256.out).2.2 | (with_reducible refine Kd.C_alloc ?_ _) | (with_reducible refine Kd.C_drewN ?_ _) | (with_reducible refine Kd.C_drew ?_))); (case side4 => exact (Kd.R_reads' HO256.out).2.1); (case side5 => exact far_slice (IsS54.own_ne HI226.out HO256.out (by decide))); rintro e w49 ⟨rfl, hi, hb, hk⟩; refine ⟨_, rfl, ?_⟩; have n0_ := Aside0.mk (Kd.R_mono (Kd.R_keep (IsS54.apart (show IsS54 w _ g226 t224 t253 from by repeat (first | (with_reducible first | exact HI226.out | apply IsS54.alloc | apply IsS54.drewN | apply IsS54.drew | apply IsS54.set_1) | exact HI226.out)) (by (with_reducible repeat (first | apply Kd.R_alloc | apply Kd.R_drewN | apply Kd.R_drew)); exact HO_19.out) (by decide)) hk (fun _ h => h.2)) (fun _ h => h.1)); have n1_ := Aside0.mk (Kd.R_mono (Kd.R_keep (IsS54.apart (show IsS54 w _ g226 t224 t253 from by repeat (first | (with_reducible first | exact HI226.out | apply IsS54.alloc | apply IsS54.drewN | apply IsS54.drew | apply IsS54.set_1) | exact HI226.out)) (by (with_reducible repeat (first | apply Kd.R_alloc | apply Kd.R_drewN | apply Kd.R_drew)); exact HO251.out) (by decide)) hk (fun _ h => h.2)) (fun _ h => h.1)); have n2_ := Aside0.mk (Kd.R_mono (Kd.R_keep (IsS54.apart (show IsS54 w _ g226 t224 t253 from by repeat (first | (with_reducible first | exact HI226.out | apply IsS54.alloc | apply IsS54.drewN | apply IsS54.drew | apply IsS54.set_1) | exact HI226.out)) (by (with_reducible repeat (first | apply Kd.R_alloc | apply Kd.R_drewN | apply Kd.R_drew)); exact HO256.out) (by decide)) hk (fun _ h => h.2)) (fun _ h => h.1)); have n3_ := Aside0.mk (hb); have n4_ := Aside0.mk (hi); clear HO_19; clear HO251; clear HO256; clear HB; clear HI226; have HO_19 := n0_; have HO251 := n1_; have HO256 := n2_; have HB := n3_; have HI226 := n4_; clear n0_ n1_ n2_ n3_ n4_; (try clear hb); (try clear hb2); (try clear hk); (try clear hi)) | ((with_reducible refine gate_dst (N := 62) rfl ?_); refine Kd.R_lit (Kd.int .i64) _ 3 ?hg (N := 62) ?hd (xs := ([255, 0, 4294967296] : List Int)) (inner := [.int .i64 255, .int .i64 0, .int .i64 4294967296]) (ok := fun _ => True) (okp := fun _ => True) ?hr ?hp (fun _ hk => hk) trivial (Below.refl _ _) (Nat.le_refl _) (by simp) ?_; (case hd => rfl); (case hg => rfl); (case hr => first | (go_simp; done) | (go_simp; rfl)); (case hp => exact (Reps.one (show Kd.M (Kd.int .i64) _ _ _ 255 [.int .i64 255] from rfl) (Reps.one (show Kd.M (Kd.int .i64) _ _ _ 0 [.int .i64 0] from rfl) (Reps.one (show Kd.M (Kd.int .i64) _ _ _ 4294967296 [.int .i64 4294967296] from rfl) (Reps.none _ _))))); intro v260 w50 ho51 hb hg_ hnew_; clear hg_ hnew_; (first | rw [← Ny259.out] at ho51 | (simp only [Int.reduceToNat] at ho51; rw [← Ny259.out] at ho51)); have n0_ := Aside0.mk (Kd.R_elder' (by (with_reducible repeat (first | apply Kd.R_alloc | apply Kd.R_drewN | apply Kd.R_drew)); exact HO_19.out) (Kd.R_base ho51) hb); have n1_ := Aside0.mk (Kd.R_elder' (by (with_reducible repeat (first | apply Kd.R_alloc | apply Kd.R_drewN | apply Kd.R_drew)); exact HO251.out) (Kd.R_base ho51) hb); have n2_ := Aside0.mk (Kd.R_elder' (by (with_reducible repeat (first | apply Kd.R_alloc | apply Kd.R_drewN | apply Kd.R_drew)); exact HO256.out) (Kd.R_base ho51) hb); have n3_ := Aside0.mk (Kd.R_lower (Kd.R_new' (Kd.R_new' (Kd.R_new' ho51 (Kd.R_lt (by (with_reducible repeat (first | apply Kd.R_alloc | apply Kd.R_drewN | apply Kd.R_drew)); exact HO_19.out))) (Kd.R_lt (by (with_reducible repeat (first | apply Kd.R_alloc | apply Kd.R_drewN | apply Kd.R_drew)); exact HO251.out))) (Kd.R_lt (by (with_reducible repeat (first | apply Kd.R_alloc | apply Kd.R_drewN | apply Kd.R_drew)); exact HO256.out))) (below_size (by repeat (first | (with_reducible first | exact HB.out | apply below_alloc | apply pw_below_drewN | apply below_drew1 | refine below_set ?_ (IsS54.ge HI226.out)) | exact HB.out)))); have n4_ := Aside0.mk (IsS54.below (by repeat (first | (with_reducible first | exact HI226.out | apply IsS54.alloc | apply IsS54.drewN | apply IsS54.drew | apply IsS54.set_1) | exact HI226.out)) hb); have n5_ := Aside0.mk (below_step (by repeat (first | (with_reducible first | exact HB.out | apply below_alloc | apply pw_below_drewN | apply below_drew1 | refine below_set ?_ (IsS54.ge HI226.out)) | exact HB.out)) hb); clear HO_19; clear HO251; clear HO256; clear HI226; clear HB; have HO_19 := n0_; have HO251 := n1_; have HO256 := n2_; have HO261 := n3_; have HI226 := n4_; have HB := n5_; clear n0_ n1_ n2_ n3_ n4_ n5_; clear hb ho51; obtain ⟨Ao52, co52, eo52⟩ := Kd.R_slice HO261.out; subst eo52) | ((with_reducible refine gate_callee (f := 11) rfl ?_); refine goesL_ (some 63) rfl rfl Try.func11 (by kernel_rfl) rfl #[.pointer (some ⟨g226, 0, none⟩), .slice Ao52 y259.length co52] rfl (by (try simp only [List.map_toArray, List.map_cons, List.map_nil]); first | done | rfl | (simp only [List.length_drop, List.length_take]; rfl)) ?_; (with_reducible refine (tilefarmgen_Tape_Pick.calls g226 t224 t258 _ _ y259 t262 t263 w _ ?side1 ?side2 ?side3 ?side4 ?side5 A38.out).mono ?_); (case side1 => repeat (first | (with_reducible first | exact HI226.out | apply IsS54.alloc | apply IsS54.drewN | apply IsS54.drew | apply IsS54.set_1) | exact HI226.out)); (case side2 => repeat (first | (with_reducible first | exact HB.out | apply below_alloc | apply pw_below_drewN | apply below_drew1 | refine below_set ?_ (IsS54.ge HI226.out)) | exact HB.out)); (case side3 => repeat (first | exact (Kd.R_reads' HO261.out).2.2 | (with_reducible refine Kd.C_alloc ?_ _) | (with_reducible refine Kd.C_drewN ?_ _) | (with_reducible refine Kd.C_drew ?_))); (case side4 => exact (Kd.R_reads' HO261.out).2.1); (case side5 => exact far_slice (IsS54.own_ne HI226.out HO261.out (by decide))); rintro e w53 ⟨rfl, hi, hb, hk⟩; refine ⟨_, rfl, ?_⟩; have n0_ := Aside0.mk (Kd.R_mono (Kd.R_keep (IsS54.apart (show IsS54 w _ g226 t224 t258 from by repeat (first | (with_reducible first | exact HI226.out | apply IsS54.alloc | apply IsS54.drewN | apply IsS54.drew | apply IsS54.set_1) | exact HI226.out)) (by (with_reducible repeat (first | apply Kd.R_alloc | apply Kd.R_drewN | apply Kd.R_drew)); exact HO_19.out) (by decide)) hk (fun _ h => h.2)) (fun _ h => h.1)); have n1_ := Aside0.mk (Kd.R_mono (Kd.R_keep (IsS54.apart (show IsS54 w _ g226 t224 t258 from by repeat (first | (with_reducible first | exact HI226.out | apply IsS54.alloc | apply IsS54.drewN | apply IsS54.drew | apply IsS54.set_1) | exact HI226.out)) (by (with_reducible repeat (first | apply Kd.R_alloc | apply Kd.R_drewN | apply Kd.R_drew)); exact HO251.out) (by decide)) hk (fun _ h => h.2)) (fun _ h => h.1)); have n2_ := Aside0.mk (Kd.R_mono (Kd.R_keep (IsS54.apart (show IsS54 w _ g226 t224 t258 from by repeat (first | (with_reducible first | exact HI226.out | apply IsS54.alloc | apply IsS54.drewN | apply IsS54.drew | apply IsS54.set_1) | exact HI226.out)) (by (with_reducible repeat (first | apply Kd.R_alloc | apply Kd.R_drewN | apply Kd.R_drew)); exact HO256.out) (by decide)) hk (fun _ h => h.2)) (fun _ h => h.1)); have n3_ := Aside0.mk (Kd.R_mono (Kd.R_keep (IsS54.apart (show IsS54 w _ g226 t224 t258 from by repeat (first | (with_reducible first | exact HI226.out | apply IsS54.alloc | apply IsS54.drewN | apply IsS54.drew | apply IsS54.set_1) | exact HI226.out)) (by (with_reducible repeat (first | apply Kd.R_alloc | apply Kd.R_drewN | apply Kd.R_drew)); exact HO261.out) (by decide)) hk (fun _ h => h.2)) (fun _ h => h.1)); have n4_ := Aside0.mk (hb); have n5_ := Aside0.mk (hi); clear HO_19; clear HO251; clear HO256; clear HO261; clear HB; clear HI226; have HO_19 := n0_; have HO251 := n1_; have HO256 := n2_; have HO261 := n3_; have HB := n4_; have HI226 := n5_; clear n0_ n1_ n2_ n3_ n4_ n5_; (try clear hb); (try clear hb2); (try clear hk); (try clear hi); obtain ⟨Ao54, co54, eo54⟩ := Kd.R_slice HO_19.out; subst eo54) | ((with_reducible refine gate_callee (f := 12) rfl ?_); refine goesL_ (some 70) rfl rfl Try.func12 (by kernel_rfl) rfl #[.int .i64 t252, .int .i64 t231, .int .i64 t233, .slice Ao54 x19_24.length co54, .int .i64 t257, .int .i64 t262] rfl (by (try simp only [List.map_toArray, List.map_cons, List.map_nil]); first | done | rfl | (simp only [List.length_drop, List.length_take]; rfl)) ?_; (with_reducible refine (convolve_Check.calls kj24 t252 t231 t233 _ _ x19_24 t257 t262 t264 _ ?side1 ?side2 A39.out).mono ?_); (case side1 => repeat (first | exact (Kd.R_reads' HO_19.out).2.2 | (with_reducible refine Kd.C_alloc ?_ _) | (with_reducible refine Kd.C_drewN ?_ _) | (with_reducible refine Kd.C_drew ?_))); (case side2 => exact (Kd.R_reads' HO_19.out).2.1); rintro e w55 ⟨rfl, hb⟩; refine ⟨_, rfl, ?_⟩; have n0_ := Aside0.mk (Kd.R_below (by (with_reducible repeat (first | apply Kd.R_alloc | apply Kd.R_drewN | apply Kd.R_drew)); exact HO_19.out) hb); have n1_ := Aside0.mk (Kd.R_below (by (with_reducible repeat (first | apply Kd.R_alloc | apply Kd.R_drewN | apply Kd.R_drew)); exact HO251.out) hb); have n2_ := Aside0.mk (Kd.R_below (by (with_reducible repeat (first | apply Kd.R_alloc | apply Kd.R_drewN | apply Kd.R_drew)); exact HO256.out) hb); have n3_ := Aside0.mk (Kd.R_below (by (with_reducible repeat (first | apply Kd.R_alloc | apply Kd.R_drewN | apply Kd.R_drew)); exact HO261.out) hb); have n4_ := Aside0.mk (IsS54.below (by repeat (first | (with_reducible first | exact HI226.out | apply IsS54.alloc | apply IsS54.drewN | apply IsS54.drew | apply IsS54.set_1) | exact HI226.out)) hb); have n5_ := Aside0.mk (below_step (by repeat (first | (with_reducible first | exact HB.out | apply below_alloc | apply pw_below_drewN | apply below_drew1 | refine below_set ?_ (IsS54.ge HI226.out)) | exact HB.out)) hb); clear HO_19; clear HO251; clear HO256; clear HO261; clear HI226; clear HB; have HO_19 := n0_; have HO251 := n1_; have HO256 := n2_; have HO261 := n3_; have HI226 := n4_; have HB := n5_; clear n0_ n1_ n2_ n3_ n4_ n5_; (try clear hb); (try clear hb2); (try clear hk); (try clear hi)) | ((with_reducible refine gate_callee (f := 13) rfl ?_); refine goesL_ (some 77) rfl rfl Try.func13 (by kernel_rfl) rfl #[.int .i64 t252, .int .i64 t231, .int .i64 t233, .slice Ao54 x19_24.length co54, .int .i64 t257, .int .i64 t262] rfl (by (try simp only [List.map_toArray, List.map_cons, List.map_nil]); first | done | rfl | (simp only [List.length_drop, List.length_take]; rfl)) ?_; (with_reducible refine (tilefarmref9_Check.calls kj24 t252 t231 t233 _ _ x19_24 t257 t262 t265 _ ?side1 ?side2 A40.out).mono ?_); (case side1 => repeat (first | exact (Kd.R_reads' HO_19.out).2.2 | (with_reducible refine Kd.C_alloc ?_ _) | (with_reducible refine Kd.C_drewN ?_ _) | (with_reducible refine Kd.C_drew ?_))); (case side2 => exact (Kd.R_reads' HO_19.out).2.1); rintro e w56 ⟨rfl, hb⟩; refine ⟨_, rfl, ?_⟩; have n0_ := Aside0.mk (Kd.R_below (by (with_reducible repeat (first | apply Kd.R_alloc | apply Kd.R_drewN | apply Kd.R_drew)); exact HO_19.out) hb); have n1_ := Aside0.mk (Kd.R_below (by (with_reducible repeat (first | apply Kd.R_alloc | apply Kd.R_drewN | apply Kd.R_drew)); exact HO251.out) hb); have n2_ := Aside0.mk (Kd.R_below (by (with_reducible repeat (first | apply Kd.R_alloc | apply Kd.R_drewN | apply Kd.R_drew)); exact HO256.out) hb); have n3_ := Aside0.mk (Kd.R_below (by (with_reducible repeat (first | apply Kd.R_alloc | apply Kd.R_drewN | apply Kd.R_drew)); exact HO261.out) hb); have n4_ := Aside0.mk (IsS54.below (by repeat (first | (with_reducible first | exact HI226.out | apply IsS54.alloc | apply IsS54.drewN | apply IsS54.drew | apply IsS54.set_1) | exact HI226.out)) hb); have n5_ := Aside0.mk (below_step (by repeat (first | (with_reducible first | exact HB.out | apply below_alloc | apply pw_below_drewN | apply below_drew1 | refine below_set ?_ (IsS54.ge HI226.out)) | exact HB.out)) hb); clear HO_19; clear HO251; clear HO256; clear HO261; clear HI226; clear HB; have HO_19 := n0_; have HO251 := n1_; have HO256 := n2_; have HO261 := n3_; have HI226 := n4_; have HB := n5_; clear n0_ n1_ n2_ n3_ n4_ n5_; (try clear hb); (try clear hb2); (try clear hk); (try clear hi)))
                  go_roundg kj24
                  case measure => have := HK1.out; have := HJ14.out; have := HJ24.out; omega
                  case rel => exact ⟨(wrap64 (x16_1 + 1)), (t263), (by first | rfl | (simp; done) | (simp [*]; done)), H', ⟨by have := HK1.out; have := HJ14.out; have := HJ24.out; omega⟩, ⟨by repeat (first | (with_reducible first | exact HI226.out | apply IsS54.alloc | apply IsS54.drewN | apply IsS54.drew | apply IsS54.set_1) | exact HI226.out)⟩, ⟨by repeat (first | (with_reducible first | exact HB.out | apply below_alloc | apply pw_below_drewN | apply below_drew1 | refine below_set ?_ (IsS54.ge HI226.out)) | exact HB.out)⟩⟩
                · rw [if_neg c41] at H
                  have c41b0 : (t264 == t265) = false := beq_eq_false_iff_ne.mpr c41
                  have c41b1 : (t264 != t265) = true := bne_iff_ne.mpr c41
                  exact absurd ((Option.some.inj H).trans HT.out) (by decide)
      · rw [if_neg c10] at H
        have c10b0 : decide (x16_1 < 5) = false := decide_eq_false c10
        clear c10
        by_cases c57 : (l1.length : Int) > 1000
        · rw [if_pos c57] at H
          have c57b0 : decide (1000 < (l1.length : Int)) = true := decide_eq_true c57
          have c57b1 : decide (1000 < l1.length) = true := decide_eq_true (by omega)
          clear c57
          replace H := Option.bind_eq_some_iff.mp H
          obtain ⟨t227, A580, H⟩ := H
          replace H : (some t227) = some r := H
          have A58 := Aside0.mk A580
          clear A580
          obtain rfl := Option.some.inj H
          go_wp2_with (first | (go_at_call 14; (with_reducible refine (tilefarmlaw9_sane.calls k1  t227 _ A58.out).mono ?_); rintro e w59 ⟨rfl, hb⟩; have n0_ := Aside0.mk (IsS54.below (by repeat (first | (with_reducible first | exact HI226.out | apply IsS54.alloc | apply IsS54.drewN | apply IsS54.drew | apply IsS54.set_1) | exact HI226.out)) hb); have n1_ := Aside0.mk (below_step (by repeat (first | (with_reducible first | exact HB.out | apply below_alloc | apply pw_below_drewN | apply below_drew1 | refine below_set ?_ (IsS54.ge HI226.out)) | exact HB.out)) hb); clear HI226; clear HB; have HI226 := n0_; have HB := n1_; clear n0_ n1_; (try clear hb); (try clear hb2); (try clear hk); (try clear hi)))
          go_ret
          exact ⟨by first | rfl | (simp [errW_none, errW_some] <;> rfl) | (simp [*, errW_none, errW_some] <;> rfl), by repeat (first | (with_reducible first | exact HB.out | apply below_alloc | apply pw_below_drewN | apply below_drew1 | refine below_set ?_ (IsS54.ge HI226.out)) | exact HB.out)⟩
        · rw [if_neg c57] at H
          have c57b0 : decide (1000 < (l1.length : Int)) = false := decide_eq_false c57
          have c57b1 : decide (1000 < l1.length) = false := decide_eq_false (by omega)
          clear c57
          replace H := Option.bind_eq_some_iff.mp H
          obtain ⟨t228, A600, H⟩ := H
          replace H : ((tilefarmref9_Check.f k1 a2 a3 a4 l1 a5 a6).bind fun t229 => (if t228 = t229 then ((tilefarmlaw9_sane.f k1).bind fun t230 => (some t230)) else (some false))) = some r := H
          have A60 := Aside0.mk A600
          clear A600
          replace H := Option.bind_eq_some_iff.mp H
          obtain ⟨t229, A610, H⟩ := H
          replace H : (if t228 = t229 then ((tilefarmlaw9_sane.f k1).bind fun t230 => (some t230)) else (some false)) = some r := H
          have A61 := Aside0.mk A610
          clear A610
          by_cases c62 : t228 = t229
          · rw [if_pos c62] at H
            have c62b0 : (t228 == t229) = true := beq_iff_eq.mpr c62
            have c62b1 : (t228 != t229) = false := bne_eq_false_iff_eq.mpr c62
            clear c62
            replace H := Option.bind_eq_some_iff.mp H
            obtain ⟨t230, A630, H⟩ := H
            replace H : (some t230) = some r := H
            have A63 := Aside0.mk A630
            clear A630
            obtain rfl := Option.some.inj H
            go_wp2_with (first | (go_at_call 12; (with_reducible refine (convolve_Check.calls k1 a2 a3 a4 _ _ l1 a5 a6 t228 _ ?side1 ?side2 A60.out).mono ?_); (case side1 => repeat (first | exact (Kd.C_below HR1.out HB.out) | (with_reducible refine Kd.C_alloc ?_ _) | (with_reducible refine Kd.C_drewN ?_ _) | (with_reducible refine Kd.C_drew ?_))); (case side2 => exact HC1.out); rintro e w64 ⟨rfl, hb⟩; have n0_ := Aside0.mk (IsS54.below (by repeat (first | (with_reducible first | exact HI226.out | apply IsS54.alloc | apply IsS54.drewN | apply IsS54.drew | apply IsS54.set_1) | exact HI226.out)) hb); have n1_ := Aside0.mk (below_step (by repeat (first | (with_reducible first | exact HB.out | apply below_alloc | apply pw_below_drewN | apply below_drew1 | refine below_set ?_ (IsS54.ge HI226.out)) | exact HB.out)) hb); clear HI226; clear HB; have HI226 := n0_; have HB := n1_; clear n0_ n1_; (try clear hb); (try clear hb2); (try clear hk); (try clear hi)) | (go_at_call 13; (with_reducible refine (tilefarmref9_Check.calls k1 a2 a3 a4 _ _ l1 a5 a6 t229 _ ?side1 ?side2 A61.out).mono ?_); (case side1 => repeat (first | exact (Kd.C_below HR1.out HB.out) | (with_reducible refine Kd.C_alloc ?_ _) | (with_reducible refine Kd.C_drewN ?_ _) | (with_reducible refine Kd.C_drew ?_))); (case side2 => exact HC1.out); rintro e w65 ⟨rfl, hb⟩; have n0_ := Aside0.mk (IsS54.below (by repeat (first | (with_reducible first | exact HI226.out | apply IsS54.alloc | apply IsS54.drewN | apply IsS54.drew | apply IsS54.set_1) | exact HI226.out)) hb); have n1_ := Aside0.mk (below_step (by repeat (first | (with_reducible first | exact HB.out | apply below_alloc | apply pw_below_drewN | apply below_drew1 | refine below_set ?_ (IsS54.ge HI226.out)) | exact HB.out)) hb); clear HI226; clear HB; have HI226 := n0_; have HB := n1_; clear n0_ n1_; (try clear hb); (try clear hb2); (try clear hk); (try clear hi)) | (go_at_call 14; (with_reducible refine (tilefarmlaw9_sane.calls k1  t230 _ A63.out).mono ?_); rintro e w66 ⟨rfl, hb⟩; have n0_ := Aside0.mk (IsS54.below (by repeat (first | (with_reducible first | exact HI226.out | apply IsS54.alloc | apply IsS54.drewN | apply IsS54.drew | apply IsS54.set_1) | exact HI226.out)) hb); have n1_ := Aside0.mk (below_step (by repeat (first | (with_reducible first | exact HB.out | apply below_alloc | apply pw_below_drewN | apply below_drew1 | refine below_set ?_ (IsS54.ge HI226.out)) | exact HB.out)) hb); clear HI226; clear HB; have HI226 := n0_; have HB := n1_; clear n0_ n1_; (try clear hb); (try clear hb2); (try clear hk); (try clear hi)))
            go_ret
            exact ⟨by first | rfl | (simp [errW_none, errW_some] <;> rfl) | (simp [*, errW_none, errW_some] <;> rfl), by repeat (first | (with_reducible first | exact HB.out | apply below_alloc | apply pw_below_drewN | apply below_drew1 | refine below_set ?_ (IsS54.ge HI226.out)) | exact HB.out)⟩
          · rw [if_neg c62] at H
            have c62b0 : (t228 == t229) = false := beq_eq_false_iff_ne.mpr c62
            have c62b1 : (t228 != t229) = true := bne_iff_ne.mpr c62
            exact absurd ((Option.some.inj H).trans HT.out) (by decide)

/-- THE ONE PURE STATEMENT of tilefarmlaw9_ConvolveChecks: yours. -/
def tilefarmlaw9_ConvolveChecks.Pure : Prop := ∀ (l0 : List Int) (l1 : List Int) (a2 : Int) (a3 : Int) (a4 : Int) (a5 : Int) (a6 : Int), l0.length ≤ maxLen → l0.length * 8 ≤ 140737488351232 → (∀ x ∈ l0, (Lit.int .i64 x).wf = true) → l1.length ≤ maxLen → l1.length * 8 ≤ 140737488351232 → (∀ x ∈ l1, (Lit.int .i64 x).wf = true) → (Lit.int .i64 a2).wf = true → (Lit.int .i64 a3).wf = true → (Lit.int .i64 a4).wf = true → (Lit.int .i64 a5).wf = true → (Lit.int .i64 a6).wf = true → ∃ k, tilefarmlaw9_ConvolveChecks.f k l0 l1 a2 a3 a4 a5 a6 = some true
theorem tilefarmlaw9_ConvolveChecks.walk (P : tilefarmlaw9_ConvolveChecks.Pure) (a0 : Option Addr) (len0 cap0 : Nat) (z0 : List Int) (a1 : Option Addr) (len1 cap1 : Nat) (z1 : List Int) (a2 : Int) (a3 : Int) (a4 : Int) (a5 : Int) (a6 : Int) (w : World) (w0 : (a0 = none ∧ len0 = 0 ∧ cap0 = 0 ∧ z0 = []) ∨ ∃ x, a0 = some x ∧ len0 ≤ cap0 ∧ cap0 ≤ maxLen ∧ z0.length = cap0 ∧ (∀ i, i < z0.length → w.cell? (x.add i) = some (.int .i64 (z0.getD i 0))) ∧ ∀ n ∈ z0, (Lit.int .i64 n).wf = true) (y0 : len0 * 8 ≤ 140737488351232) (w1 : (a1 = none ∧ len1 = 0 ∧ cap1 = 0 ∧ z1 = []) ∨ ∃ x, a1 = some x ∧ len1 ≤ cap1 ∧ cap1 ≤ maxLen ∧ z1.length = cap1 ∧ (∀ i, i < z1.length → w.cell? (x.add i) = some (.int .i64 (z1.getD i 0))) ∧ ∀ n ∈ z1, (Lit.int .i64 n).wf = true) (y1 : len1 * 8 ≤ 140737488351232) (w2 : (Lit.int .i64 a2).wf = true) (w3 : (Lit.int .i64 a3).wf = true) (w4 : (Lit.int .i64 a4).wf = true) (w5 : (Lit.int .i64 a5).wf = true) (w6 : (Lit.int .i64 a6).wf = true) :
    Calls Try.prog 3 #[.slice a0 len0 cap0, .slice a1 len1 cap1, .int .i64 a2, .int .i64 a3, .int .i64 a4, .int .i64 a5, .int .i64 a6] w fun e w' => e = .returned (.bool true) ∧ Below w.heap.size w w' := by
  obtain ⟨l0, rfl, hr0, hm0, hw0, hc0⟩ := ReadsInt.ofRowC w0
  obtain ⟨l1, rfl, hr1, hm1, hw1, hc1⟩ := ReadsInt.ofRowC w1
  obtain ⟨k, h⟩ := P l0 l1 a2 a3 a4 a5 a6 hm0 y0 hw0 hm1 y1 hw1 w2 w3 w4 w5 w6
  refine (tilefarmlaw9_ConvolveChecks.calls k _ _ l0 _ _ l1 a2 a3 a4 a5 a6 true w (Kd.C_of_reads (d := (0 : Int)) (h1 := fun _ => rfl) hr0) hc0 (Kd.C_of_reads (d := (0 : Int)) (h1 := fun _ => rfl) hr1) hc1 h).mono ?_
  rintro e w' ⟨rfl, hd⟩
  exact ⟨rfl, hd⟩

end Go.Proofs.Ythgmndomnibefaa.PConvolveChecks
