-- Written by a program of the session (wip/tools/myprint.py) over the kit's printer; checked by Lean.
import Derived.Test.YtepbjipmfchpnaaPFixedShiftsx0
import Derived.Test.YtepbjipmfchpnaaPFixedShiftsx1
import Derived.Test.YtepbjipmfchpnaaPFixedShiftsx2
namespace Go.Proofs.Ytepbjipmfchpnaa.PFixedShifts
open Go.RowKit Go.Proofs.YtepbjipmfchpnaaW.PrintWords Go.Proofs.YtepbjipmfchpnaaW.PrintLast Go.Proofs.YtepbjipmfchpnaaW.PrintMore
attribute [local go_sem] max2_int min2_int max_two min_two max_three min_three max_four min_four   -- for this text's walks alone
set_option linter.unusedVariables false
set_option linter.unusedSimpArgs false

/-! ### tilefarmlaw7_FixedShifts: function 6 -/
mutual
def tilefarmlaw7_FixedShifts.l0 : Nat → Int → Int → Int → List Int → Int → Int → Option (Bool)
  | 0, _, _, _, _, _, _ => none
  | k + 1, x1, x2, x3, x25, x26, x27 => if x27 < x26 then (if 0 ≤ x27 then (if x27 < (x25.length : Int) then ((tilefarmgen_Mod.f x2 25).bind fun t127 => ((some (([x2, t127, 1] : List Int) : List Int)).bind fun y128 => (tilefarmlaw7_FixedShifts.l1 k x1 x2 x3 (rd x25 x27) x25 x26 x27 y128 (y128.length : Int) 0))) else (none)) else (none)) else ((tilefarmlaw7_sane.f k).bind fun t125 => (some t125))
def tilefarmlaw7_FixedShifts.l1 : Nat → Int → Int → Int → Int → List Int → Int → Int → List Int → Int → Int → Option (Bool)
  | 0, _, _, _, _, _, _, _, _, _, _ => none
  | k + 1, x1, x2, x3, x10, x25, x26, x27, x34, x35, x36 => if x36 < x35 then (if 0 ≤ x36 then (if x36 < (x34.length : Int) then ((fixed_Span.f k x10 x1 (rd x34 x36)).bind fun bt132 => ((tilefarmref7_Span.f k x10 x1 (rd x34 x36)).bind fun bt134 => ((fixed_Shift.f k x10 (rd x34 x36)).bind fun t136 => ((tilefarmref7_Shift.f k x10 (rd x34 x36)).bind fun t137 => (if t136 = t137 then (if bt132.1 = bt134.1 then (if bt132.2 = bt134.2 then (tilefarmlaw7_FixedShifts.l1 k x1 x2 x3 x10 x25 x26 x27 x34 x35 (wrap64 (x36 + 1))) else (some false)) else (some false)) else (some false)))))) else (none)) else (none)) else ((fixed_Clamp.f x10 x3).bind fun t138 => ((tilefarmref7_Clamp.f k x10 x3).bind fun t139 => (if t138 = t139 then ((tilefarmgen_Mod.f x3 500).bind fun t140 => ((fixed_Clamp.f x10 t140).bind fun t141 => ((tilefarmgen_Mod.f x3 500).bind fun t142 => ((tilefarmref7_Clamp.f k x10 t142).bind fun t143 => (if t141 = t143 then (tilefarmlaw7_FixedShifts.l0 k x1 x2 x3 x25 x26 (wrap64 (x27 + 1))) else (some false)))))) else (some false))))
end
def tilefarmlaw7_FixedShifts.f (k : Nat) (a0 : Int) (a1 : Int) (a2 : Int) (a3 : Int) : Option (Bool) := (tilefarmgen_Mod.f a0 2000).bind fun t120 => ((tilefarmgen_Mod.f a1 70368744177664).bind fun t121 => ((some (([a0, a1, wrap64 (t120 - 1000), wrap64 (t121 - 35184372088832)] : List Int) : List Int)).bind fun y122 => (tilefarmlaw7_FixedShifts.l0 k a1 a2 a3 y122 (y122.length : Int) 0)))
theorem tilefarmlaw7_FixedShifts.mono_l : ∀ k, (∀ y0 y1 y2 y3 y4 y5, LeO (tilefarmlaw7_FixedShifts.l0 k y0 y1 y2 y3 y4 y5) (tilefarmlaw7_FixedShifts.l0 (k + 1) y0 y1 y2 y3 y4 y5)) ∧ (∀ y0 y1 y2 y3 y4 y5 y6 y7 y8 y9, LeO (tilefarmlaw7_FixedShifts.l1 k y0 y1 y2 y3 y4 y5 y6 y7 y8 y9) (tilefarmlaw7_FixedShifts.l1 (k + 1) y0 y1 y2 y3 y4 y5 y6 y7 y8 y9))
  | 0 => ⟨fun _ _ _ _ _ _ r h => by simp [tilefarmlaw7_FixedShifts.l0] at h, fun _ _ _ _ _ _ _ _ _ _ r h => by simp [tilefarmlaw7_FixedShifts.l1] at h⟩
  | k + 1 => by
    obtain ⟨ih0, ih1⟩ := tilefarmlaw7_FixedShifts.mono_l k
    refine ⟨?_, ?_⟩
    · intro y0 y1 y2 y3 y4 y5
      unfold tilefarmlaw7_FixedShifts.l0
      repeat' first
      | (with_reducible exact ih0 _ _ _ _ _ _)
      | (with_reducible exact ih1 _ _ _ _ _ _ _ _ _ _)
      | (with_reducible exact fixed_Shift.mono _ _ _)
      | (with_reducible exact fixed_Span.mono _ _ _ _)
      | (with_reducible exact tilefarmlaw7_sane.mono _)
      | (with_reducible exact tilefarmref7_Clamp.mono _ _ _)
      | (with_reducible exact tilefarmref7_Shift.mono _ _ _)
      | (with_reducible exact tilefarmref7_Span.mono _ _ _ _)
      | (with_reducible exact LeO.refl _)
      | (with_reducible exact LeO.none _)
      | (with_reducible refine LeO.ite ?_ ?_)
      | (with_reducible refine LeO.bind ?_ (fun _ => ?_))
      | exact ih0 _ _ _ _ _ _
      | exact ih1 _ _ _ _ _ _ _ _ _ _
      | exact fixed_Shift.mono _ _ _
      | exact fixed_Span.mono _ _ _ _
      | exact tilefarmlaw7_sane.mono _
      | exact tilefarmref7_Clamp.mono _ _ _
      | exact tilefarmref7_Shift.mono _ _ _
      | exact tilefarmref7_Span.mono _ _ _ _
      | exact LeO.none _
      | refine LeO.ite ?_ ?_
      | refine LeO.bind ?_ (fun _ => ?_)
    · intro y0 y1 y2 y3 y4 y5 y6 y7 y8 y9
      unfold tilefarmlaw7_FixedShifts.l1
      repeat' first
      | (with_reducible exact ih0 _ _ _ _ _ _)
      | (with_reducible exact ih1 _ _ _ _ _ _ _ _ _ _)
      | (with_reducible exact fixed_Shift.mono _ _ _)
      | (with_reducible exact fixed_Span.mono _ _ _ _)
      | (with_reducible exact tilefarmlaw7_sane.mono _)
      | (with_reducible exact tilefarmref7_Clamp.mono _ _ _)
      | (with_reducible exact tilefarmref7_Shift.mono _ _ _)
      | (with_reducible exact tilefarmref7_Span.mono _ _ _ _)
      | (with_reducible exact LeO.refl _)
      | (with_reducible exact LeO.none _)
      | (with_reducible refine LeO.ite ?_ ?_)
      | (with_reducible refine LeO.bind ?_ (fun _ => ?_))
      | exact ih0 _ _ _ _ _ _
      | exact ih1 _ _ _ _ _ _ _ _ _ _
      | exact fixed_Shift.mono _ _ _
      | exact fixed_Span.mono _ _ _ _
      | exact tilefarmlaw7_sane.mono _
      | exact tilefarmref7_Clamp.mono _ _ _
      | exact tilefarmref7_Shift.mono _ _ _
      | exact tilefarmref7_Span.mono _ _ _ _
      | exact LeO.none _
      | refine LeO.ite ?_ ?_
      | refine LeO.bind ?_ (fun _ => ?_)
theorem tilefarmlaw7_FixedShifts.mono : ∀ a0 a1 a2 a3 k, LeO (tilefarmlaw7_FixedShifts.f k a0 a1 a2 a3) (tilefarmlaw7_FixedShifts.f (k + 1) a0 a1 a2 a3) := by
  intro a0 a1 a2 a3 k
  obtain ⟨ih0, ih1⟩ := tilefarmlaw7_FixedShifts.mono_l k
  unfold tilefarmlaw7_FixedShifts.f
  repeat' first
      | (with_reducible exact ih0 _ _ _ _ _ _)
      | (with_reducible exact ih1 _ _ _ _ _ _ _ _ _ _)
      | (with_reducible exact fixed_Shift.mono _ _ _)
      | (with_reducible exact fixed_Span.mono _ _ _ _)
      | (with_reducible exact tilefarmlaw7_sane.mono _)
      | (with_reducible exact tilefarmref7_Clamp.mono _ _ _)
      | (with_reducible exact tilefarmref7_Shift.mono _ _ _)
      | (with_reducible exact tilefarmref7_Span.mono _ _ _ _)
      | (with_reducible exact LeO.refl _)
      | (with_reducible exact LeO.none _)
      | (with_reducible refine LeO.ite ?_ ?_)
      | (with_reducible refine LeO.bind ?_ (fun _ => ?_))
      | exact ih0 _ _ _ _ _ _
      | exact ih1 _ _ _ _ _ _ _ _ _ _
      | exact fixed_Shift.mono _ _ _
      | exact fixed_Span.mono _ _ _ _
      | exact tilefarmlaw7_sane.mono _
      | exact tilefarmref7_Clamp.mono _ _ _
      | exact tilefarmref7_Shift.mono _ _ _
      | exact tilefarmref7_Span.mono _ _ _ _
      | exact LeO.none _
      | refine LeO.ite ?_ ?_
      | refine LeO.bind ?_ (fun _ => ?_)
set_option maxHeartbeats 8000000 in
set_option maxRecDepth 100000 in
theorem tilefarmlaw7_FixedShifts.calls (k : Nat) (a0 : Int) (a1 : Int) (a2 : Int) (a3 : Int) (r : Bool) (w : World) (h : tilefarmlaw7_FixedShifts.f k a0 a1 a2 a3 = some r) (hT : r = true := by first | rfl | assumption | exact HT.out) :
    Calls Try.prog 6 #[.int .i64 a0, .int .i64 a1, .int .i64 a2, .int .i64 a3] w fun e w' => e = .returned (.bool r) ∧ Below w.heap.size w w' := by
  have HT := Aside0.mk hT
  clear hT
  have HB := Aside0.mk (Below.refl w.heap.size w)
  have H : ((tilefarmgen_Mod.f a0 2000).bind fun t120 => ((tilefarmgen_Mod.f a1 70368744177664).bind fun t121 => ((some (([a0, a1, wrap64 (t120 - 1000), wrap64 (t121 - 35184372088832)] : List Int) : List Int)).bind fun y122 => (tilefarmlaw7_FixedShifts.l0 k a1 a2 a3 y122 (y122.length : Int) 0)))) = some r := h
  clear h
  replace H := Option.bind_eq_some_iff.mp H
  obtain ⟨t120, A50, H⟩ := H
  replace H : ((tilefarmgen_Mod.f a1 70368744177664).bind fun t121 => ((some (([a0, a1, wrap64 (t120 - 1000), wrap64 (t121 - 35184372088832)] : List Int) : List Int)).bind fun y122 => (tilefarmlaw7_FixedShifts.l0 k a1 a2 a3 y122 (y122.length : Int) 0))) = some r := H
  have A5 := Aside0.mk A50
  clear A50
  replace H := Option.bind_eq_some_iff.mp H
  obtain ⟨t121, A60, H⟩ := H
  replace H : ((some (([a0, a1, wrap64 (t120 - 1000), wrap64 (t121 - 35184372088832)] : List Int) : List Int)).bind fun y122 => (tilefarmlaw7_FixedShifts.l0 k a1 a2 a3 y122 (y122.length : Int) 0)) = some r := H
  have A6 := Aside0.mk A60
  clear A60
  obtain ⟨y122, hy122⟩ : ∃ y_ : List Int, y_ = (([a0, a1, wrap64 (t120 - 1000), wrap64 (t121 - 35184372088832)] : List Int)) := ⟨_, rfl⟩
  replace H : (tilefarmlaw7_FixedShifts.l0 k a1 a2 a3 y122 (y122.length : Int) 0) = some r := by first | (rw [hy122]; with_reducible exact H) | (have H2_ := (Option.bind_some _ _).symm.trans H; rw [hy122]; with_reducible exact H2_) | (have H2_ := (Option.bind_some _ _).symm.trans H; with_reducible exact H2_) | with_reducible exact H | (rw [hy122]; exact H) | exact H
  have Ny122 := Aside0.mk hy122
  clear hy122
  have H' := Aside0.mk H
  clear H
  go_enter Try.func6, Try.ntmps6
  go_wp2_with (first | ((with_reducible refine gate_callee (f := 16) rfl ?_); refine goesL_ (some 20) rfl rfl Try.func16 (by kernel_rfl) rfl #[.int .i64 a0, .int .i64 2000] rfl (by (try simp only [List.map_toArray, List.map_cons, List.map_nil]); first | done | rfl | (simp only [List.length_drop, List.length_take]; rfl)) ?_; (with_reducible refine (tilefarmgen_Mod.calls a0 2000 t120 _ A5.out).mono ?_); rintro e w' ⟨rfl, ⟨nd, rfl⟩⟩; refine ⟨_, rfl, ?_⟩) | ((with_reducible refine gate_callee (f := 16) rfl ?_); refine goesL_ (some 23) rfl rfl Try.func16 (by kernel_rfl) rfl #[.int .i64 a1, .int .i64 70368744177664] rfl (by (try simp only [List.map_toArray, List.map_cons, List.map_nil]); first | done | rfl | (simp only [List.length_drop, List.length_take]; rfl)) ?_; (with_reducible refine (tilefarmgen_Mod.calls a1 70368744177664 t121 _ A6.out).mono ?_); rintro e w' ⟨rfl, ⟨nd, rfl⟩⟩; refine ⟨_, rfl, ?_⟩) | ((with_reducible refine gate_dst (N := 25) rfl ?_); refine Kd.R_lit (Kd.int .i64) _ 3 ?hg (N := 25) ?hd (xs := ([a0, a1, wrap64 (t120 - 1000), wrap64 (t121 - 35184372088832)] : List Int)) (inner := [.int .i64 a0, .int .i64 a1, .int .i64 (wrap64 (t120 - 1000)), .int .i64 (wrap64 (t121 - 35184372088832))]) (ok := fun _ => True) (okp := fun _ => True) ?hr ?hp (fun _ hk => hk) trivial (Below.refl _ _) (Nat.le_refl _) (by simp) ?_; (case hd => rfl); (case hg => rfl); (case hr => first | (go_simp; done) | (go_simp; rfl)); (case hp => exact (Reps.one (show Kd.M (Kd.int .i64) _ _ _ a0 [.int .i64 a0] from rfl) (Reps.one (show Kd.M (Kd.int .i64) _ _ _ a1 [.int .i64 a1] from rfl) (Reps.one (show Kd.M (Kd.int .i64) _ _ _ (wrap64 (t120 - 1000)) [.int .i64 (wrap64 (t120 - 1000))] from rfl) (Reps.one (show Kd.M (Kd.int .i64) _ _ _ (wrap64 (t121 - 35184372088832)) [.int .i64 (wrap64 (t121 - 35184372088832))] from rfl) (Reps.none _ _)))))); intro v123 w7 ho8 hb hg_ hnew_; clear hg_ hnew_; (first | rw [← Ny122.out] at ho8 | (simp only [Int.reduceToNat] at ho8; rw [← Ny122.out] at ho8)); have n0_ := Aside0.mk (Kd.R_lower ho8 (below_size (by repeat (first | (with_reducible first | exact HB.out | apply below_alloc | apply pw_below_drewN | apply below_drew1) | exact HB.out)))); have n1_ := Aside0.mk (below_step (by repeat (first | (with_reducible first | exact HB.out | apply below_alloc | apply pw_below_drewN | apply below_drew1) | exact HB.out)) hb); clear HB; have HO124 := n0_; have HB := n1_; clear n0_ n1_; clear hb ho8; obtain ⟨Ao9, co9, eo9⟩ := Kd.R_slice HO124.out; subst eo9))
  go_loopg [27] k (fun kq v27 w' => ∃ (x27_1 : Int), v27 = .int .i64 x27_1 ∧ Aside0 (tilefarmlaw7_FixedShifts.l0 kq a1 a2 a3 y122 (y122.length : Int) x27_1 = some r) ∧ Aside0 (kq ≤ k) ∧ Aside0 (Kd.R (Kd.int .i64) 3 w' w.heap.size (fun _ => True) (.slice Ao9 y122.length co9) y122) ∧ Aside0 (Below w.heap.size w w'))
  case atStart => exact ⟨(0), (by first | rfl | (simp; done) | (simp [*]; done)), H', ⟨Nat.le_refl _⟩, ⟨by (with_reducible repeat (first | apply Kd.R_alloc | apply Kd.R_drewN | apply Kd.R_drew)); exact HO124.out⟩, ⟨by repeat (first | (with_reducible first | exact HB.out | apply below_alloc | apply pw_below_drewN | apply below_drew1) | exact HB.out)⟩⟩
  case round =>
    clear H'
    try clear c1
    try clear p2
    try clear c6
    try clear p6
    obtain ⟨x27_1, rfl, HA, HK1, HO_25, HB⟩ := hrel
    cases gk with
    | zero => exact absurd HA.out (by simp [tilefarmlaw7_FixedShifts.l0])
    | succ k1 =>
      have H := HA.out
      clear HA
      simp only [tilefarmlaw7_FixedShifts.l0] at H
      by_cases c10 : x27_1 < (y122.length : Int)
      · rw [if_pos c10] at H
        have c10b0 : decide (x27_1 < (y122.length : Int)) = true := decide_eq_true c10
        clear c10
        by_cases c11 : 0 ≤ x27_1
        · rw [if_pos c11] at H
          have c11b0 : decide (0 ≤ x27_1) = true := decide_eq_true c11
          clear c11
          by_cases c12 : x27_1 < (y122.length : Int)
          · rw [if_pos c12] at H
            have c12b0 : decide (x27_1 < (y122.length : Int)) = true := decide_eq_true c12
            clear c12
            replace H := Option.bind_eq_some_iff.mp H
            obtain ⟨t127, A130, H⟩ := H
            replace H : ((some (([a2, t127, 1] : List Int) : List Int)).bind fun y128 => (tilefarmlaw7_FixedShifts.l1 k1 a1 a2 a3 (rd y122 x27_1) y122 (y122.length : Int) x27_1 y128 (y128.length : Int) 0)) = some r := H
            have A13 := Aside0.mk A130
            clear A130
            obtain ⟨y128, hy128⟩ : ∃ y_ : List Int, y_ = (([a2, t127, 1] : List Int)) := ⟨_, rfl⟩
            replace H : (tilefarmlaw7_FixedShifts.l1 k1 a1 a2 a3 (rd y122 x27_1) y122 (y122.length : Int) x27_1 y128 (y128.length : Int) 0) = some r := by first | (rw [hy128]; with_reducible exact H) | (have H2_ := (Option.bind_some _ _).symm.trans H; rw [hy128]; with_reducible exact H2_) | (have H2_ := (Option.bind_some _ _).symm.trans H; with_reducible exact H2_) | with_reducible exact H | (rw [hy128]; exact H) | exact H
            have Ny128 := Aside0.mk hy128
            clear hy128
            have H' := Aside0.mk H
            clear H
            have p126 : 0 ≤ (x27_1 : Int) := of_decide_eq_true (by first | (with_reducible assumption) | assumption)
            have q126 : x27_1 < (y122.length : Int) := of_decide_eq_true (by first | (with_reducible assumption) | assumption)
            obtain ⟨ad126, e126, hx126_0⟩ := Kd.at_int (Kd.R_reads' HO_25.out).2.2 x27_1 p126 q126
            cases e126
            replace p126 := eq_true p126
            replace q126 := eq_true q126
            go_wp2_with (first | ((with_reducible refine gate_callee (f := 16) rfl ?_); refine goesL_ (some 33) rfl rfl Try.func16 (by kernel_rfl) rfl #[.int .i64 a2, .int .i64 25] rfl (by (try simp only [List.map_toArray, List.map_cons, List.map_nil]); first | done | rfl | (simp only [List.length_drop, List.length_take]; rfl)) ?_; (with_reducible refine (tilefarmgen_Mod.calls a2 25 t127 _ A13.out).mono ?_); rintro e w' ⟨rfl, ⟨nd, rfl⟩⟩; refine ⟨_, rfl, ?_⟩) | ((with_reducible refine gate_dst (N := 34) rfl ?_); refine Kd.R_lit (Kd.int .i64) _ 3 ?hg (N := 34) ?hd (xs := ([a2, t127, 1] : List Int)) (inner := [.int .i64 a2, .int .i64 t127, .int .i64 1]) (ok := fun _ => True) (okp := fun _ => True) ?hr ?hp (fun _ hk => hk) trivial (Below.refl _ _) (Nat.le_refl _) (by simp) ?_; (case hd => rfl); (case hg => rfl); (case hr => first | (go_simp; done) | (go_simp; rfl)); (case hp => exact (Reps.one (show Kd.M (Kd.int .i64) _ _ _ a2 [.int .i64 a2] from rfl) (Reps.one (show Kd.M (Kd.int .i64) _ _ _ t127 [.int .i64 t127] from rfl) (Reps.one (show Kd.M (Kd.int .i64) _ _ _ 1 [.int .i64 1] from rfl) (Reps.none _ _))))); intro v129 w14 ho15 hb hg_ hnew_; clear hg_ hnew_; (first | rw [← Ny128.out] at ho15 | (simp only [Int.reduceToNat] at ho15; rw [← Ny128.out] at ho15)); have n0_ := Aside0.mk (Kd.R_elder' (by (with_reducible repeat (first | apply Kd.R_alloc | apply Kd.R_drewN | apply Kd.R_drew)); exact HO_25.out) (Kd.R_base ho15) hb); have n1_ := Aside0.mk (Kd.R_lower (Kd.R_new' ho15 (Kd.R_lt (by (with_reducible repeat (first | apply Kd.R_alloc | apply Kd.R_drewN | apply Kd.R_drew)); exact HO_25.out))) (below_size (by repeat (first | (with_reducible first | exact HB.out | apply below_alloc | apply pw_below_drewN | apply below_drew1) | exact HB.out)))); have n2_ := Aside0.mk (below_step (by repeat (first | (with_reducible first | exact HB.out | apply below_alloc | apply pw_below_drewN | apply below_drew1) | exact HB.out)) hb); clear HO_25; clear HB; have HO_25 := n0_; have HO130 := n1_; have HB := n2_; clear n0_ n1_ n2_; clear hb ho15; obtain ⟨Ao16, co16, eo16⟩ := Kd.R_slice HO130.out; subst eo16))
            go_loopg [36] k1 (fun kq v36 w' => ∃ (x36_2 : Int), v36 = .int .i64 x36_2 ∧ Aside0 (tilefarmlaw7_FixedShifts.l1 kq a1 a2 a3 (rd y122 x27_1) y122 (y122.length : Int) x27_1 y128 (y128.length : Int) x36_2 = some r) ∧ Aside0 (kq ≤ k1) ∧ Aside0 (Kd.R (Kd.int .i64) 3 w' w.heap.size (fun k_ => some k_ ≠ ((.slice Ao16 y128.length co16) : Value).ownBlock) (.slice (some ad126) y122.length co9) y122) ∧ Aside0 (Kd.R (Kd.int .i64) 3 w' w.heap.size (fun k_ => some k_ ≠ ((.slice (some ad126) y122.length co9) : Value).ownBlock) (.slice Ao16 y128.length co16) y128) ∧ Aside0 (Below w.heap.size w w'))
            case atStart => exact ⟨(0), (by first | rfl | (simp; done) | (simp [*]; done)), H', ⟨Nat.le_refl _⟩, ⟨by (with_reducible repeat (first | apply Kd.R_alloc | apply Kd.R_drewN | apply Kd.R_drew)); exact Kd.R_mono HO_25.out (fun _ hk => hk.2)⟩, ⟨by (with_reducible repeat (first | apply Kd.R_alloc | apply Kd.R_drewN | apply Kd.R_drew)); exact Kd.R_mono HO130.out (fun _ hk => hk.2)⟩, ⟨by repeat (first | (with_reducible first | exact HB.out | apply below_alloc | apply pw_below_drewN | apply below_drew1) | exact HB.out)⟩⟩
            case round =>
              clear H'
              try clear c1
              try clear p1
              try clear q1
              try clear hx1
              try clear p2
              try clear c6
              try clear p6
              try clear c10
              try clear c10b0
              try clear c11
              try clear c11b0
              try clear c12
              try clear c12b0
              try clear p12
              try clear q12
              try clear hx12
              try clear c16
              try clear hx126_0
              try clear p126
              try clear p2
              try clear p6
              try clear q126
              obtain ⟨x36_2, rfl, HA, HK2, HO_25, HO_34, HB⟩ := hrel
              cases gk with
              | zero => exact absurd HA.out (by simp [tilefarmlaw7_FixedShifts.l1])
              | succ k2 =>
                have H := HA.out
                clear HA
                simp only [tilefarmlaw7_FixedShifts.l1] at H
                by_cases c17 : x36_2 < (y128.length : Int)
                · rw [if_pos c17] at H
                  have c17b0 : decide (x36_2 < (y128.length : Int)) = true := decide_eq_true c17
                  clear c17
                  by_cases c18 : 0 ≤ x36_2
                  · rw [if_pos c18] at H
                    have c18b0 : decide (0 ≤ x36_2) = true := decide_eq_true c18
                    clear c18
                    by_cases c19 : x36_2 < (y128.length : Int)
                    · rw [if_pos c19] at H
                      have c19b0 : decide (x36_2 < (y128.length : Int)) = true := decide_eq_true c19
                      clear c19
                      replace H := Option.bind_eq_some_iff.mp H
                      obtain ⟨⟨t132, t133⟩, A200, H⟩ := H
                      replace H : ((tilefarmref7_Span.f k2 (rd y122 x27_1) a1 (rd y128 x36_2)).bind fun bt134 => ((fixed_Shift.f k2 (rd y122 x27_1) (rd y128 x36_2)).bind fun t136 => ((tilefarmref7_Shift.f k2 (rd y122 x27_1) (rd y128 x36_2)).bind fun t137 => (if t136 = t137 then (if t132 = bt134.1 then (if t133 = bt134.2 then (tilefarmlaw7_FixedShifts.l1 k2 a1 a2 a3 (rd y122 x27_1) y122 (y122.length : Int) x27_1 y128 (y128.length : Int) (wrap64 (x36_2 + 1))) else (some false)) else (some false)) else (some false))))) = some r := H
                      have A20 := Aside0.mk A200
                      clear A200
                      replace H := Option.bind_eq_some_iff.mp H
                      obtain ⟨⟨t134, t135⟩, A210, H⟩ := H
                      replace H : ((fixed_Shift.f k2 (rd y122 x27_1) (rd y128 x36_2)).bind fun t136 => ((tilefarmref7_Shift.f k2 (rd y122 x27_1) (rd y128 x36_2)).bind fun t137 => (if t136 = t137 then (if t132 = t134 then (if t133 = t135 then (tilefarmlaw7_FixedShifts.l1 k2 a1 a2 a3 (rd y122 x27_1) y122 (y122.length : Int) x27_1 y128 (y128.length : Int) (wrap64 (x36_2 + 1))) else (some false)) else (some false)) else (some false)))) = some r := H
                      have A21 := Aside0.mk A210
                      clear A210
                      replace H := Option.bind_eq_some_iff.mp H
                      obtain ⟨t136, A220, H⟩ := H
                      replace H : ((tilefarmref7_Shift.f k2 (rd y122 x27_1) (rd y128 x36_2)).bind fun t137 => (if t136 = t137 then (if t132 = t134 then (if t133 = t135 then (tilefarmlaw7_FixedShifts.l1 k2 a1 a2 a3 (rd y122 x27_1) y122 (y122.length : Int) x27_1 y128 (y128.length : Int) (wrap64 (x36_2 + 1))) else (some false)) else (some false)) else (some false))) = some r := H
                      have A22 := Aside0.mk A220
                      clear A220
                      replace H := Option.bind_eq_some_iff.mp H
                      obtain ⟨t137, A230, H⟩ := H
                      replace H : (if t136 = t137 then (if t132 = t134 then (if t133 = t135 then (tilefarmlaw7_FixedShifts.l1 k2 a1 a2 a3 (rd y122 x27_1) y122 (y122.length : Int) x27_1 y128 (y128.length : Int) (wrap64 (x36_2 + 1))) else (some false)) else (some false)) else (some false)) = some r := H
                      have A23 := Aside0.mk A230
                      clear A230
                      by_cases c24 : t136 = t137
                      · rw [if_pos c24] at H
                        have c24b0 : (t136 == t137) = true := beq_iff_eq.mpr c24
                        have c24b1 : (t136 != t137) = false := bne_eq_false_iff_eq.mpr c24
                        clear c24
                        by_cases c25 : t132 = t134
                        · rw [if_pos c25] at H
                          have c25b0 : (t132 == t134) = true := beq_iff_eq.mpr c25
                          have c25b1 : (t132 != t134) = false := bne_eq_false_iff_eq.mpr c25
                          clear c25
                          by_cases c26 : t133 = t135
                          · rw [if_pos c26] at H
                            have c26b0 : (t133 == t135) = true := beq_iff_eq.mpr c26
                            have c26b1 : (t133 != t135) = false := bne_eq_false_iff_eq.mpr c26
                            clear c26
                            have H' := Aside0.mk H
                            clear H
                            have p131 : 0 ≤ (x36_2 : Int) := of_decide_eq_true (by first | (with_reducible assumption) | assumption)
                            have q131 : x36_2 < (y128.length : Int) := of_decide_eq_true (by first | (with_reducible assumption) | assumption)
                            obtain ⟨ad131, e131, hx131_0⟩ := Kd.at_int (Kd.R_reads' HO_34.out).2.2 x36_2 p131 q131
                            cases e131
                            replace p131 := eq_true p131
                            replace q131 := eq_true q131
                            go_wp2_with (first | ((with_reducible refine gate_callee (f := 18) rfl ?_); refine goesL_ (some 44) rfl rfl Try.func18 (by kernel_rfl) rfl #[.int .i64 (rd y122 x27_1), .int .i64 a1, .int .i64 (rd y128 x36_2)] rfl (by (try simp only [List.map_toArray, List.map_cons, List.map_nil]); first | done | rfl | (simp only [List.length_drop, List.length_take]; rfl)) ?_; (with_reducible refine (fixed_Span.calls k2 (rd y122 x27_1) a1 (rd y128 x36_2) t132 t133 _ A20.out).mono ?_); rintro e w' ⟨rfl, ⟨nd, rfl⟩⟩; refine ⟨_, rfl, ?_⟩) | ((with_reducible refine gate_callee (f := 19) rfl ?_); refine goesL_ (some 51) rfl rfl Try.func19 (by kernel_rfl) rfl #[.int .i64 (rd y122 x27_1), .int .i64 a1, .int .i64 (rd y128 x36_2)] rfl (by (try simp only [List.map_toArray, List.map_cons, List.map_nil]); first | done | rfl | (simp only [List.length_drop, List.length_take]; rfl)) ?_; (with_reducible refine (tilefarmref7_Span.calls k2 (rd y122 x27_1) a1 (rd y128 x36_2) t134 t135 _ A21.out).mono ?_); rintro e w' ⟨rfl, ⟨nd, rfl⟩⟩; refine ⟨_, rfl, ?_⟩) | ((with_reducible refine gate_callee (f := 20) rfl ?_); refine goesL_ (some 56) rfl rfl Try.func20 (by kernel_rfl) rfl #[.int .i64 (rd y122 x27_1), .int .i64 (rd y128 x36_2)] rfl (by (try simp only [List.map_toArray, List.map_cons, List.map_nil]); first | done | rfl | (simp only [List.length_drop, List.length_take]; rfl)) ?_; (with_reducible refine (fixed_Shift.calls k2 (rd y122 x27_1) (rd y128 x36_2) t136 _ A22.out).mono ?_); rintro e w' ⟨rfl, ⟨nd, rfl⟩⟩; refine ⟨_, rfl, ?_⟩) | ((with_reducible refine gate_callee (f := 21) rfl ?_); refine goesL_ (some 59) rfl rfl Try.func21 (by kernel_rfl) rfl #[.int .i64 (rd y122 x27_1), .int .i64 (rd y128 x36_2)] rfl (by (try simp only [List.map_toArray, List.map_cons, List.map_nil]); first | done | rfl | (simp only [List.length_drop, List.length_take]; rfl)) ?_; (with_reducible refine (tilefarmref7_Shift.calls k2 (rd y122 x27_1) (rd y128 x36_2) t137 _ A23.out).mono ?_); rintro e w' ⟨rfl, ⟨nd, rfl⟩⟩; refine ⟨_, rfl, ?_⟩))
                            go_roundg k2
                            case measure => have := HK1.out; have := HK2.out; omega
                            case rel => exact ⟨(wrap64 (x36_2 + 1)), (by first | rfl | (simp; done) | (simp [*]; done)), H', ⟨by have := HK1.out; have := HK2.out; omega⟩, ⟨by (with_reducible repeat (first | apply Kd.R_alloc | apply Kd.R_drewN | apply Kd.R_drew)); exact HO_25.out⟩, ⟨by (with_reducible repeat (first | apply Kd.R_alloc | apply Kd.R_drewN | apply Kd.R_drew)); exact HO_34.out⟩, ⟨by repeat (first | (with_reducible first | exact HB.out | apply below_alloc | apply pw_below_drewN | apply below_drew1) | exact HB.out)⟩⟩
                          · rw [if_neg c26] at H
                            have c26b0 : (t133 == t135) = false := beq_eq_false_iff_ne.mpr c26
                            have c26b1 : (t133 != t135) = true := bne_iff_ne.mpr c26
                            exact absurd ((Option.some.inj H).trans HT.out) (by decide)
                        · rw [if_neg c25] at H
                          have c25b0 : (t132 == t134) = false := beq_eq_false_iff_ne.mpr c25
                          have c25b1 : (t132 != t134) = true := bne_iff_ne.mpr c25
                          exact absurd ((Option.some.inj H).trans HT.out) (by decide)
                      · rw [if_neg c24] at H
                        have c24b0 : (t136 == t137) = false := beq_eq_false_iff_ne.mpr c24
                        have c24b1 : (t136 != t137) = true := bne_iff_ne.mpr c24
                        exact absurd ((Option.some.inj H).trans HT.out) (by decide)
                    · rw [if_neg c19] at H
                      exact absurd H (by simp)
                  · rw [if_neg c18] at H
                    exact absurd H (by simp)
                · rw [if_neg c17] at H
                  have c17b0 : decide (x36_2 < (y128.length : Int)) = false := decide_eq_false c17
                  clear c17
                  replace H := Option.bind_eq_some_iff.mp H
                  obtain ⟨t138, A270, H⟩ := H
                  replace H : ((tilefarmref7_Clamp.f k2 (rd y122 x27_1) a3).bind fun t139 => (if t138 = t139 then ((tilefarmgen_Mod.f a3 500).bind fun t140 => ((fixed_Clamp.f (rd y122 x27_1) t140).bind fun t141 => ((tilefarmgen_Mod.f a3 500).bind fun t142 => ((tilefarmref7_Clamp.f k2 (rd y122 x27_1) t142).bind fun t143 => (if t141 = t143 then (tilefarmlaw7_FixedShifts.l0 k2 a1 a2 a3 y122 (y122.length : Int) (wrap64 (x27_1 + 1))) else (some false)))))) else (some false))) = some r := H
                  have A27 := Aside0.mk A270
                  clear A270
                  replace H := Option.bind_eq_some_iff.mp H
                  obtain ⟨t139, A280, H⟩ := H
                  replace H : (if t138 = t139 then ((tilefarmgen_Mod.f a3 500).bind fun t140 => ((fixed_Clamp.f (rd y122 x27_1) t140).bind fun t141 => ((tilefarmgen_Mod.f a3 500).bind fun t142 => ((tilefarmref7_Clamp.f k2 (rd y122 x27_1) t142).bind fun t143 => (if t141 = t143 then (tilefarmlaw7_FixedShifts.l0 k2 a1 a2 a3 y122 (y122.length : Int) (wrap64 (x27_1 + 1))) else (some false)))))) else (some false)) = some r := H
                  have A28 := Aside0.mk A280
                  clear A280
                  by_cases c29 : t138 = t139
                  · rw [if_pos c29] at H
                    have c29b0 : (t138 == t139) = true := beq_iff_eq.mpr c29
                    have c29b1 : (t138 != t139) = false := bne_eq_false_iff_eq.mpr c29
                    clear c29
                    replace H := Option.bind_eq_some_iff.mp H
                    obtain ⟨t140, A300, H⟩ := H
                    replace H : ((fixed_Clamp.f (rd y122 x27_1) t140).bind fun t141 => ((tilefarmgen_Mod.f a3 500).bind fun t142 => ((tilefarmref7_Clamp.f k2 (rd y122 x27_1) t142).bind fun t143 => (if t141 = t143 then (tilefarmlaw7_FixedShifts.l0 k2 a1 a2 a3 y122 (y122.length : Int) (wrap64 (x27_1 + 1))) else (some false))))) = some r := H
                    have A30 := Aside0.mk A300
                    clear A300
                    replace H := Option.bind_eq_some_iff.mp H
                    obtain ⟨t141, A310, H⟩ := H
                    replace H : ((tilefarmgen_Mod.f a3 500).bind fun t142 => ((tilefarmref7_Clamp.f k2 (rd y122 x27_1) t142).bind fun t143 => (if t141 = t143 then (tilefarmlaw7_FixedShifts.l0 k2 a1 a2 a3 y122 (y122.length : Int) (wrap64 (x27_1 + 1))) else (some false)))) = some r := H
                    have A31 := Aside0.mk A310
                    clear A310
                    replace H := Option.bind_eq_some_iff.mp H
                    obtain ⟨t142, A320, H⟩ := H
                    replace H : ((tilefarmref7_Clamp.f k2 (rd y122 x27_1) t142).bind fun t143 => (if t141 = t143 then (tilefarmlaw7_FixedShifts.l0 k2 a1 a2 a3 y122 (y122.length : Int) (wrap64 (x27_1 + 1))) else (some false))) = some r := H
                    have A32 := Aside0.mk A320
                    clear A320
                    replace H := Option.bind_eq_some_iff.mp H
                    obtain ⟨t143, A330, H⟩ := H
                    replace H : (if t141 = t143 then (tilefarmlaw7_FixedShifts.l0 k2 a1 a2 a3 y122 (y122.length : Int) (wrap64 (x27_1 + 1))) else (some false)) = some r := H
                    have A33 := Aside0.mk A330
                    clear A330
                    by_cases c34 : t141 = t143
                    · rw [if_pos c34] at H
                      have c34b0 : (t141 == t143) = true := beq_iff_eq.mpr c34
                      have c34b1 : (t141 != t143) = false := bne_eq_false_iff_eq.mpr c34
                      clear c34
                      have H' := Aside0.mk H
                      clear H
                      have e_same : t140 = t142 := Option.some.inj (A30.out.symm.trans A32.out)
                      subst e_same
                      go_wp2_with (first | ((with_reducible refine gate_callee (f := 17) rfl ?_); refine goesL_ (some 74) rfl rfl Try.func17 (by kernel_rfl) rfl #[.int .i64 (rd y122 x27_1), .int .i64 a3] rfl (by (try simp only [List.map_toArray, List.map_cons, List.map_nil]); first | done | rfl | (simp only [List.length_drop, List.length_take]; rfl)) ?_; (with_reducible refine (fixed_Clamp.calls (rd y122 x27_1) a3 t138 _ A27.out).mono ?_); rintro e w35 ⟨rfl, hb⟩; refine ⟨_, rfl, ?_⟩; have n0_ := Aside0.mk (Kd.R_below (by (with_reducible repeat (first | apply Kd.R_alloc | apply Kd.R_drewN | apply Kd.R_drew)); exact HO_25.out) hb); have n1_ := Aside0.mk (Kd.R_below (by (with_reducible repeat (first | apply Kd.R_alloc | apply Kd.R_drewN | apply Kd.R_drew)); exact HO_34.out) hb); have n2_ := Aside0.mk (below_step (by repeat (first | (with_reducible first | exact HB.out | apply below_alloc | apply pw_below_drewN | apply below_drew1) | exact HB.out)) hb); clear HO_25; clear HO_34; clear HB; have HO_25 := n0_; have HO_34 := n1_; have HB := n2_; clear n0_ n1_ n2_; (try clear hb); (try clear hb2); (try clear hk); (try clear hi)) | ((with_reducible refine gate_callee (f := 22) rfl ?_); refine goesL_ (some 77) rfl rfl Try.func22 (by kernel_rfl) rfl #[.int .i64 (rd y122 x27_1), .int .i64 a3] rfl (by (try simp only [List.map_toArray, List.map_cons, List.map_nil]); first | done | rfl | (simp only [List.length_drop, List.length_take]; rfl)) ?_; (with_reducible refine (tilefarmref7_Clamp.calls k2 (rd y122 x27_1) a3 t139 _ A28.out).mono ?_); rintro e w' ⟨rfl, ⟨nd, rfl⟩⟩; refine ⟨_, rfl, ?_⟩) | (go_at_call 16; (with_reducible refine (tilefarmgen_Mod.calls a3 500 t140 _ A30.out).mono ?_); rintro e w' ⟨rfl, ⟨nd, rfl⟩⟩) | (go_at_call 17; (with_reducible refine (fixed_Clamp.calls (rd y122 x27_1) t140 t141 _ A31.out).mono ?_); rintro e w36 ⟨rfl, hb⟩; have n0_ := Aside0.mk (Kd.R_below (by (with_reducible repeat (first | apply Kd.R_alloc | apply Kd.R_drewN | apply Kd.R_drew)); exact HO_25.out) hb); have n1_ := Aside0.mk (Kd.R_below (by (with_reducible repeat (first | apply Kd.R_alloc | apply Kd.R_drewN | apply Kd.R_drew)); exact HO_34.out) hb); have n2_ := Aside0.mk (below_step (by repeat (first | (with_reducible first | exact HB.out | apply below_alloc | apply pw_below_drewN | apply below_drew1) | exact HB.out)) hb); clear HO_25; clear HO_34; clear HB; have HO_25 := n0_; have HO_34 := n1_; have HB := n2_; clear n0_ n1_ n2_; (try clear hb); (try clear hb2); (try clear hk); (try clear hi)) | (go_at_call 16; (with_reducible refine (tilefarmgen_Mod.calls a3 500 t140 _ A32.out).mono ?_); rintro e w' ⟨rfl, ⟨nd, rfl⟩⟩) | (go_at_call 22; (with_reducible refine (tilefarmref7_Clamp.calls k2 (rd y122 x27_1) t140 t143 _ A33.out).mono ?_); rintro e w' ⟨rfl, ⟨nd, rfl⟩⟩))
                      go_roundg k2
                      case measure => have := HK1.out; have := HK2.out; omega
                      case rel => exact ⟨(wrap64 (x27_1 + 1)), (by first | rfl | (simp; done) | (simp [*]; done)), H', ⟨by have := HK1.out; have := HK2.out; omega⟩, ⟨by (with_reducible repeat (first | apply Kd.R_alloc | apply Kd.R_drewN | apply Kd.R_drew)); exact Kd.R_mono HO_25.out (fun _ hk => trivial)⟩, ⟨by repeat (first | (with_reducible first | exact HB.out | apply below_alloc | apply pw_below_drewN | apply below_drew1) | exact HB.out)⟩⟩
                    · rw [if_neg c34] at H
                      have c34b0 : (t141 == t143) = false := beq_eq_false_iff_ne.mpr c34
                      have c34b1 : (t141 != t143) = true := bne_iff_ne.mpr c34
                      exact absurd ((Option.some.inj H).trans HT.out) (by decide)
                  · rw [if_neg c29] at H
                    have c29b0 : (t138 == t139) = false := beq_eq_false_iff_ne.mpr c29
                    have c29b1 : (t138 != t139) = true := bne_iff_ne.mpr c29
                    exact absurd ((Option.some.inj H).trans HT.out) (by decide)
          · rw [if_neg c12] at H
            exact absurd H (by simp)
        · rw [if_neg c11] at H
          exact absurd H (by simp)
      · rw [if_neg c10] at H
        have c10b0 : decide (x27_1 < (y122.length : Int)) = false := decide_eq_false c10
        clear c10
        replace H := Option.bind_eq_some_iff.mp H
        obtain ⟨t125, A370, H⟩ := H
        replace H : (some t125) = some r := H
        have A37 := Aside0.mk A370
        clear A370
        obtain rfl := Option.some.inj H
        go_wp2_with (first | ((with_reducible refine gate_callee (f := 15) rfl ?_); refine goesL_ (some 91) rfl rfl Try.func15 (by kernel_rfl) rfl #[] rfl (by (try simp only [List.map_toArray, List.map_cons, List.map_nil]); first | done | rfl | (simp only [List.length_drop, List.length_take]; rfl)) ?_; (with_reducible refine (tilefarmlaw7_sane.calls k1  t125 _ A37.out).mono ?_); rintro e w38 ⟨rfl, hb⟩; refine ⟨_, rfl, ?_⟩; have n0_ := Aside0.mk (Kd.R_below (by (with_reducible repeat (first | apply Kd.R_alloc | apply Kd.R_drewN | apply Kd.R_drew)); exact HO_25.out) hb); have n1_ := Aside0.mk (below_step (by repeat (first | (with_reducible first | exact HB.out | apply below_alloc | apply pw_below_drewN | apply below_drew1) | exact HB.out)) hb); clear HO_25; clear HB; have HO_25 := n0_; have HB := n1_; clear n0_ n1_; (try clear hb); (try clear hb2); (try clear hk); (try clear hi)))
        go_ret
        exact ⟨by first | rfl | (simp [errW_none, errW_some] <;> rfl) | (simp [*, errW_none, errW_some] <;> rfl), by repeat (first | (with_reducible first | exact HB.out | apply below_alloc | apply pw_below_drewN | apply below_drew1) | exact HB.out)⟩

/-- THE ONE PURE STATEMENT of tilefarmlaw7_FixedShifts: yours. -/
def tilefarmlaw7_FixedShifts.Pure : Prop := ∀ (a0 : Int) (a1 : Int) (a2 : Int) (a3 : Int), (Lit.int .i64 a0).wf = true → (Lit.int .i64 a1).wf = true → (Lit.int .i64 a2).wf = true → (Lit.int .i64 a3).wf = true → ∃ k, tilefarmlaw7_FixedShifts.f k a0 a1 a2 a3 = some true
theorem tilefarmlaw7_FixedShifts.walk (P : tilefarmlaw7_FixedShifts.Pure) (a0 : Int) (a1 : Int) (a2 : Int) (a3 : Int) (w : World) (w0 : (Lit.int .i64 a0).wf = true) (w1 : (Lit.int .i64 a1).wf = true) (w2 : (Lit.int .i64 a2).wf = true) (w3 : (Lit.int .i64 a3).wf = true) :
    Calls Try.prog 6 #[.int .i64 a0, .int .i64 a1, .int .i64 a2, .int .i64 a3] w fun e w' => e = .returned (.bool true) ∧ Below w.heap.size w w' := by
  obtain ⟨k, h⟩ := P a0 a1 a2 a3 w0 w1 w2 w3
  refine (tilefarmlaw7_FixedShifts.calls k a0 a1 a2 a3 true w h).mono ?_
  rintro e w' ⟨rfl, hd⟩
  exact ⟨rfl, hd⟩

end Go.Proofs.Ytepbjipmfchpnaa.PFixedShifts
