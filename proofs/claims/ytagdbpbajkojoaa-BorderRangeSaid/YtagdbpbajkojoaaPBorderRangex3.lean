-- Written by a program of the session (wip/tools/myprint.py) over the kit's printer; checked by Lean.
import Derived.Test.YtagdbpbajkojoaaPBorderRangex0
import Derived.Test.YtagdbpbajkojoaaPBorderRangex2
namespace Go.Proofs.Ytagdbpbajkojoaa.PBorderRange
open Go.RowKit Go.Proofs.YtagdbpbajkojoaaW.PrintWords Go.Proofs.YtagdbpbajkojoaaW.PrintLast Go.Proofs.YtagdbpbajkojoaaW.PrintMore
attribute [local go_sem] max2_int min2_int max_two min_two max_three min_three max_four min_four   -- for this text's walks alone
set_option linter.unusedVariables false
set_option linter.unusedSimpArgs false

/-! ### tilefarmref3_Range: function 18 -/
mutual
def tilefarmref3_Range.j0 : Nat → Int → Int → Int → Int → Bool → Option (Int × Int × Bool)
  | 0, _, _, _, _, _ => none
  | k + 1, x0, x1, x2, x3, x32 => if x32 = true then (some (0, 0, false)) else (if (wrap64 (x1 - x0)) > 600 then ((tilefarmref3_Index.f k x0 x2 0).bind fun bt126 => (if bt126.2 = true then (if x3 = 0 then (tilefarmref3_Range.j1 k x0 x1 x2 x3 (x3 == 0)) else (tilefarmref3_Range.j1 k x0 x1 x2 x3 (x3 == 3))) else (some (0, 0, false)))) else (tilefarmref3_Range.j2 k x0 x1 x2 x3))
def tilefarmref3_Range.j2 : Nat → Int → Int → Int → Int → Option (Int × Int × Bool)
  | 0, _, _, _, _ => none
  | k + 1, x0, x1, x2, x3 => tilefarmref3_Range.l0 k x1 x2 x3 0 0 false x0
def tilefarmref3_Range.l0 : Nat → Int → Int → Int → Int → Int → Bool → Int → Option (Int × Int × Bool)
  | 0, _, _, _, _, _, _, _ => none
  | k + 1, x1, x2, x3, x13, x14, x15, x16 => if x16 < x1 then ((tilefarmref3_Index.f k x16 x2 x3).bind fun bt128 => (if bt128.2 = true then (if x15 = true then (tilefarmref3_Range.j4 k x1 x2 x3 x13 x14 x15 x16 bt128.1 (decide (bt128.1 < x13))) else (tilefarmref3_Range.j4 k x1 x2 x3 x13 x14 x15 x16 bt128.1 true)) else (tilefarmref3_Range.l0 k x1 x2 x3 x13 x14 x15 (wrap64 (x16 + 1))))) else (some (x13, x14, x15))
def tilefarmref3_Range.j4 : Nat → Int → Int → Int → Int → Int → Bool → Int → Int → Bool → Option (Int × Int × Bool)
  | 0, _, _, _, _, _, _, _, _, _ => none
  | k + 1, x1, x2, x3, x13, x14, x15, x16, x17, x90 => if x90 = true then (if x15 = true then (if x17 > x14 then (tilefarmref3_Range.l0 k x1 x2 x3 x17 x17 true (wrap64 (x16 + 1))) else (tilefarmref3_Range.l0 k x1 x2 x3 x17 x14 true (wrap64 (x16 + 1)))) else (tilefarmref3_Range.l0 k x1 x2 x3 x17 x17 true (wrap64 (x16 + 1)))) else (if x15 = true then (if x17 > x14 then (tilefarmref3_Range.l0 k x1 x2 x3 x13 x17 true (wrap64 (x16 + 1))) else (tilefarmref3_Range.l0 k x1 x2 x3 x13 x14 true (wrap64 (x16 + 1)))) else (tilefarmref3_Range.l0 k x1 x2 x3 x13 x17 true (wrap64 (x16 + 1))))
def tilefarmref3_Range.j1 : Nat → Int → Int → Int → Int → Bool → Option (Int × Int × Bool)
  | 0, _, _, _, _, _ => none
  | k + 1, x0, x1, x2, x3, x50 => if x50 = true then (if (wrap64 (x1 - 1)) < 0 then (tilefarmref3_Range.j2 k (wrap64 (x1 - 1)) x1 x2 x3) else (if x0 ≥ x2 then (tilefarmref3_Range.j2 k x0 (wrap64 (x0 + 1)) x2 x3) else (tilefarmref3_Range.j2 k (mx x0 (-1)) (mn x1 (wrap64 (x2 + 1))) x2 x3))) else (tilefarmref3_Range.j2 k x0 (wrap64 (x0 + (wrap64 (2 * x2)))) x2 x3)
end
def tilefarmref3_Range.f (k : Nat) (a0 : Int) (a1 : Int) (a2 : Int) (a3 : Int) : Option (Int × Int × Bool) := if a0 < (-1048576) then (tilefarmref3_Range.j0 k a0 a1 a2 a3 true) else (if a0 > 1048576 then (tilefarmref3_Range.j0 k a0 a1 a2 a3 true) else (if a1 < (-1048576) then (tilefarmref3_Range.j0 k a0 a1 a2 a3 true) else (tilefarmref3_Range.j0 k a0 a1 a2 a3 (decide (a1 > 1048576)))))
theorem tilefarmref3_Range.mono_l : ∀ k, (∀ y0 y1 y2 y3 y4, LeO (tilefarmref3_Range.j0 k y0 y1 y2 y3 y4) (tilefarmref3_Range.j0 (k + 1) y0 y1 y2 y3 y4)) ∧ (∀ y0 y1 y2 y3, LeO (tilefarmref3_Range.j2 k y0 y1 y2 y3) (tilefarmref3_Range.j2 (k + 1) y0 y1 y2 y3)) ∧ (∀ y0 y1 y2 y3 y4 y5 y6, LeO (tilefarmref3_Range.l0 k y0 y1 y2 y3 y4 y5 y6) (tilefarmref3_Range.l0 (k + 1) y0 y1 y2 y3 y4 y5 y6)) ∧ (∀ y0 y1 y2 y3 y4 y5 y6 y7 y8, LeO (tilefarmref3_Range.j4 k y0 y1 y2 y3 y4 y5 y6 y7 y8) (tilefarmref3_Range.j4 (k + 1) y0 y1 y2 y3 y4 y5 y6 y7 y8)) ∧ (∀ y0 y1 y2 y3 y4, LeO (tilefarmref3_Range.j1 k y0 y1 y2 y3 y4) (tilefarmref3_Range.j1 (k + 1) y0 y1 y2 y3 y4))
  | 0 => ⟨fun _ _ _ _ _ r h => by simp [tilefarmref3_Range.j0] at h, fun _ _ _ _ r h => by simp [tilefarmref3_Range.j2] at h, fun _ _ _ _ _ _ _ r h => by simp [tilefarmref3_Range.l0] at h, fun _ _ _ _ _ _ _ _ _ r h => by simp [tilefarmref3_Range.j4] at h, fun _ _ _ _ _ r h => by simp [tilefarmref3_Range.j1] at h⟩
  | k + 1 => by
    obtain ⟨ih0, ih1, ih2, ih3, ih4⟩ := tilefarmref3_Range.mono_l k
    refine ⟨?_, ?_, ?_, ?_, ?_⟩
    · intro y0 y1 y2 y3 y4
      unfold tilefarmref3_Range.j0
      repeat' first
      | (with_reducible exact ih0 _ _ _ _ _)
      | (with_reducible exact ih1 _ _ _ _)
      | (with_reducible exact ih2 _ _ _ _ _ _ _)
      | (with_reducible exact ih3 _ _ _ _ _ _ _ _ _)
      | (with_reducible exact ih4 _ _ _ _ _)
      | (with_reducible exact tilefarmref3_Index.mono _ _ _ _)
      | (with_reducible exact LeO.refl _)
      | (with_reducible exact LeO.none _)
      | (with_reducible refine LeO.ite ?_ ?_)
      | (with_reducible refine LeO.bind ?_ (fun _ => ?_))
      | exact ih0 _ _ _ _ _
      | exact ih1 _ _ _ _
      | exact ih2 _ _ _ _ _ _ _
      | exact ih3 _ _ _ _ _ _ _ _ _
      | exact ih4 _ _ _ _ _
      | exact tilefarmref3_Index.mono _ _ _ _
      | exact LeO.none _
      | refine LeO.ite ?_ ?_
      | refine LeO.bind ?_ (fun _ => ?_)
    · intro y0 y1 y2 y3
      unfold tilefarmref3_Range.j2
      repeat' first
      | (with_reducible exact ih0 _ _ _ _ _)
      | (with_reducible exact ih1 _ _ _ _)
      | (with_reducible exact ih2 _ _ _ _ _ _ _)
      | (with_reducible exact ih3 _ _ _ _ _ _ _ _ _)
      | (with_reducible exact ih4 _ _ _ _ _)
      | (with_reducible exact tilefarmref3_Index.mono _ _ _ _)
      | (with_reducible exact LeO.refl _)
      | (with_reducible exact LeO.none _)
      | (with_reducible refine LeO.ite ?_ ?_)
      | (with_reducible refine LeO.bind ?_ (fun _ => ?_))
      | exact ih0 _ _ _ _ _
      | exact ih1 _ _ _ _
      | exact ih2 _ _ _ _ _ _ _
      | exact ih3 _ _ _ _ _ _ _ _ _
      | exact ih4 _ _ _ _ _
      | exact tilefarmref3_Index.mono _ _ _ _
      | exact LeO.none _
      | refine LeO.ite ?_ ?_
      | refine LeO.bind ?_ (fun _ => ?_)
    · intro y0 y1 y2 y3 y4 y5 y6
      unfold tilefarmref3_Range.l0
      repeat' first
      | (with_reducible exact ih0 _ _ _ _ _)
      | (with_reducible exact ih1 _ _ _ _)
      | (with_reducible exact ih2 _ _ _ _ _ _ _)
      | (with_reducible exact ih3 _ _ _ _ _ _ _ _ _)
      | (with_reducible exact ih4 _ _ _ _ _)
      | (with_reducible exact tilefarmref3_Index.mono _ _ _ _)
      | (with_reducible exact LeO.refl _)
      | (with_reducible exact LeO.none _)
      | (with_reducible refine LeO.ite ?_ ?_)
      | (with_reducible refine LeO.bind ?_ (fun _ => ?_))
      | exact ih0 _ _ _ _ _
      | exact ih1 _ _ _ _
      | exact ih2 _ _ _ _ _ _ _
      | exact ih3 _ _ _ _ _ _ _ _ _
      | exact ih4 _ _ _ _ _
      | exact tilefarmref3_Index.mono _ _ _ _
      | exact LeO.none _
      | refine LeO.ite ?_ ?_
      | refine LeO.bind ?_ (fun _ => ?_)
    · intro y0 y1 y2 y3 y4 y5 y6 y7 y8
      unfold tilefarmref3_Range.j4
      repeat' first
      | (with_reducible exact ih0 _ _ _ _ _)
      | (with_reducible exact ih1 _ _ _ _)
      | (with_reducible exact ih2 _ _ _ _ _ _ _)
      | (with_reducible exact ih3 _ _ _ _ _ _ _ _ _)
      | (with_reducible exact ih4 _ _ _ _ _)
      | (with_reducible exact tilefarmref3_Index.mono _ _ _ _)
      | (with_reducible exact LeO.refl _)
      | (with_reducible exact LeO.none _)
      | (with_reducible refine LeO.ite ?_ ?_)
      | (with_reducible refine LeO.bind ?_ (fun _ => ?_))
      | exact ih0 _ _ _ _ _
      | exact ih1 _ _ _ _
      | exact ih2 _ _ _ _ _ _ _
      | exact ih3 _ _ _ _ _ _ _ _ _
      | exact ih4 _ _ _ _ _
      | exact tilefarmref3_Index.mono _ _ _ _
      | exact LeO.none _
      | refine LeO.ite ?_ ?_
      | refine LeO.bind ?_ (fun _ => ?_)
    · intro y0 y1 y2 y3 y4
      unfold tilefarmref3_Range.j1
      repeat' first
      | (with_reducible exact ih0 _ _ _ _ _)
      | (with_reducible exact ih1 _ _ _ _)
      | (with_reducible exact ih2 _ _ _ _ _ _ _)
      | (with_reducible exact ih3 _ _ _ _ _ _ _ _ _)
      | (with_reducible exact ih4 _ _ _ _ _)
      | (with_reducible exact tilefarmref3_Index.mono _ _ _ _)
      | (with_reducible exact LeO.refl _)
      | (with_reducible exact LeO.none _)
      | (with_reducible refine LeO.ite ?_ ?_)
      | (with_reducible refine LeO.bind ?_ (fun _ => ?_))
      | exact ih0 _ _ _ _ _
      | exact ih1 _ _ _ _
      | exact ih2 _ _ _ _ _ _ _
      | exact ih3 _ _ _ _ _ _ _ _ _
      | exact ih4 _ _ _ _ _
      | exact tilefarmref3_Index.mono _ _ _ _
      | exact LeO.none _
      | refine LeO.ite ?_ ?_
      | refine LeO.bind ?_ (fun _ => ?_)
theorem tilefarmref3_Range.mono : ∀ a0 a1 a2 a3 k, LeO (tilefarmref3_Range.f k a0 a1 a2 a3) (tilefarmref3_Range.f (k + 1) a0 a1 a2 a3) := by
  intro a0 a1 a2 a3 k
  obtain ⟨ih0, ih1, ih2, ih3, ih4⟩ := tilefarmref3_Range.mono_l k
  unfold tilefarmref3_Range.f
  repeat' first
      | (with_reducible exact ih0 _ _ _ _ _)
      | (with_reducible exact ih1 _ _ _ _)
      | (with_reducible exact ih2 _ _ _ _ _ _ _)
      | (with_reducible exact ih3 _ _ _ _ _ _ _ _ _)
      | (with_reducible exact ih4 _ _ _ _ _)
      | (with_reducible exact tilefarmref3_Index.mono _ _ _ _)
      | (with_reducible exact LeO.refl _)
      | (with_reducible exact LeO.none _)
      | (with_reducible refine LeO.ite ?_ ?_)
      | (with_reducible refine LeO.bind ?_ (fun _ => ?_))
      | exact ih0 _ _ _ _ _
      | exact ih1 _ _ _ _
      | exact ih2 _ _ _ _ _ _ _
      | exact ih3 _ _ _ _ _ _ _ _ _
      | exact ih4 _ _ _ _ _
      | exact tilefarmref3_Index.mono _ _ _ _
      | exact LeO.none _
      | refine LeO.ite ?_ ?_
      | refine LeO.bind ?_ (fun _ => ?_)
set_option maxHeartbeats 8000000 in
set_option maxRecDepth 100000 in
theorem tilefarmref3_Range.calls (k : Nat) (a0 : Int) (a1 : Int) (a2 : Int) (a3 : Int) (r1 : Int) (r2 : Int) (r3 : Bool) (w : World) (h : tilefarmref3_Range.f k a0 a1 a2 a3 = some (r1, r2, r3)) :
    Calls Try.prog 18 #[.int .i64 a0, .int .i64 a1, .int .i64 a2, .int .i64 a3] w fun e w' => e = .returned (.tuple #[.int .i64 r1, .int .i64 r2, .bool r3]) ∧ Below w.heap.size w w' := by
  have HB := Aside0.mk (Below.refl w.heap.size w)
  have H : (if a0 < (-1048576) then (tilefarmref3_Range.j0 k a0 a1 a2 a3 true) else (if a0 > 1048576 then (tilefarmref3_Range.j0 k a0 a1 a2 a3 true) else (if a1 < (-1048576) then (tilefarmref3_Range.j0 k a0 a1 a2 a3 true) else (tilefarmref3_Range.j0 k a0 a1 a2 a3 (decide (a1 > 1048576)))))) = some (r1, r2, r3) := h
  clear h
  have HC5 := Aside0.mk H
  clear H
  go_enter Try.func18, Try.ntmps18
  go_upto_region 1 with (fail)
  go_cut [32] (fun v32 wc => ∃ (kq : Nat) (x32_4 : Bool), v32 = .bool x32_4 ∧ Aside0 (tilefarmref3_Range.j0 kq a0 a1 a2 a3 x32_4 = some (r1, r2, r3)) ∧ Aside0 (kq ≤ k) ∧ Aside0 (Below w.heap.size w wc))
  case first =>
    have H := HC5.out
    clear HC5
    by_cases c6 : a0 < (-1048576)
    · rw [if_pos c6] at H
      have c6b0 : decide (a0 < (-1048576)) = true := decide_eq_true c6
      clear c6
      (first | rw [c6b0] | (simp only [i64_w, i32_w]; rw [c6b0]) | skip)
      have H' := Aside0.mk H
      clear H
      go_wp2
      go_meet
      case rel => exact ⟨_, (true), (by first | rfl | (simp; done) | (simp [*]; done)), H', ⟨by first | omega | exact Nat.le_refl _⟩, ⟨by repeat (first | (with_reducible first | exact HB.out | apply below_alloc | apply pw_below_drewN | apply below_drew1) | exact HB.out)⟩⟩
    · rw [if_neg c6] at H
      have c6b0 : decide (a0 < (-1048576)) = false := decide_eq_false c6
      clear c6
      (first | rw [c6b0] | (simp only [i64_w, i32_w]; rw [c6b0]) | skip)
      by_cases c7 : a0 > 1048576
      · rw [if_pos c7] at H
        have c7b0 : decide (1048576 < a0) = true := decide_eq_true c7
        clear c7
        have H' := Aside0.mk H
        clear H
        go_wp2
        go_meet
        case rel => exact ⟨_, (true), (by first | rfl | (simp; done) | (simp [*]; done)), H', ⟨by first | omega | exact Nat.le_refl _⟩, ⟨by repeat (first | (with_reducible first | exact HB.out | apply below_alloc | apply pw_below_drewN | apply below_drew1) | exact HB.out)⟩⟩
      · rw [if_neg c7] at H
        have c7b0 : decide (1048576 < a0) = false := decide_eq_false c7
        clear c7
        by_cases c8 : a1 < (-1048576)
        · rw [if_pos c8] at H
          have c8b0 : decide (a1 < (-1048576)) = true := decide_eq_true c8
          clear c8
          have H' := Aside0.mk H
          clear H
          go_wp2
          go_meet
          case rel => exact ⟨_, (true), (by first | rfl | (simp; done) | (simp [*]; done)), H', ⟨by first | omega | exact Nat.le_refl _⟩, ⟨by repeat (first | (with_reducible first | exact HB.out | apply below_alloc | apply pw_below_drewN | apply below_drew1) | exact HB.out)⟩⟩
        · rw [if_neg c8] at H
          have c8b0 : decide (a1 < (-1048576)) = false := decide_eq_false c8
          clear c8
          have H' := Aside0.mk H
          clear H
          go_wp2
          go_meet
          case rel => exact ⟨_, (decide (a1 > 1048576)), (by first | rfl | (simp; done) | (simp [*]; done)), H', ⟨by first | omega | exact Nat.le_refl _⟩, ⟨by repeat (first | (with_reducible first | exact HB.out | apply below_alloc | apply pw_below_drewN | apply below_drew1) | exact HB.out)⟩⟩
  case rest =>
    clear HC5
    try clear c1
    try clear p2
    try clear c6
    try clear c6b0
    try clear c7
    try clear c7b0
    try clear c8
    try clear c8b0
    obtain ⟨kq, x32_4, rfl, HA, HJ4, HB⟩ := hcut
    cases kq with
    | zero => exact absurd HA.out (by simp [tilefarmref3_Range.j0])
    | succ kj4 =>
      have H := HA.out
      clear HA
      simp only [tilefarmref3_Range.j0] at H
      by_cases c9 : x32_4 = true
      · subst c9
        have H1 : (some (0, 0, false)) = some (r1, r2, r3) := by rw [if_pos rfl] at H; exact H
        clear H
        have H := H1
        clear H1
        simp only [Option.some.injEq, Prod.mk.injEq] at H
        obtain ⟨rfl, rfl, rfl⟩ := H
        go_wp2
        go_ret3
        exact ⟨by first | rfl | (simp [errW_none, errW_some] <;> rfl) | (simp [*, errW_none, errW_some] <;> rfl), by repeat (first | (with_reducible first | exact HB.out | apply below_alloc | apply pw_below_drewN | apply below_drew1) | exact HB.out)⟩
      · replace c9 := Bool.eq_false_iff.mpr c9
        subst c9
        have H1 : (if (wrap64 (a1 - a0)) > 600 then ((tilefarmref3_Index.f kj4 a0 a2 0).bind fun bt126 => (if bt126.2 = true then (if a3 = 0 then (tilefarmref3_Range.j1 kj4 a0 a1 a2 a3 (a3 == 0)) else (tilefarmref3_Range.j1 kj4 a0 a1 a2 a3 (a3 == 3))) else (some (0, 0, false)))) else (tilefarmref3_Range.j2 kj4 a0 a1 a2 a3)) = some (r1, r2, r3) := by rw [if_neg (show ¬ (false = true) by decide)] at H; exact H
        clear H
        have H := H1
        clear H1
        have HC10 := Aside0.mk H
        clear H
        go_upto_if 36 with (fail)
        go_cut [0, 1] (fun v0 v1 wc => ∃ (kq : Nat) (x0_9 : Int) (x1_9 : Int), v0 = .int .i64 x0_9 ∧ v1 = .int .i64 x1_9 ∧ Aside0 (tilefarmref3_Range.j2 kq x0_9 x1_9 a2 a3 = some (r1, r2, r3)) ∧ Aside0 (kq ≤ kj4) ∧ Aside0 (Below w.heap.size w wc))
        case first =>
          have H := HC10.out
          clear HC10
          by_cases c11 : (wrap64 (a1 - a0)) > 600
          · rw [if_pos c11] at H
            have c11b0 : decide (600 < (wrap64 (a1 - a0))) = true := decide_eq_true c11
            clear c11
            (first | rw [c11b0] | (simp only [i64_w, i32_w]; rw [c11b0]) | skip)
            replace H := Option.bind_eq_some_iff.mp H
            obtain ⟨⟨t126, t127⟩, A120, H⟩ := H
            replace H : (if t127 = true then (if a3 = 0 then (tilefarmref3_Range.j1 kj4 a0 a1 a2 a3 (a3 == 0)) else (tilefarmref3_Range.j1 kj4 a0 a1 a2 a3 (a3 == 3))) else (some (0, 0, false))) = some (r1, r2, r3) := H
            have A12 := Aside0.mk A120
            clear A120
            by_cases c13 : t127 = true
            · subst c13
              have H1 : (if a3 = 0 then (tilefarmref3_Range.j1 kj4 a0 a1 a2 a3 (a3 == 0)) else (tilefarmref3_Range.j1 kj4 a0 a1 a2 a3 (a3 == 3))) = some (r1, r2, r3) := by rw [if_pos rfl] at H; exact H
              clear H
              have H := H1
              clear H1
              have HC14 := Aside0.mk H
              clear H
              go_upto_if 50 with (first | ((with_reducible refine gate_callee (f := 11) rfl ?_); refine goesL_ (some 40) rfl rfl Try.func11 (by kernel_rfl) rfl #[.int .i64 a0, .int .i64 a2, .int .i64 0] rfl (by (try simp only [List.map_toArray, List.map_cons, List.map_nil]); first | done | rfl | (simp only [List.length_drop, List.length_take]; rfl)) ?_; (with_reducible refine (tilefarmref3_Index.calls kj4 a0 a2 0 t126 true _ A12.out).mono ?_); rintro e w15 ⟨rfl, hb⟩; refine ⟨_, rfl, ?_⟩; have n0_ := Aside0.mk (below_step (by repeat (first | (with_reducible first | exact HB.out | apply below_alloc | apply pw_below_drewN | apply below_drew1) | exact HB.out)) hb); clear HB; have HB := n0_; clear n0_; (try clear hb); (try clear hb2); (try clear hk); (try clear hi)))
              (try simp only [Act.put, List.setIfInBounds_toArray, List.set_cons_zero, List.set_cons_succ])
              go_cut [50] (fun v50 wc => ∃ (kq : Nat) (x50_13 : Bool), v50 = .bool x50_13 ∧ Aside0 (tilefarmref3_Range.j1 kq a0 a1 a2 a3 x50_13 = some (r1, r2, r3)) ∧ Aside0 (kq ≤ kj4) ∧ Aside0 (Below w.heap.size w wc))
              case first =>
                have H := HC14.out
                clear HC14
                by_cases c16 : a3 = 0
                · rw [if_pos c16] at H
                  have c16b0 : (a3 == 0) = true := beq_iff_eq.mpr c16
                  have c16b1 : (a3 != 0) = false := bne_eq_false_iff_eq.mpr c16
                  clear c16
                  (first | rw [c16b0] | (simp only [i64_w, i32_w]; rw [c16b0]) | skip)
                  have H' := Aside0.mk H
                  clear H
                  go_wp2
                  go_meet
                  case rel => exact ⟨_, ((a3 == 0)), (by first | rfl | (simp; done) | (simp [*]; done)), H', ⟨by have := HJ4.out; first | omega | exact Nat.le_refl _⟩, ⟨by repeat (first | (with_reducible first | exact HB.out | apply below_alloc | apply pw_below_drewN | apply below_drew1) | exact HB.out)⟩⟩
                · rw [if_neg c16] at H
                  have c16b0 : (a3 == 0) = false := beq_eq_false_iff_ne.mpr c16
                  have c16b1 : (a3 != 0) = true := bne_iff_ne.mpr c16
                  (first | rw [c16b0] | (simp only [i64_w, i32_w]; rw [c16b0]) | skip)
                  have H' := Aside0.mk H
                  clear H
                  go_wp2
                  go_meet
                  case rel => exact ⟨_, ((a3 == 3)), (by first | rfl | (simp; done) | (simp [*]; done)), H', ⟨by have := HJ4.out; first | omega | exact Nat.le_refl _⟩, ⟨by repeat (first | (with_reducible first | exact HB.out | apply below_alloc | apply pw_below_drewN | apply below_drew1) | exact HB.out)⟩⟩
              case rest =>
                clear HC14
                try clear c1
                try clear p2
                try clear c6
                try clear c6b0
                try clear p6
                try clear c7
                try clear c7b0
                try clear c8
                try clear c8b0
                try clear c9
                try clear c11
                try clear c11b0
                try clear c13
                try clear c16
                try clear c16b0
                try clear c16b1
                try clear p2
                obtain ⟨kq, x50_13, rfl, HA, HJ13, HB⟩ := hcut
                cases kq with
                | zero => exact absurd HA.out (by simp [tilefarmref3_Range.j1])
                | succ kj13 =>
                  have H := HA.out
                  clear HA
                  simp only [tilefarmref3_Range.j1] at H
                  by_cases c17 : x50_13 = true
                  · subst c17
                    have H1 : (if (wrap64 (a1 - 1)) < 0 then (tilefarmref3_Range.j2 kj13 (wrap64 (a1 - 1)) a1 a2 a3) else (if a0 ≥ a2 then (tilefarmref3_Range.j2 kj13 a0 (wrap64 (a0 + 1)) a2 a3) else (tilefarmref3_Range.j2 kj13 (mx a0 (-1)) (mn a1 (wrap64 (a2 + 1))) a2 a3))) = some (r1, r2, r3) := by rw [if_pos rfl] at H; exact H
                    clear H
                    have H := H1
                    clear H1
                    by_cases c18 : (wrap64 (a1 - 1)) < 0
                    · rw [if_pos c18] at H
                      have c18b0 : decide ((wrap64 (a1 - 1)) < 0) = true := decide_eq_true c18
                      clear c18
                      have H' := Aside0.mk H
                      clear H
                      go_wp2
                      go_meet
                      case rel => exact ⟨_, (wrap64 (a1 - 1)), (a1), (by first | rfl | (simp; done) | (simp [*]; done)), (by first | rfl | (simp; done) | (simp [*]; done)), H', ⟨by have := HJ4.out; have := HJ13.out; first | omega | exact Nat.le_refl _⟩, ⟨by repeat (first | (with_reducible first | exact HB.out | apply below_alloc | apply pw_below_drewN | apply below_drew1) | exact HB.out)⟩⟩
                    · rw [if_neg c18] at H
                      have c18b0 : decide ((wrap64 (a1 - 1)) < 0) = false := decide_eq_false c18
                      clear c18
                      by_cases c19 : a0 ≥ a2
                      · rw [if_pos c19] at H
                        have c19b0 : decide (a2 ≤ a0) = true := decide_eq_true c19
                        clear c19
                        have H' := Aside0.mk H
                        clear H
                        go_wp2
                        go_meet
                        case rel => exact ⟨_, (a0), (wrap64 (a0 + 1)), (by first | rfl | (simp; done) | (simp [*]; done)), (by first | rfl | (simp; done) | (simp [*]; done)), H', ⟨by have := HJ4.out; have := HJ13.out; first | omega | exact Nat.le_refl _⟩, ⟨by repeat (first | (with_reducible first | exact HB.out | apply below_alloc | apply pw_below_drewN | apply below_drew1) | exact HB.out)⟩⟩
                      · rw [if_neg c19] at H
                        have c19b0 : decide (a2 ≤ a0) = false := decide_eq_false c19
                        clear c19
                        obtain ⟨ji20, hji20⟩ : ∃ j_ : Int, (mx a0 (-1)) = j_ := ⟨_, rfl⟩
                        replace H : (tilefarmref3_Range.j2 kj13 ji20 (mn a1 (wrap64 (a2 + 1))) a2 a3) = some (r1, r2, r3) := by first | (rw [hji20] at H; exact H) | (simp only [hji20] at H ⊢; exact H)
                        have hji20_ : (if a0 < (-1) then (-1) else a0) = ji20 := hji20
                        obtain ⟨ji21, hji21⟩ : ∃ j_ : Int, (mn a1 (wrap64 (a2 + 1))) = j_ := ⟨_, rfl⟩
                        replace H : (tilefarmref3_Range.j2 kj13 ji20 ji21 a2 a3) = some (r1, r2, r3) := by first | (rw [hji21] at H; exact H) | (simp only [hji21] at H ⊢; exact H)
                        have hji21_ : (if (wrap64 (a2 + 1)) < a1 then (wrap64 (a2 + 1)) else a1) = ji21 := hji21
                        have H' := Aside0.mk H
                        clear H
                        go_wp2
                        go_meet
                        case rel => exact ⟨_, (ji20), (ji21), (by first | rfl | (simp; done) | (simp only [← hji20] <;> (first | rfl | simp)) | (simp [*]; done)), (by first | rfl | (simp; done) | (simp only [← hji21] <;> (first | rfl | simp)) | (simp [*]; done)), H', ⟨by have := HJ4.out; have := HJ13.out; first | omega | exact Nat.le_refl _⟩, ⟨by repeat (first | (with_reducible first | exact HB.out | apply below_alloc | apply pw_below_drewN | apply below_drew1) | exact HB.out)⟩⟩
                  · replace c17 := Bool.eq_false_iff.mpr c17
                    subst c17
                    have H1 : (tilefarmref3_Range.j2 kj13 a0 (wrap64 (a0 + (wrap64 (2 * a2)))) a2 a3) = some (r1, r2, r3) := by rw [if_neg (show ¬ (false = true) by decide)] at H; exact H
                    clear H
                    have H := H1
                    clear H1
                    have H' := Aside0.mk H
                    clear H
                    go_wp2
                    go_meet
                    case rel => exact ⟨_, (a0), (wrap64 (a0 + (wrap64 (2 * a2)))), (by first | rfl | (simp; done) | (simp [*]; done)), (by first | rfl | (simp; done) | (simp [*]; done)), H', ⟨by have := HJ4.out; have := HJ13.out; first | omega | exact Nat.le_refl _⟩, ⟨by repeat (first | (with_reducible first | exact HB.out | apply below_alloc | apply pw_below_drewN | apply below_drew1) | exact HB.out)⟩⟩
            · replace c13 := Bool.eq_false_iff.mpr c13
              subst c13
              have H1 : (some (0, 0, false)) = some (r1, r2, r3) := by rw [if_neg (show ¬ (false = true) by decide)] at H; exact H
              clear H
              have H := H1
              clear H1
              simp only [Option.some.injEq, Prod.mk.injEq] at H
              obtain ⟨rfl, rfl, rfl⟩ := H
              go_wp2_with (first | ((with_reducible refine gate_callee (f := 11) rfl ?_); refine goesL_ (some 40) rfl rfl Try.func11 (by kernel_rfl) rfl #[.int .i64 a0, .int .i64 a2, .int .i64 0] rfl (by (try simp only [List.map_toArray, List.map_cons, List.map_nil]); first | done | rfl | (simp only [List.length_drop, List.length_take]; rfl)) ?_; (with_reducible refine (tilefarmref3_Index.calls kj4 a0 a2 0 t126 false _ A12.out).mono ?_); rintro e w22 ⟨rfl, hb⟩; refine ⟨_, rfl, ?_⟩; have n0_ := Aside0.mk (below_step (by repeat (first | (with_reducible first | exact HB.out | apply below_alloc | apply pw_below_drewN | apply below_drew1) | exact HB.out)) hb); clear HB; have HB := n0_; clear n0_; (try clear hb); (try clear hb2); (try clear hk); (try clear hi)))
              go_ret3
              exact ⟨by first | rfl | (simp [errW_none, errW_some] <;> rfl) | (simp [*, errW_none, errW_some] <;> rfl), by repeat (first | (with_reducible first | exact HB.out | apply below_alloc | apply pw_below_drewN | apply below_drew1) | exact HB.out)⟩
          · rw [if_neg c11] at H
            have c11b0 : decide (600 < (wrap64 (a1 - a0))) = false := decide_eq_false c11
            clear c11
            (first | rw [c11b0] | (simp only [i64_w, i32_w]; rw [c11b0]) | skip)
            have H' := Aside0.mk H
            clear H
            go_wp2
            go_meet
            case rel => exact ⟨_, (a0), (a1), (by first | rfl | (simp; done) | (simp [*]; done)), (by first | rfl | (simp; done) | (simp [*]; done)), H', ⟨by have := HJ4.out; first | omega | exact Nat.le_refl _⟩, ⟨by repeat (first | (with_reducible first | exact HB.out | apply below_alloc | apply pw_below_drewN | apply below_drew1) | exact HB.out)⟩⟩
        case rest =>
          clear HC10
          try clear c1
          try clear p2
          try clear c6
          try clear c6b0
          try clear p6
          try clear c7
          try clear c7b0
          try clear c8
          try clear c8b0
          try clear c9
          try clear c11
          try clear c11b0
          try clear c13
          try clear c16
          try clear c16b0
          try clear c16b1
          try clear c17
          try clear c18
          try clear c18b0
          try clear c19
          try clear c19b0
          try clear p2
          try clear p6
          obtain ⟨kq, x0_9, x1_9, rfl, rfl, HA, HJ9, HB⟩ := hcut
          cases kq with
          | zero => exact absurd HA.out (by simp [tilefarmref3_Range.j2])
          | succ kj9 =>
            have H := HA.out
            clear HA
            simp only [tilefarmref3_Range.j2] at H
            have H' := Aside0.mk H
            clear H
            go_wp2
            go_loopg [13, 14, 15, 16] kj9 (fun kq v13 v14 v15 v16 w' => ∃ (x13_3 : Int) (x14_3 : Int) (x15_3 : Bool) (x16_3 : Int), v13 = .int .i64 x13_3 ∧ v14 = .int .i64 x14_3 ∧ v15 = .bool x15_3 ∧ v16 = .int .i64 x16_3 ∧ Aside0 (tilefarmref3_Range.l0 kq x1_9 a2 a3 x13_3 x14_3 x15_3 x16_3 = some (r1, r2, r3)) ∧ Aside0 (kq ≤ kj9) ∧ Aside0 (Below w.heap.size w w'))
            case atStart => exact ⟨(0), (0), (false), (x0_9), (by first | rfl | (simp; done) | (simp [*]; done)), (by first | rfl | (simp; done) | (simp [*]; done)), (by first | rfl | (simp; done) | (simp [*]; done)), (by first | rfl | (simp; done) | (simp [*]; done)), H', ⟨Nat.le_refl _⟩, ⟨by repeat (first | (with_reducible first | exact HB.out | apply below_alloc | apply pw_below_drewN | apply below_drew1) | exact HB.out)⟩⟩
            case round =>
              clear H'
              try clear c1
              try clear p2
              try clear c6
              try clear c6b0
              try clear p6
              try clear c7
              try clear c7b0
              try clear c8
              try clear c8b0
              try clear c9
              try clear c11
              try clear c11b0
              try clear c13
              try clear c16
              try clear c16b0
              try clear c16b1
              try clear c17
              try clear c18
              try clear c18b0
              try clear c19
              try clear c19b0
              try clear p2
              try clear p6
              obtain ⟨x13_3, x14_3, x15_3, x16_3, rfl, rfl, rfl, rfl, HA, HK3, HB⟩ := hrel
              cases gk with
              | zero => exact absurd HA.out (by simp [tilefarmref3_Range.l0])
              | succ k3 =>
                have H := HA.out
                clear HA
                simp only [tilefarmref3_Range.l0] at H
                by_cases c23 : x16_3 < x1_9
                · rw [if_pos c23] at H
                  have c23b0 : decide (x16_3 < x1_9) = true := decide_eq_true c23
                  clear c23
                  replace H := Option.bind_eq_some_iff.mp H
                  obtain ⟨⟨t128, t129⟩, A240, H⟩ := H
                  replace H : (if t129 = true then (if x15_3 = true then (tilefarmref3_Range.j4 k3 x1_9 a2 a3 x13_3 x14_3 x15_3 x16_3 t128 (decide (t128 < x13_3))) else (tilefarmref3_Range.j4 k3 x1_9 a2 a3 x13_3 x14_3 x15_3 x16_3 t128 true)) else (tilefarmref3_Range.l0 k3 x1_9 a2 a3 x13_3 x14_3 x15_3 (wrap64 (x16_3 + 1)))) = some (r1, r2, r3) := H
                  have A24 := Aside0.mk A240
                  clear A240
                  by_cases c25 : t129 = true
                  · subst c25
                    have H1 : (if x15_3 = true then (tilefarmref3_Range.j4 k3 x1_9 a2 a3 x13_3 x14_3 x15_3 x16_3 t128 (decide (t128 < x13_3))) else (tilefarmref3_Range.j4 k3 x1_9 a2 a3 x13_3 x14_3 x15_3 x16_3 t128 true)) = some (r1, r2, r3) := by rw [if_pos rfl] at H; exact H
                    clear H
                    have H := H1
                    clear H1
                    have HC26 := Aside0.mk H
                    clear H
                    go_upto_region 22 with (first | ((with_reducible refine gate_callee (f := 11) rfl ?_); refine goesL_ (some 79) rfl rfl Try.func11 (by kernel_rfl) rfl #[.int .i64 x16_3, .int .i64 a2, .int .i64 a3] rfl (by (try simp only [List.map_toArray, List.map_cons, List.map_nil]); first | done | rfl | (simp only [List.length_drop, List.length_take]; rfl)) ?_; (with_reducible refine (tilefarmref3_Index.calls k3 x16_3 a2 a3 t128 true _ A24.out).mono ?_); rintro e w27 ⟨rfl, hb⟩; refine ⟨_, rfl, ?_⟩; have n0_ := Aside0.mk (below_step (by repeat (first | (with_reducible first | exact HB.out | apply below_alloc | apply pw_below_drewN | apply below_drew1) | exact HB.out)) hb); clear HB; have HB := n0_; clear n0_; (try clear hb); (try clear hb2); (try clear hk); (try clear hi)))
                    (try simp only [Act.put, List.setIfInBounds_toArray, List.set_cons_zero, List.set_cons_succ])
                    go_cut [90] (fun v90 wc => ∃ (kq : Nat) (x90_25 : Bool), v90 = .bool x90_25 ∧ Aside0 (tilefarmref3_Range.j4 kq x1_9 a2 a3 x13_3 x14_3 x15_3 x16_3 t128 x90_25 = some (r1, r2, r3)) ∧ Aside0 (kq ≤ k3) ∧ Aside0 (Below w.heap.size w wc))
                    case first =>
                      have H := HC26.out
                      clear HC26
                      by_cases c28 : x15_3 = true
                      · subst c28
                        have H1 : (tilefarmref3_Range.j4 k3 x1_9 a2 a3 x13_3 x14_3 true x16_3 t128 (decide (t128 < x13_3))) = some (r1, r2, r3) := by rw [if_pos rfl] at H; exact H
                        clear H
                        have H := H1
                        clear H1
                        have H' := Aside0.mk H
                        clear H
                        go_wp2
                        go_meet
                        case rel => exact ⟨_, (decide (t128 < x13_3)), (by first | rfl | (simp; done) | (simp [*]; done)), H', ⟨by have := HJ4.out; have := HJ9.out; have := HK3.out; first | omega | exact Nat.le_refl _⟩, ⟨by repeat (first | (with_reducible first | exact HB.out | apply below_alloc | apply pw_below_drewN | apply below_drew1) | exact HB.out)⟩⟩
                      · replace c28 := Bool.eq_false_iff.mpr c28
                        subst c28
                        have H1 : (tilefarmref3_Range.j4 k3 x1_9 a2 a3 x13_3 x14_3 false x16_3 t128 true) = some (r1, r2, r3) := by rw [if_neg (show ¬ (false = true) by decide)] at H; exact H
                        clear H
                        have H := H1
                        clear H1
                        have H' := Aside0.mk H
                        clear H
                        go_wp2
                        go_meet
                        case rel => exact ⟨_, (true), (by first | rfl | (simp; done) | (simp [*]; done)), H', ⟨by have := HJ4.out; have := HJ9.out; have := HK3.out; first | omega | exact Nat.le_refl _⟩, ⟨by repeat (first | (with_reducible first | exact HB.out | apply below_alloc | apply pw_below_drewN | apply below_drew1) | exact HB.out)⟩⟩
                    case rest =>
                      clear HC26
                      try clear c1
                      try clear c2
                      try clear p2
                      try clear c6
                      try clear c6b0
                      try clear p6
                      try clear c7
                      try clear c7b0
                      try clear c8
                      try clear c8b0
                      try clear c9
                      try clear c11
                      try clear c11b0
                      try clear c13
                      try clear c16
                      try clear c16b0
                      try clear c16b1
                      try clear c17
                      try clear c18
                      try clear c18b0
                      try clear c19
                      try clear c19b0
                      try clear c23
                      try clear c23b0
                      try clear c25
                      try clear c28
                      try clear p2
                      try clear p6
                      obtain ⟨kq, x90_25, rfl, HA, HJ25, HB⟩ := hcut
                      cases kq with
                      | zero => exact absurd HA.out (by simp [tilefarmref3_Range.j4])
                      | succ kj25 =>
                        have H := HA.out
                        clear HA
                        simp only [tilefarmref3_Range.j4] at H
                        by_cases c29 : x90_25 = true
                        · subst c29
                          have H1 : (if x15_3 = true then (if t128 > x14_3 then (tilefarmref3_Range.l0 kj25 x1_9 a2 a3 t128 t128 true (wrap64 (x16_3 + 1))) else (tilefarmref3_Range.l0 kj25 x1_9 a2 a3 t128 x14_3 true (wrap64 (x16_3 + 1)))) else (tilefarmref3_Range.l0 kj25 x1_9 a2 a3 t128 t128 true (wrap64 (x16_3 + 1)))) = some (r1, r2, r3) := by rw [if_pos rfl] at H; exact H
                          clear H
                          have H := H1
                          clear H1
                          by_cases c30 : x15_3 = true
                          · subst c30
                            have H1 : (if t128 > x14_3 then (tilefarmref3_Range.l0 kj25 x1_9 a2 a3 t128 t128 true (wrap64 (x16_3 + 1))) else (tilefarmref3_Range.l0 kj25 x1_9 a2 a3 t128 x14_3 true (wrap64 (x16_3 + 1)))) = some (r1, r2, r3) := by rw [if_pos rfl] at H; exact H
                            clear H
                            have H := H1
                            clear H1
                            by_cases c31 : t128 > x14_3
                            · rw [if_pos c31] at H
                              have c31b0 : decide (x14_3 < t128) = true := decide_eq_true c31
                              clear c31
                              have H' := Aside0.mk H
                              clear H
                              go_wp2
                              go_roundg kj25
                              case measure => have := HJ4.out; have := HJ9.out; have := HK3.out; have := HJ25.out; omega
                              case rel => exact ⟨(t128), (t128), (true), (wrap64 (x16_3 + 1)), (by first | rfl | (simp; done) | (simp [*]; done)), (by first | rfl | (simp; done) | (simp [*]; done)), (by first | rfl | (simp; done) | (simp [*]; done)), (by first | rfl | (simp; done) | (simp [*]; done)), H', ⟨by have := HJ4.out; have := HJ9.out; have := HK3.out; have := HJ25.out; omega⟩, ⟨by repeat (first | (with_reducible first | exact HB.out | apply below_alloc | apply pw_below_drewN | apply below_drew1) | exact HB.out)⟩⟩
                            · rw [if_neg c31] at H
                              have c31b0 : decide (x14_3 < t128) = false := decide_eq_false c31
                              clear c31
                              have H' := Aside0.mk H
                              clear H
                              go_wp2
                              go_roundg kj25
                              case measure => have := HJ4.out; have := HJ9.out; have := HK3.out; have := HJ25.out; omega
                              case rel => exact ⟨(t128), (x14_3), (true), (wrap64 (x16_3 + 1)), (by first | rfl | (simp; done) | (simp [*]; done)), (by first | rfl | (simp; done) | (simp [*]; done)), (by first | rfl | (simp; done) | (simp [*]; done)), (by first | rfl | (simp; done) | (simp [*]; done)), H', ⟨by have := HJ4.out; have := HJ9.out; have := HK3.out; have := HJ25.out; omega⟩, ⟨by repeat (first | (with_reducible first | exact HB.out | apply below_alloc | apply pw_below_drewN | apply below_drew1) | exact HB.out)⟩⟩
                          · replace c30 := Bool.eq_false_iff.mpr c30
                            subst c30
                            have H1 : (tilefarmref3_Range.l0 kj25 x1_9 a2 a3 t128 t128 true (wrap64 (x16_3 + 1))) = some (r1, r2, r3) := by rw [if_neg (show ¬ (false = true) by decide)] at H; exact H
                            clear H
                            have H := H1
                            clear H1
                            have H' := Aside0.mk H
                            clear H
                            go_wp2
                            go_roundg kj25
                            case measure => have := HJ4.out; have := HJ9.out; have := HK3.out; have := HJ25.out; omega
                            case rel => exact ⟨(t128), (t128), (true), (wrap64 (x16_3 + 1)), (by first | rfl | (simp; done) | (simp [*]; done)), (by first | rfl | (simp; done) | (simp [*]; done)), (by first | rfl | (simp; done) | (simp [*]; done)), (by first | rfl | (simp; done) | (simp [*]; done)), H', ⟨by have := HJ4.out; have := HJ9.out; have := HK3.out; have := HJ25.out; omega⟩, ⟨by repeat (first | (with_reducible first | exact HB.out | apply below_alloc | apply pw_below_drewN | apply below_drew1) | exact HB.out)⟩⟩
                        · replace c29 := Bool.eq_false_iff.mpr c29
                          subst c29
                          have H1 : (if x15_3 = true then (if t128 > x14_3 then (tilefarmref3_Range.l0 kj25 x1_9 a2 a3 x13_3 t128 true (wrap64 (x16_3 + 1))) else (tilefarmref3_Range.l0 kj25 x1_9 a2 a3 x13_3 x14_3 true (wrap64 (x16_3 + 1)))) else (tilefarmref3_Range.l0 kj25 x1_9 a2 a3 x13_3 t128 true (wrap64 (x16_3 + 1)))) = some (r1, r2, r3) := by rw [if_neg (show ¬ (false = true) by decide)] at H; exact H
                          clear H
                          have H := H1
                          clear H1
                          by_cases c32 : x15_3 = true
                          · subst c32
                            have H1 : (if t128 > x14_3 then (tilefarmref3_Range.l0 kj25 x1_9 a2 a3 x13_3 t128 true (wrap64 (x16_3 + 1))) else (tilefarmref3_Range.l0 kj25 x1_9 a2 a3 x13_3 x14_3 true (wrap64 (x16_3 + 1)))) = some (r1, r2, r3) := by rw [if_pos rfl] at H; exact H
                            clear H
                            have H := H1
                            clear H1
                            by_cases c33 : t128 > x14_3
                            · rw [if_pos c33] at H
                              have c33b0 : decide (x14_3 < t128) = true := decide_eq_true c33
                              clear c33
                              have H' := Aside0.mk H
                              clear H
                              go_wp2
                              go_roundg kj25
                              case measure => have := HJ4.out; have := HJ9.out; have := HK3.out; have := HJ25.out; omega
                              case rel => exact ⟨(x13_3), (t128), (true), (wrap64 (x16_3 + 1)), (by first | rfl | (simp; done) | (simp [*]; done)), (by first | rfl | (simp; done) | (simp [*]; done)), (by first | rfl | (simp; done) | (simp [*]; done)), (by first | rfl | (simp; done) | (simp [*]; done)), H', ⟨by have := HJ4.out; have := HJ9.out; have := HK3.out; have := HJ25.out; omega⟩, ⟨by repeat (first | (with_reducible first | exact HB.out | apply below_alloc | apply pw_below_drewN | apply below_drew1) | exact HB.out)⟩⟩
                            · rw [if_neg c33] at H
                              have c33b0 : decide (x14_3 < t128) = false := decide_eq_false c33
                              clear c33
                              have H' := Aside0.mk H
                              clear H
                              go_wp2
                              go_roundg kj25
                              case measure => have := HJ4.out; have := HJ9.out; have := HK3.out; have := HJ25.out; omega
                              case rel => exact ⟨(x13_3), (x14_3), (true), (wrap64 (x16_3 + 1)), (by first | rfl | (simp; done) | (simp [*]; done)), (by first | rfl | (simp; done) | (simp [*]; done)), (by first | rfl | (simp; done) | (simp [*]; done)), (by first | rfl | (simp; done) | (simp [*]; done)), H', ⟨by have := HJ4.out; have := HJ9.out; have := HK3.out; have := HJ25.out; omega⟩, ⟨by repeat (first | (with_reducible first | exact HB.out | apply below_alloc | apply pw_below_drewN | apply below_drew1) | exact HB.out)⟩⟩
                          · replace c32 := Bool.eq_false_iff.mpr c32
                            subst c32
                            have H1 : (tilefarmref3_Range.l0 kj25 x1_9 a2 a3 x13_3 t128 true (wrap64 (x16_3 + 1))) = some (r1, r2, r3) := by rw [if_neg (show ¬ (false = true) by decide)] at H; exact H
                            clear H
                            have H := H1
                            clear H1
                            have H' := Aside0.mk H
                            clear H
                            go_wp2
                            go_roundg kj25
                            case measure => have := HJ4.out; have := HJ9.out; have := HK3.out; have := HJ25.out; omega
                            case rel => exact ⟨(x13_3), (t128), (true), (wrap64 (x16_3 + 1)), (by first | rfl | (simp; done) | (simp [*]; done)), (by first | rfl | (simp; done) | (simp [*]; done)), (by first | rfl | (simp; done) | (simp [*]; done)), (by first | rfl | (simp; done) | (simp [*]; done)), H', ⟨by have := HJ4.out; have := HJ9.out; have := HK3.out; have := HJ25.out; omega⟩, ⟨by repeat (first | (with_reducible first | exact HB.out | apply below_alloc | apply pw_below_drewN | apply below_drew1) | exact HB.out)⟩⟩
                  · replace c25 := Bool.eq_false_iff.mpr c25
                    subst c25
                    have H1 : (tilefarmref3_Range.l0 k3 x1_9 a2 a3 x13_3 x14_3 x15_3 (wrap64 (x16_3 + 1))) = some (r1, r2, r3) := by rw [if_neg (show ¬ (false = true) by decide)] at H; exact H
                    clear H
                    have H := H1
                    clear H1
                    have H' := Aside0.mk H
                    clear H
                    go_wp2_with (first | ((with_reducible refine gate_callee (f := 11) rfl ?_); refine goesL_ (some 79) rfl rfl Try.func11 (by kernel_rfl) rfl #[.int .i64 x16_3, .int .i64 a2, .int .i64 a3] rfl (by (try simp only [List.map_toArray, List.map_cons, List.map_nil]); first | done | rfl | (simp only [List.length_drop, List.length_take]; rfl)) ?_; (with_reducible refine (tilefarmref3_Index.calls k3 x16_3 a2 a3 t128 false _ A24.out).mono ?_); rintro e w34 ⟨rfl, hb⟩; refine ⟨_, rfl, ?_⟩; have n0_ := Aside0.mk (below_step (by repeat (first | (with_reducible first | exact HB.out | apply below_alloc | apply pw_below_drewN | apply below_drew1) | exact HB.out)) hb); clear HB; have HB := n0_; clear n0_; (try clear hb); (try clear hb2); (try clear hk); (try clear hi)))
                    go_roundg k3
                    case measure => have := HJ4.out; have := HJ9.out; have := HK3.out; omega
                    case rel => exact ⟨(x13_3), (x14_3), (x15_3), (wrap64 (x16_3 + 1)), (by first | rfl | (simp; done) | (simp [*]; done)), (by first | rfl | (simp; done) | (simp [*]; done)), (by first | rfl | (simp; done) | (simp [*]; done)), (by first | rfl | (simp; done) | (simp [*]; done)), H', ⟨by have := HJ4.out; have := HJ9.out; have := HK3.out; omega⟩, ⟨by repeat (first | (with_reducible first | exact HB.out | apply below_alloc | apply pw_below_drewN | apply below_drew1) | exact HB.out)⟩⟩
                · rw [if_neg c23] at H
                  have c23b0 : decide (x16_3 < x1_9) = false := decide_eq_false c23
                  clear c23
                  simp only [Option.some.injEq, Prod.mk.injEq] at H
                  obtain ⟨rfl, rfl, rfl⟩ := H
                  go_wp2
                  go_ret3
                  exact ⟨by first | rfl | (simp [errW_none, errW_some] <;> rfl) | (simp [*, errW_none, errW_some] <;> rfl), by repeat (first | (with_reducible first | exact HB.out | apply below_alloc | apply pw_below_drewN | apply below_drew1) | exact HB.out)⟩

end Go.Proofs.Ytagdbpbajkojoaa.PBorderRange
