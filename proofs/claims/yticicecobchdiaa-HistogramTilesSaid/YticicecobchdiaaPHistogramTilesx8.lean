-- Written by a program of the session (wip/tools/myprint.py) over the kit's printer; checked by Lean.
import Derived.Test.YticicecobchdiaaPHistogramTilesx0
namespace Go.Proofs.Yticicecobchdiaa.PHistogramTiles
open Go.RowKit Go.Proofs.YticicecobchdiaaW.PrintWords Go.Proofs.YticicecobchdiaaW.PrintLast Go.Proofs.YticicecobchdiaaW.PrintMore
attribute [local go_sem] max2_int min2_int max_two min_two max_three min_three max_four min_four   -- for this text's walks alone
set_option linter.unusedVariables false
set_option linter.unusedSimpArgs false

/-! ### tilefarmref4_Same: function 24 -/
def tilefarmref4_Same.l0 : Nat → List Int → List Int → Int → Option (Bool)
  | 0, _, _, _ => none
  | k + 1, x0, x1, x5 => if x5 < (x0.length : Int) then (if 0 ≤ x5 then (if x5 < (x1.length : Int) then (if (rd x0 x5) = (rd x1 x5) then (tilefarmref4_Same.l0 k x0 x1 (wrap64 (x5 + 1))) else (some false)) else (none)) else (none)) else (some true)
def tilefarmref4_Same.f (k : Nat) (l0 : List Int) (l1 : List Int) : Option (Bool) := if (l0.length : Int) = (l1.length : Int) then (tilefarmref4_Same.l0 k l0 l1 0) else (some false)
theorem tilefarmref4_Same.mono_l : ∀ k, (∀ y0 y1 y2, LeO (tilefarmref4_Same.l0 k y0 y1 y2) (tilefarmref4_Same.l0 (k + 1) y0 y1 y2))
  | 0 => fun _ _ _ r h => by simp [tilefarmref4_Same.l0] at h
  | k + 1 => by
    have ih0 := tilefarmref4_Same.mono_l k
    · intro y0 y1 y2
      unfold tilefarmref4_Same.l0
      repeat' first
      | (with_reducible exact ih0 _ _ _)
      | (with_reducible exact LeO.refl _)
      | (with_reducible exact LeO.none _)
      | (with_reducible refine LeO.ite ?_ ?_)
      | (with_reducible refine LeO.bind ?_ (fun _ => ?_))
      | exact ih0 _ _ _
      | exact LeO.none _
      | refine LeO.ite ?_ ?_
      | refine LeO.bind ?_ (fun _ => ?_)
theorem tilefarmref4_Same.mono : ∀ a0 a1 k, LeO (tilefarmref4_Same.f k a0 a1) (tilefarmref4_Same.f (k + 1) a0 a1) := by
  intro a0 a1 k
  have ih0 := tilefarmref4_Same.mono_l k
  unfold tilefarmref4_Same.f
  repeat' first
      | (with_reducible exact ih0 _ _ _)
      | (with_reducible exact LeO.refl _)
      | (with_reducible exact LeO.none _)
      | (with_reducible refine LeO.ite ?_ ?_)
      | (with_reducible refine LeO.bind ?_ (fun _ => ?_))
      | exact ih0 _ _ _
      | exact LeO.none _
      | refine LeO.ite ?_ ?_
      | refine LeO.bind ?_ (fun _ => ?_)
set_option maxHeartbeats 8000000 in
set_option maxRecDepth 100000 in
theorem tilefarmref4_Same.calls (k : Nat) (A0 : Option Addr) (c0 : Nat) (l0 : List Int) (A1 : Option Addr) (c1 : Nat) (l1 : List Int) (r : Bool) (w : World) (hr0 : Kd.C (Kd.int .i64) w A0 l0.length l0) (hc0 : l0.length ≤ c0) (hr1 : Kd.C (Kd.int .i64) w A1 l1.length l1) (hc1 : l1.length ≤ c1) (h : tilefarmref4_Same.f k l0 l1 = some r) :
    Calls Try.prog 24 #[.slice A0 l0.length c0, .slice A1 l1.length c1] w fun e w' => e = .returned (.bool r) ∧ Drawn0 w w' := by
  have HR0 := Aside0.mk hr0
  have HC0 := Aside0.mk hc0
  clear hr0 hc0
  have HR1 := Aside0.mk hr1
  have HC1 := Aside0.mk hc1
  clear hr1 hc1
  have H : (if (l0.length : Int) = (l1.length : Int) then (tilefarmref4_Same.l0 k l0 l1 0) else (some false)) = some r := h
  clear h
  by_cases c3 : (l0.length : Int) = (l1.length : Int)
  · rw [if_pos c3] at H
    have c3b0 : ((l0.length : Int) == (l1.length : Int)) = true := beq_iff_eq.mpr c3
    have c3b1 : ((l0.length : Int) != (l1.length : Int)) = false := bne_eq_false_iff_eq.mpr c3
    have c3b2 : (l0.length == l1.length) = true := by first | simpa using c3 | (simp at c3 ⊢; omega)
    clear c3
    have H' := Aside0.mk H
    clear H
    go_enter Try.func24, Try.ntmps24
    go_wp2
    repeat (go_quiet (fail); try go_wp2)
    go_loopg [5] k (fun kq v5 w' => ∃ (x5_1 : Int), v5 = .int .i64 x5_1 ∧ Aside0 (tilefarmref4_Same.l0 kq l0 l1 x5_1 = some r) ∧ Aside0 (kq ≤ k) ∧ Drawn0 w w')
    case atStart => exact ⟨(0), (by first | rfl | (simp; done) | (simp [*]; done)), H', ⟨Nat.le_refl _⟩, by repeat (first | exact Drawn0.refl _ | apply Drawn0.step)⟩
    case round =>
      clear H'
      try clear c1
      try clear c2
      try clear p2
      try clear c3
      try clear c3b0
      try clear c3b1
      try clear c3b2
      obtain ⟨x5_1, rfl, HA, HK1, ⟨m1, rfl⟩⟩ := hrel
      cases gk with
      | zero => exact absurd HA.out (by simp [tilefarmref4_Same.l0])
      | succ k1 =>
        have H := HA.out
        clear HA
        simp only [tilefarmref4_Same.l0] at H
        by_cases c4 : x5_1 < (l0.length : Int)
        · rw [if_pos c4] at H
          have c4b0 : decide (x5_1 < (l0.length : Int)) = true := decide_eq_true c4
          clear c4
          by_cases c5 : 0 ≤ x5_1
          · rw [if_pos c5] at H
            have c5b0 : decide (0 ≤ x5_1) = true := decide_eq_true c5
            clear c5
            by_cases c6 : x5_1 < (l1.length : Int)
            · rw [if_pos c6] at H
              have c6b0 : decide (x5_1 < (l1.length : Int)) = true := decide_eq_true c6
              clear c6
              by_cases c7 : (rd l0 x5_1) = (rd l1 x5_1)
              · rw [if_pos c7] at H
                have c7b0 : ((rd l0 x5_1) == (rd l1 x5_1)) = true := beq_iff_eq.mpr c7
                have c7b1 : ((rd l0 x5_1) != (rd l1 x5_1)) = false := bne_eq_false_iff_eq.mpr c7
                clear c7
                have H' := Aside0.mk H
                clear H
                have p234 : 0 ≤ (x5_1 : Int) := of_decide_eq_true (by first | (with_reducible assumption) | assumption)
                have q234 : x5_1 < (l0.length : Int) := of_decide_eq_true (by first | (with_reducible assumption) | assumption)
                obtain ⟨ad234, e234, hx234_0⟩ := Kd.at_int HR0.out x5_1 p234 q234
                cases e234
                replace p234 := eq_true p234
                replace q234 := eq_true q234
                have p235 : 0 ≤ (x5_1 : Int) := of_decide_eq_true (by first | (with_reducible assumption) | assumption)
                have q235 : x5_1 < (l1.length : Int) := of_decide_eq_true (by first | (with_reducible assumption) | assumption)
                obtain ⟨ad235, e235, hx235_0⟩ := Kd.at_int HR1.out x5_1 p235 q235
                cases e235
                replace p235 := eq_true p235
                replace q235 := eq_true q235
                go_wp2
                repeat (go_quiet (fail); try go_wp2)
                go_roundg k1
                case measure => have := HK1.out; omega
                case rel => exact ⟨(wrap64 (x5_1 + 1)), (by first | rfl | (simp; done) | (simp [*]; done)), H', ⟨by have := HK1.out; omega⟩, by repeat (first | exact Drawn0.refl _ | apply Drawn0.step)⟩
              · rw [if_neg c7] at H
                have c7b0 : ((rd l0 x5_1) == (rd l1 x5_1)) = false := beq_eq_false_iff_ne.mpr c7
                have c7b1 : ((rd l0 x5_1) != (rd l1 x5_1)) = true := bne_iff_ne.mpr c7
                obtain rfl := Option.some.inj H
                have p234 : 0 ≤ (x5_1 : Int) := of_decide_eq_true (by first | (with_reducible assumption) | assumption)
                have q234 : x5_1 < (l0.length : Int) := of_decide_eq_true (by first | (with_reducible assumption) | assumption)
                obtain ⟨ad234, e234, hx234_0⟩ := Kd.at_int HR0.out x5_1 p234 q234
                cases e234
                replace p234 := eq_true p234
                replace q234 := eq_true q234
                have p235 : 0 ≤ (x5_1 : Int) := of_decide_eq_true (by first | (with_reducible assumption) | assumption)
                have q235 : x5_1 < (l1.length : Int) := of_decide_eq_true (by first | (with_reducible assumption) | assumption)
                obtain ⟨ad235, e235, hx235_0⟩ := Kd.at_int HR1.out x5_1 p235 q235
                cases e235
                replace p235 := eq_true p235
                replace q235 := eq_true q235
                go_wp2
                repeat (go_quiet (fail); try go_wp2)
                go_ret
                exact ⟨by first | rfl | (simp; done) | (simp [*]; done), by repeat (first | exact Drawn0.refl _ | apply Drawn0.step)⟩
            · rw [if_neg c6] at H
              exact absurd H (by simp)
          · rw [if_neg c5] at H
            exact absurd H (by simp)
        · rw [if_neg c4] at H
          have c4b0 : decide (x5_1 < (l0.length : Int)) = false := decide_eq_false c4
          clear c4
          obtain rfl := Option.some.inj H
          go_wp2
          repeat (go_quiet (fail); try go_wp2)
          go_ret
          exact ⟨by first | rfl | (simp; done) | (simp [*]; done), by repeat (first | exact Drawn0.refl _ | apply Drawn0.step)⟩
  · rw [if_neg c3] at H
    have c3b0 : ((l0.length : Int) == (l1.length : Int)) = false := beq_eq_false_iff_ne.mpr c3
    have c3b1 : ((l0.length : Int) != (l1.length : Int)) = true := bne_iff_ne.mpr c3
    have c3b2 : (l0.length == l1.length) = false := by first | simpa using c3 | (simp at c3 ⊢; omega)
    obtain rfl := Option.some.inj H
    go_enter Try.func24, Try.ntmps24
    go_wp2
    repeat (go_quiet (fail); try go_wp2)
    go_ret
    exact ⟨by first | rfl | (simp; done) | (simp [*]; done), by repeat (first | exact Drawn0.refl _ | apply Drawn0.step)⟩

/-! ### grid_between: function 39 -/
def grid_between.f (a0 : Int) (a1 : Int) : Option (Bool) := if a0 ≥ 1 then (some (decide (a0 ≤ a1))) else (some false)
set_option maxHeartbeats 8000000 in
set_option maxRecDepth 100000 in
theorem grid_between.calls (a0 : Int) (a1 : Int) (r : Bool) (w : World) (h : grid_between.f a0 a1 = some r) :
    Calls Try.prog 39 #[.int .i64 a0, .int .i64 a1] w fun e w' => e = .returned (.bool r) ∧ Drawn0 w w' := by
  have H : (if a0 ≥ 1 then (some (decide (a0 ≤ a1))) else (some false)) = some r := h
  clear h
  by_cases c3 : a0 ≥ 1
  · rw [if_pos c3] at H
    have c3b0 : decide (1 ≤ a0) = true := decide_eq_true c3
    clear c3
    obtain rfl := Option.some.inj H
    go_enter Try.func39, Try.ntmps39
    go_wp2
    go_ret
    exact ⟨by first | rfl | (simp; done) | (simp [*]; done), by repeat (first | exact Drawn0.refl _ | apply Drawn0.step)⟩
  · rw [if_neg c3] at H
    have c3b0 : decide (1 ≤ a0) = false := decide_eq_false c3
    clear c3
    obtain rfl := Option.some.inj H
    go_enter Try.func39, Try.ntmps39
    go_wp2
    go_ret
    exact ⟨by first | rfl | (simp; done) | (simp [*]; done), by repeat (first | exact Drawn0.refl _ | apply Drawn0.step)⟩

/-! ### extent_Ceil: function 40 -/
def extent_Ceil.j0 : Nat → Int → Int → Bool → Option (Int)
  | 0, _, _, _ => none
  | k + 1, x0, x1, x11 => if x11 = true then (some 0) else (if x1 = 0 then (none) else (if (Int.tmod x0 x1) > 0 then (some (wrap64 ((wrap64 (Int.tdiv x0 x1)) + 1))) else (some (wrap64 (Int.tdiv x0 x1)))))
def extent_Ceil.f (k : Nat) (a0 : Int) (a1 : Int) : Option (Int) := if a0 < 0 then (extent_Ceil.j0 k a0 a1 true) else (extent_Ceil.j0 k a0 a1 (decide (a1 < 1)))
theorem extent_Ceil.mono_l : ∀ k, (∀ y0 y1 y2, LeO (extent_Ceil.j0 k y0 y1 y2) (extent_Ceil.j0 (k + 1) y0 y1 y2))
  | 0 => fun _ _ _ r h => by simp [extent_Ceil.j0] at h
  | k + 1 => by
    have ih0 := extent_Ceil.mono_l k
    · intro y0 y1 y2
      unfold extent_Ceil.j0
      repeat' first
      | (with_reducible exact ih0 _ _ _)
      | (with_reducible exact LeO.refl _)
      | (with_reducible exact LeO.none _)
      | (with_reducible refine LeO.ite ?_ ?_)
      | (with_reducible refine LeO.bind ?_ (fun _ => ?_))
      | exact ih0 _ _ _
      | exact LeO.none _
      | refine LeO.ite ?_ ?_
      | refine LeO.bind ?_ (fun _ => ?_)
theorem extent_Ceil.mono : ∀ a0 a1 k, LeO (extent_Ceil.f k a0 a1) (extent_Ceil.f (k + 1) a0 a1) := by
  intro a0 a1 k
  have ih0 := extent_Ceil.mono_l k
  unfold extent_Ceil.f
  repeat' first
      | (with_reducible exact ih0 _ _ _)
      | (with_reducible exact LeO.refl _)
      | (with_reducible exact LeO.none _)
      | (with_reducible refine LeO.ite ?_ ?_)
      | (with_reducible refine LeO.bind ?_ (fun _ => ?_))
      | exact ih0 _ _ _
      | exact LeO.none _
      | refine LeO.ite ?_ ?_
      | refine LeO.bind ?_ (fun _ => ?_)
set_option maxHeartbeats 8000000 in
set_option maxRecDepth 100000 in
theorem extent_Ceil.calls (k : Nat) (a0 : Int) (a1 : Int) (r : Int) (w : World) (h : extent_Ceil.f k a0 a1 = some r) :
    Calls Try.prog 40 #[.int .i64 a0, .int .i64 a1] w fun e w' => e = .returned (.int .i64 r) ∧ Drawn0 w w' := by
  have H : (if a0 < 0 then (extent_Ceil.j0 k a0 a1 true) else (extent_Ceil.j0 k a0 a1 (decide (a1 < 1)))) = some r := h
  clear h
  have HC3 := Aside0.mk H
  clear H
  go_enter Try.func40, Try.ntmps40
  go_upto_region 1 with (fail)
  go_cut [11] (fun v11 wc => ∃ (kq : Nat) (x11_2 : Bool), v11 = .bool x11_2 ∧ Aside0 (extent_Ceil.j0 kq a0 a1 x11_2 = some r) ∧ Aside0 (kq ≤ k) ∧ Drawn0 w wc)
  case first =>
    have H := HC3.out
    clear HC3
    by_cases c4 : a0 < 0
    · rw [if_pos c4] at H
      have c4b0 : decide (a0 < 0) = true := decide_eq_true c4
      clear c4
      (first | rw [c4b0] | (simp only [i64_w, i32_w]; rw [c4b0]) | skip)
      have H' := Aside0.mk H
      clear H
      go_wp2
      go_meet
      case rel => exact ⟨_, (true), (by first | rfl | (simp; done) | (simp [*]; done)), H', ⟨by first | omega | exact Nat.le_refl _⟩, by repeat (first | exact Drawn0.refl _ | apply Drawn0.step)⟩
    · rw [if_neg c4] at H
      have c4b0 : decide (a0 < 0) = false := decide_eq_false c4
      clear c4
      (first | rw [c4b0] | (simp only [i64_w, i32_w]; rw [c4b0]) | skip)
      have H' := Aside0.mk H
      clear H
      go_wp2
      go_meet
      case rel => exact ⟨_, (decide (a1 < 1)), (by first | rfl | (simp; done) | (simp [*]; done)), H', ⟨by first | omega | exact Nat.le_refl _⟩, by repeat (first | exact Drawn0.refl _ | apply Drawn0.step)⟩
  case rest =>
    clear HC3
    try clear p2
    try clear c4
    try clear c4b0
    obtain ⟨kq, x11_2, rfl, HA, HJ2, ⟨mc2, rfl⟩⟩ := hcut
    cases kq with
    | zero => exact absurd HA.out (by simp [extent_Ceil.j0])
    | succ kj2 =>
      have H := HA.out
      clear HA
      simp only [extent_Ceil.j0] at H
      by_cases c5 : x11_2 = true
      · subst c5
        have H1 : (some 0) = some r := by rw [if_pos rfl] at H; exact H
        clear H
        have H := H1
        clear H1
        obtain rfl := Option.some.inj H
        go_wp2
        go_ret
        exact ⟨by first | rfl | (simp; done) | (simp [*]; done), by repeat (first | exact Drawn0.refl _ | apply Drawn0.step)⟩
      · replace c5 := Bool.eq_false_iff.mpr c5
        subst c5
        have H1 : (if a1 = 0 then (none) else (if (Int.tmod a0 a1) > 0 then (some (wrap64 ((wrap64 (Int.tdiv a0 a1)) + 1))) else (some (wrap64 (Int.tdiv a0 a1))))) = some r := by rw [if_neg (show ¬ (false = true) by decide)] at H; exact H
        clear H
        have H := H1
        clear H1
        by_cases c6 : a1 = 0
        · rw [if_pos c6] at H
          exact absurd H (by simp)
        · rw [if_neg c6] at H
          have c6b0 : (a1 == 0) = false := beq_eq_false_iff_ne.mpr c6
          have c6b1 : (a1 != 0) = true := bne_iff_ne.mpr c6
          by_cases c7 : (Int.tmod a0 a1) > 0
          · rw [if_pos c7] at H
            have c7b0 : decide (0 < (Int.tmod a0 a1)) = true := decide_eq_true c7
            clear c7
            obtain rfl := Option.some.inj H
            go_wp2
            go_ret
            exact ⟨by first | rfl | (simp; done) | (simp [*]; done), by repeat (first | exact Drawn0.refl _ | apply Drawn0.step)⟩
          · rw [if_neg c7] at H
            have c7b0 : decide (0 < (Int.tmod a0 a1)) = false := decide_eq_false c7
            clear c7
            obtain rfl := Option.some.inj H
            go_wp2
            go_ret
            exact ⟨by first | rfl | (simp; done) | (simp [*]; done), by repeat (first | exact Drawn0.refl _ | apply Drawn0.step)⟩

/-! ### grid_Count: function 27 -/
def grid_Count.j0 : Nat → Int → Int → Int → Int → Bool → Option (Int × Int)
  | 0, _, _, _, _, _ => none
  | k + 1, x0, x1, x2, x3, x27 => if x27 = true then (some (0, 0)) else ((extent_Ceil.f k x0 x2).bind fun t240 => ((extent_Ceil.f k x1 x3).bind fun t241 => (some (t240, t241))))
def grid_Count.f (k : Nat) (a0 : Int) (a1 : Int) (a2 : Int) (a3 : Int) : Option (Int × Int) := (grid_between.f a0 128).bind fun t236 => (if t236 = true then ((grid_between.f a1 128).bind fun t237 => (if t237 = true then ((grid_between.f a2 64).bind fun t238 => (if t238 = true then ((grid_between.f a3 64).bind fun t239 => (grid_Count.j0 k a0 a1 a2 a3 (!t239))) else (grid_Count.j0 k a0 a1 a2 a3 true))) else (grid_Count.j0 k a0 a1 a2 a3 true))) else (grid_Count.j0 k a0 a1 a2 a3 true))
theorem grid_Count.mono_l : ∀ k, (∀ y0 y1 y2 y3 y4, LeO (grid_Count.j0 k y0 y1 y2 y3 y4) (grid_Count.j0 (k + 1) y0 y1 y2 y3 y4))
  | 0 => fun _ _ _ _ _ r h => by simp [grid_Count.j0] at h
  | k + 1 => by
    have ih0 := grid_Count.mono_l k
    · intro y0 y1 y2 y3 y4
      unfold grid_Count.j0
      repeat' first
      | (with_reducible exact ih0 _ _ _ _ _)
      | (with_reducible exact extent_Ceil.mono _ _ _)
      | (with_reducible exact LeO.refl _)
      | (with_reducible exact LeO.none _)
      | (with_reducible refine LeO.ite ?_ ?_)
      | (with_reducible refine LeO.bind ?_ (fun _ => ?_))
      | exact ih0 _ _ _ _ _
      | exact extent_Ceil.mono _ _ _
      | exact LeO.none _
      | refine LeO.ite ?_ ?_
      | refine LeO.bind ?_ (fun _ => ?_)
theorem grid_Count.mono : ∀ a0 a1 a2 a3 k, LeO (grid_Count.f k a0 a1 a2 a3) (grid_Count.f (k + 1) a0 a1 a2 a3) := by
  intro a0 a1 a2 a3 k
  have ih0 := grid_Count.mono_l k
  unfold grid_Count.f
  repeat' first
      | (with_reducible exact ih0 _ _ _ _ _)
      | (with_reducible exact extent_Ceil.mono _ _ _)
      | (with_reducible exact LeO.refl _)
      | (with_reducible exact LeO.none _)
      | (with_reducible refine LeO.ite ?_ ?_)
      | (with_reducible refine LeO.bind ?_ (fun _ => ?_))
      | exact ih0 _ _ _ _ _
      | exact extent_Ceil.mono _ _ _
      | exact LeO.none _
      | refine LeO.ite ?_ ?_
      | refine LeO.bind ?_ (fun _ => ?_)
set_option maxHeartbeats 8000000 in
set_option maxRecDepth 100000 in
theorem grid_Count.calls (k : Nat) (a0 : Int) (a1 : Int) (a2 : Int) (a3 : Int) (r1 : Int) (r2 : Int) (w : World) (h : grid_Count.f k a0 a1 a2 a3 = some (r1, r2)) :
    Calls Try.prog 27 #[.int .i64 a0, .int .i64 a1, .int .i64 a2, .int .i64 a3] w fun e w' => e = .returned (.tuple #[.int .i64 r1, .int .i64 r2]) ∧ Drawn0 w w' := by
  have H : ((grid_between.f a0 128).bind fun t236 => (if t236 = true then ((grid_between.f a1 128).bind fun t237 => (if t237 = true then ((grid_between.f a2 64).bind fun t238 => (if t238 = true then ((grid_between.f a3 64).bind fun t239 => (grid_Count.j0 k a0 a1 a2 a3 (!t239))) else (grid_Count.j0 k a0 a1 a2 a3 true))) else (grid_Count.j0 k a0 a1 a2 a3 true))) else (grid_Count.j0 k a0 a1 a2 a3 true))) = some (r1, r2) := h
  clear h
  have HC5 := Aside0.mk H
  clear H
  go_enter Try.func27, Try.ntmps27
  go_upto_region 1 with (fail)
  go_cut [27] (fun v27 wc => ∃ (kq : Nat) (x27_4 : Bool), v27 = .bool x27_4 ∧ Aside0 (grid_Count.j0 kq a0 a1 a2 a3 x27_4 = some (r1, r2)) ∧ Aside0 (kq ≤ k) ∧ Drawn0 w wc)
  case first =>
    have H := HC5.out
    clear HC5
    replace H := Option.bind_eq_some_iff.mp H
    obtain ⟨t236, A60, H⟩ := H
    replace H : (if t236 = true then ((grid_between.f a1 128).bind fun t237 => (if t237 = true then ((grid_between.f a2 64).bind fun t238 => (if t238 = true then ((grid_between.f a3 64).bind fun t239 => (grid_Count.j0 k a0 a1 a2 a3 (!t239))) else (grid_Count.j0 k a0 a1 a2 a3 true))) else (grid_Count.j0 k a0 a1 a2 a3 true))) else (grid_Count.j0 k a0 a1 a2 a3 true)) = some (r1, r2) := H
    have A6 := Aside0.mk A60
    clear A60
    by_cases c7 : t236 = true
    · subst c7
      have H1 : ((grid_between.f a1 128).bind fun t237 => (if t237 = true then ((grid_between.f a2 64).bind fun t238 => (if t238 = true then ((grid_between.f a3 64).bind fun t239 => (grid_Count.j0 k a0 a1 a2 a3 (!t239))) else (grid_Count.j0 k a0 a1 a2 a3 true))) else (grid_Count.j0 k a0 a1 a2 a3 true))) = some (r1, r2) := by rw [if_pos rfl] at H; exact H
      clear H
      have H := H1
      clear H1
      replace H := Option.bind_eq_some_iff.mp H
      obtain ⟨t237, A80, H⟩ := H
      replace H : (if t237 = true then ((grid_between.f a2 64).bind fun t238 => (if t238 = true then ((grid_between.f a3 64).bind fun t239 => (grid_Count.j0 k a0 a1 a2 a3 (!t239))) else (grid_Count.j0 k a0 a1 a2 a3 true))) else (grid_Count.j0 k a0 a1 a2 a3 true)) = some (r1, r2) := H
      have A8 := Aside0.mk A80
      clear A80
      by_cases c9 : t237 = true
      · subst c9
        have H1 : ((grid_between.f a2 64).bind fun t238 => (if t238 = true then ((grid_between.f a3 64).bind fun t239 => (grid_Count.j0 k a0 a1 a2 a3 (!t239))) else (grid_Count.j0 k a0 a1 a2 a3 true))) = some (r1, r2) := by rw [if_pos rfl] at H; exact H
        clear H
        have H := H1
        clear H1
        replace H := Option.bind_eq_some_iff.mp H
        obtain ⟨t238, A100, H⟩ := H
        replace H : (if t238 = true then ((grid_between.f a3 64).bind fun t239 => (grid_Count.j0 k a0 a1 a2 a3 (!t239))) else (grid_Count.j0 k a0 a1 a2 a3 true)) = some (r1, r2) := H
        have A10 := Aside0.mk A100
        clear A100
        by_cases c11 : t238 = true
        · subst c11
          have H1 : ((grid_between.f a3 64).bind fun t239 => (grid_Count.j0 k a0 a1 a2 a3 (!t239))) = some (r1, r2) := by rw [if_pos rfl] at H; exact H
          clear H
          have H := H1
          clear H1
          replace H := Option.bind_eq_some_iff.mp H
          obtain ⟨t239, A120, H⟩ := H
          replace H : (grid_Count.j0 k a0 a1 a2 a3 (!t239)) = some (r1, r2) := H
          have A12 := Aside0.mk A120
          clear A120
          have H' := Aside0.mk H
          clear H
          go_wp2_with (first | ((with_reducible refine gate_callee (f := 39) rfl ?_); refine goesL_ (some 11) rfl rfl Try.func39 (by kernel_rfl) rfl #[.int .i64 a0, .int .i64 128] rfl (by (try simp only [List.map_toArray, List.map_cons, List.map_nil]); first | done | rfl | (simp only [List.length_drop, List.length_take]; rfl)) ?_; (with_reducible refine (grid_between.calls a0 128 true _ A6.out).mono ?_); rintro e w' ⟨rfl, ⟨nd, rfl⟩⟩; refine ⟨_, rfl, ?_⟩) | (go_at_call 39; (with_reducible refine (grid_between.calls a1 128 true _ A8.out).mono ?_); rintro e w' ⟨rfl, ⟨nd, rfl⟩⟩) | (go_at_call 39; (with_reducible refine (grid_between.calls a2 64 true _ A10.out).mono ?_); rintro e w' ⟨rfl, ⟨nd, rfl⟩⟩) | (go_at_call 39; (with_reducible refine (grid_between.calls a3 64 t239 _ A12.out).mono ?_); rintro e w' ⟨rfl, ⟨nd, rfl⟩⟩))
          go_meet
          case rel => exact ⟨_, (!t239), (by first | rfl | (simp; done) | (simp [*]; done)), H', ⟨by first | omega | exact Nat.le_refl _⟩, by repeat (first | exact Drawn0.refl _ | apply Drawn0.step)⟩
        · replace c11 := Bool.eq_false_iff.mpr c11
          subst c11
          have H1 : (grid_Count.j0 k a0 a1 a2 a3 true) = some (r1, r2) := by rw [if_neg (show ¬ (false = true) by decide)] at H; exact H
          clear H
          have H := H1
          clear H1
          have H' := Aside0.mk H
          clear H
          go_wp2_with (first | ((with_reducible refine gate_callee (f := 39) rfl ?_); refine goesL_ (some 11) rfl rfl Try.func39 (by kernel_rfl) rfl #[.int .i64 a0, .int .i64 128] rfl (by (try simp only [List.map_toArray, List.map_cons, List.map_nil]); first | done | rfl | (simp only [List.length_drop, List.length_take]; rfl)) ?_; (with_reducible refine (grid_between.calls a0 128 true _ A6.out).mono ?_); rintro e w' ⟨rfl, ⟨nd, rfl⟩⟩; refine ⟨_, rfl, ?_⟩) | (go_at_call 39; (with_reducible refine (grid_between.calls a1 128 true _ A8.out).mono ?_); rintro e w' ⟨rfl, ⟨nd, rfl⟩⟩) | (go_at_call 39; (with_reducible refine (grid_between.calls a2 64 false _ A10.out).mono ?_); rintro e w' ⟨rfl, ⟨nd, rfl⟩⟩))
          go_meet
          case rel => exact ⟨_, (true), (by first | rfl | (simp; done) | (simp [*]; done)), H', ⟨by first | omega | exact Nat.le_refl _⟩, by repeat (first | exact Drawn0.refl _ | apply Drawn0.step)⟩
      · replace c9 := Bool.eq_false_iff.mpr c9
        subst c9
        have H1 : (grid_Count.j0 k a0 a1 a2 a3 true) = some (r1, r2) := by rw [if_neg (show ¬ (false = true) by decide)] at H; exact H
        clear H
        have H := H1
        clear H1
        have H' := Aside0.mk H
        clear H
        go_wp2_with (first | ((with_reducible refine gate_callee (f := 39) rfl ?_); refine goesL_ (some 11) rfl rfl Try.func39 (by kernel_rfl) rfl #[.int .i64 a0, .int .i64 128] rfl (by (try simp only [List.map_toArray, List.map_cons, List.map_nil]); first | done | rfl | (simp only [List.length_drop, List.length_take]; rfl)) ?_; (with_reducible refine (grid_between.calls a0 128 true _ A6.out).mono ?_); rintro e w' ⟨rfl, ⟨nd, rfl⟩⟩; refine ⟨_, rfl, ?_⟩) | (go_at_call 39; (with_reducible refine (grid_between.calls a1 128 false _ A8.out).mono ?_); rintro e w' ⟨rfl, ⟨nd, rfl⟩⟩))
        go_meet
        case rel => exact ⟨_, (true), (by first | rfl | (simp; done) | (simp [*]; done)), H', ⟨by first | omega | exact Nat.le_refl _⟩, by repeat (first | exact Drawn0.refl _ | apply Drawn0.step)⟩
    · replace c7 := Bool.eq_false_iff.mpr c7
      subst c7
      have H1 : (grid_Count.j0 k a0 a1 a2 a3 true) = some (r1, r2) := by rw [if_neg (show ¬ (false = true) by decide)] at H; exact H
      clear H
      have H := H1
      clear H1
      have H' := Aside0.mk H
      clear H
      go_wp2_with (first | ((with_reducible refine gate_callee (f := 39) rfl ?_); refine goesL_ (some 11) rfl rfl Try.func39 (by kernel_rfl) rfl #[.int .i64 a0, .int .i64 128] rfl (by (try simp only [List.map_toArray, List.map_cons, List.map_nil]); first | done | rfl | (simp only [List.length_drop, List.length_take]; rfl)) ?_; (with_reducible refine (grid_between.calls a0 128 false _ A6.out).mono ?_); rintro e w' ⟨rfl, ⟨nd, rfl⟩⟩; refine ⟨_, rfl, ?_⟩))
      go_meet
      case rel => exact ⟨_, (true), (by first | rfl | (simp; done) | (simp [*]; done)), H', ⟨by first | omega | exact Nat.le_refl _⟩, by repeat (first | exact Drawn0.refl _ | apply Drawn0.step)⟩
  case rest =>
    clear HC5
    try clear c1
    try clear c2
    try clear p2
    try clear c3
    try clear c7
    try clear c9
    try clear c11
    obtain ⟨kq, x27_4, rfl, HA, HJ4, ⟨mc4, rfl⟩⟩ := hcut
    cases kq with
    | zero => exact absurd HA.out (by simp [grid_Count.j0])
    | succ kj4 =>
      have H := HA.out
      clear HA
      simp only [grid_Count.j0] at H
      by_cases c13 : x27_4 = true
      · subst c13
        have H1 : (some (0, 0)) = some (r1, r2) := by rw [if_pos rfl] at H; exact H
        clear H
        have H := H1
        clear H1
        simp only [Option.some.injEq, Prod.mk.injEq] at H
        obtain ⟨rfl, rfl⟩ := H
        go_wp2
        go_ret2
        exact ⟨by first | rfl | (simp; done) | (simp [*]; done), by repeat (first | exact Drawn0.refl _ | apply Drawn0.step)⟩
      · replace c13 := Bool.eq_false_iff.mpr c13
        subst c13
        have H1 : ((extent_Ceil.f kj4 a0 a2).bind fun t240 => ((extent_Ceil.f kj4 a1 a3).bind fun t241 => (some (t240, t241)))) = some (r1, r2) := by rw [if_neg (show ¬ (false = true) by decide)] at H; exact H
        clear H
        have H := H1
        clear H1
        replace H := Option.bind_eq_some_iff.mp H
        obtain ⟨t240, A140, H⟩ := H
        replace H : ((extent_Ceil.f kj4 a1 a3).bind fun t241 => (some (t240, t241))) = some (r1, r2) := H
        have A14 := Aside0.mk A140
        clear A140
        replace H := Option.bind_eq_some_iff.mp H
        obtain ⟨t241, A150, H⟩ := H
        replace H : (some (t240, t241)) = some (r1, r2) := H
        have A15 := Aside0.mk A150
        clear A150
        simp only [Option.some.injEq, Prod.mk.injEq] at H
        obtain ⟨rfl, rfl⟩ := H
        go_wp2_with (first | ((with_reducible refine gate_callee (f := 40) rfl ?_); refine goesL_ (some 30) rfl rfl Try.func40 (by kernel_rfl) rfl #[.int .i64 a0, .int .i64 a2] rfl (by (try simp only [List.map_toArray, List.map_cons, List.map_nil]); first | done | rfl | (simp only [List.length_drop, List.length_take]; rfl)) ?_; (with_reducible refine (extent_Ceil.calls kj4 a0 a2 t240 _ A14.out).mono ?_); rintro e w' ⟨rfl, ⟨nd, rfl⟩⟩; refine ⟨_, rfl, ?_⟩) | ((with_reducible refine gate_callee (f := 40) rfl ?_); refine goesL_ (some 33) rfl rfl Try.func40 (by kernel_rfl) rfl #[.int .i64 a1, .int .i64 a3] rfl (by (try simp only [List.map_toArray, List.map_cons, List.map_nil]); first | done | rfl | (simp only [List.length_drop, List.length_take]; rfl)) ?_; (with_reducible refine (extent_Ceil.calls kj4 a1 a3 t241 _ A15.out).mono ?_); rintro e w' ⟨rfl, ⟨nd, rfl⟩⟩; refine ⟨_, rfl, ?_⟩))
        go_ret2
        exact ⟨by first | rfl | (simp; done) | (simp [*]; done), by repeat (first | exact Drawn0.refl _ | apply Drawn0.step)⟩

/-! ### grid_Tile: function 28 -/
def grid_Tile.f (k : Nat) (a0 : Int) (a1 : Int) (a2 : Int) (a3 : Int) (a4 : Int) : Option (Int × Int × Int × Int × Bool) := (grid_Count.f k a0 a1 a2 a3).bind fun bt243 => (if a4 < 0 then (some (0, 0, 0, 0, false)) else (if a4 ≥ (wrap64 (bt243.1 * bt243.2)) then (some (0, 0, 0, 0, false)) else (if bt243.1 = 0 then (none) else (some (wrap64 ((Int.tmod a4 bt243.1) * a2), wrap64 ((wrap64 (Int.tdiv a4 bt243.1)) * a3), mn (wrap64 ((wrap64 ((Int.tmod a4 bt243.1) * a2)) + a2)) a0, mn (wrap64 ((wrap64 ((wrap64 (Int.tdiv a4 bt243.1)) * a3)) + a3)) a1, true)))))
theorem grid_Tile.mono : ∀ a0 a1 a2 a3 a4 k, LeO (grid_Tile.f k a0 a1 a2 a3 a4) (grid_Tile.f (k + 1) a0 a1 a2 a3 a4) := by
  intro a0 a1 a2 a3 a4 k
  unfold grid_Tile.f
  repeat' first
      | (with_reducible exact grid_Count.mono _ _ _ _ _)
      | (with_reducible exact LeO.refl _)
      | (with_reducible exact LeO.none _)
      | (with_reducible refine LeO.ite ?_ ?_)
      | (with_reducible refine LeO.bind ?_ (fun _ => ?_))
      | exact grid_Count.mono _ _ _ _ _
      | exact LeO.none _
      | refine LeO.ite ?_ ?_
      | refine LeO.bind ?_ (fun _ => ?_)
set_option maxHeartbeats 8000000 in
set_option maxRecDepth 100000 in
theorem grid_Tile.calls (k : Nat) (a0 : Int) (a1 : Int) (a2 : Int) (a3 : Int) (a4 : Int) (r1 : Int) (r2 : Int) (r3 : Int) (r4 : Int) (r5 : Bool) (w : World) (h : grid_Tile.f k a0 a1 a2 a3 a4 = some (r1, r2, r3, r4, r5)) :
    Calls Try.prog 28 #[.int .i64 a0, .int .i64 a1, .int .i64 a2, .int .i64 a3, .int .i64 a4] w fun e w' => e = .returned (.tuple #[.agg #[.int .i64 r1, .int .i64 r2, .int .i64 r3, .int .i64 r4], .bool r5]) ∧ Below w.heap.size w w' := by
  have hu39 := Try.underlying39
  have HB := Aside0.mk (Below.refl w.heap.size w)
  have H : ((grid_Count.f k a0 a1 a2 a3).bind fun bt243 => (if a4 < 0 then (some (0, 0, 0, 0, false)) else (if a4 ≥ (wrap64 (bt243.1 * bt243.2)) then (some (0, 0, 0, 0, false)) else (if bt243.1 = 0 then (none) else (some (wrap64 ((Int.tmod a4 bt243.1) * a2), wrap64 ((wrap64 (Int.tdiv a4 bt243.1)) * a3), mn (wrap64 ((wrap64 ((Int.tmod a4 bt243.1) * a2)) + a2)) a0, mn (wrap64 ((wrap64 ((wrap64 (Int.tdiv a4 bt243.1)) * a3)) + a3)) a1, true)))))) = some (r1, r2, r3, r4, r5) := h
  clear h
  replace H := Option.bind_eq_some_iff.mp H
  obtain ⟨⟨t243, t244⟩, A60, H⟩ := H
  replace H : (if a4 < 0 then (some (0, 0, 0, 0, false)) else (if a4 ≥ (wrap64 (t243 * t244)) then (some (0, 0, 0, 0, false)) else (if t243 = 0 then (none) else (some (wrap64 ((Int.tmod a4 t243) * a2), wrap64 ((wrap64 (Int.tdiv a4 t243)) * a3), mn (wrap64 ((wrap64 ((Int.tmod a4 t243) * a2)) + a2)) a0, mn (wrap64 ((wrap64 ((wrap64 (Int.tdiv a4 t243)) * a3)) + a3)) a1, true))))) = some (r1, r2, r3, r4, r5) := H
  have A6 := Aside0.mk A60
  clear A60
  by_cases c7 : a4 < 0
  · rw [if_pos c7] at H
    have c7b0 : decide (a4 < 0) = true := decide_eq_true c7
    clear c7
    simp only [Option.some.injEq, Prod.mk.injEq] at H
    obtain ⟨rfl, rfl, rfl, rfl, rfl⟩ := H
    go_enter Try.func28, Try.ntmps28
    go_wp2_with (first | ((with_reducible refine gate_dst (N := 10) rfl ?_); refine box_event ?hg (N := 10) ?hd (cs := #[.int .i64 0, .int .i64 0, .int .i64 0, .int .i64 0]) (t := 39) ?hr ?_; (case hd => rfl); (case hg => rfl); (case hr => first | (go_simp; done) | (go_simp; rfl)); intro gb242 hg w8 hbox hb; have n0_ := Aside0.mk (below_step (by repeat (first | (with_reducible first | exact HB.out | apply below_alloc | apply pw_below_drewN | apply below_drew1) | exact HB.out)) hb); have n1_ := Aside0.mk (hbox); have n2_ := Aside0.mk ((by rw [hg]; exact (below_size (by repeat (first | (with_reducible first | exact HB.out | apply below_alloc | apply pw_below_drewN | apply below_drew1) | exact HB.out))) : w.heap.size ≤ gb242)); have n3_ := Aside0.mk ((by rw [hg]; exact (below_size (by repeat (first | (with_reducible first | exact HB.out | apply below_alloc | apply pw_below_drewN | apply below_drew1) | exact HB.out))) : w.heap.size ≤ gb242)); clear HB; have HB := n0_; have BK242 := n1_; have GW242 := n2_; have GE242 := n3_; clear n0_ n1_ n2_ n3_; clear hb hbox hg) | (go_at_call 27; (with_reducible refine (grid_Count.calls k a0 a1 a2 a3 t243 t244 _ A6.out).mono ?_); rintro e w' ⟨rfl, ⟨nd, rfl⟩⟩; (try first | exact ⟨rfl, _, World.drewN_drewN _ _ _⟩ | exact ⟨rfl, _, Eq.trans (World.drewN_drewN _ _ _) (congrArg (World.drewN _) (Nat.add_assoc _ _ _))⟩); have hcz9_0 : w8.cell? ⟨gb242, 0, none⟩ = some (.int .i64 0) := (blk_cell BK242.out 0).trans rfl; have hcz9_1 : w8.cell? ⟨gb242, 1, none⟩ = some (.int .i64 0) := (blk_cell BK242.out 1).trans rfl; have hcz9_2 : w8.cell? ⟨gb242, 2, none⟩ = some (.int .i64 0) := (blk_cell BK242.out 2).trans rfl; have hcz9_3 : w8.cell? ⟨gb242, 3, none⟩ = some (.int .i64 0) := (blk_cell BK242.out 3).trans rfl; have hfz9_0 := blk_frozen BK242.out 0; have hfz9_1 := blk_frozen BK242.out 1; have hfz9_2 := blk_frozen BK242.out 2; have hfz9_3 := blk_frozen BK242.out 3))
    repeat (go_quiet (first | ((with_reducible refine gate_dst (N := 10) rfl ?_); refine box_event ?hg (N := 10) ?hd (cs := #[.int .i64 0, .int .i64 0, .int .i64 0, .int .i64 0]) (t := 39) ?hr ?_; (case hd => rfl); (case hg => rfl); (case hr => first | (go_simp; done) | (go_simp; rfl)); intro gb242 hg w8 hbox hb; have n0_ := Aside0.mk (below_step (by repeat (first | (with_reducible first | exact HB.out | apply below_alloc | apply pw_below_drewN | apply below_drew1) | exact HB.out)) hb); have n1_ := Aside0.mk (hbox); have n2_ := Aside0.mk ((by rw [hg]; exact (below_size (by repeat (first | (with_reducible first | exact HB.out | apply below_alloc | apply pw_below_drewN | apply below_drew1) | exact HB.out))) : w.heap.size ≤ gb242)); have n3_ := Aside0.mk ((by rw [hg]; exact (below_size (by repeat (first | (with_reducible first | exact HB.out | apply below_alloc | apply pw_below_drewN | apply below_drew1) | exact HB.out))) : w.heap.size ≤ gb242)); clear HB; have HB := n0_; have BK242 := n1_; have GW242 := n2_; have GE242 := n3_; clear n0_ n1_ n2_ n3_; clear hb hbox hg) | (go_at_call 27; (with_reducible refine (grid_Count.calls k a0 a1 a2 a3 t243 t244 _ A6.out).mono ?_); rintro e w' ⟨rfl, ⟨nd, rfl⟩⟩; (try first | exact ⟨rfl, _, World.drewN_drewN _ _ _⟩ | exact ⟨rfl, _, Eq.trans (World.drewN_drewN _ _ _) (congrArg (World.drewN _) (Nat.add_assoc _ _ _))⟩); have hcz9_0 : w8.cell? ⟨gb242, 0, none⟩ = some (.int .i64 0) := (blk_cell BK242.out 0).trans rfl; have hcz9_1 : w8.cell? ⟨gb242, 1, none⟩ = some (.int .i64 0) := (blk_cell BK242.out 1).trans rfl; have hcz9_2 : w8.cell? ⟨gb242, 2, none⟩ = some (.int .i64 0) := (blk_cell BK242.out 2).trans rfl; have hcz9_3 : w8.cell? ⟨gb242, 3, none⟩ = some (.int .i64 0) := (blk_cell BK242.out 3).trans rfl; have hfz9_0 := blk_frozen BK242.out 0; have hfz9_1 := blk_frozen BK242.out 1; have hfz9_2 := blk_frozen BK242.out 2; have hfz9_3 := blk_frozen BK242.out 3)); try go_wp2_with (first | ((with_reducible refine gate_dst (N := 10) rfl ?_); refine box_event ?hg (N := 10) ?hd (cs := #[.int .i64 0, .int .i64 0, .int .i64 0, .int .i64 0]) (t := 39) ?hr ?_; (case hd => rfl); (case hg => rfl); (case hr => first | (go_simp; done) | (go_simp; rfl)); intro gb242 hg w8 hbox hb; have n0_ := Aside0.mk (below_step (by repeat (first | (with_reducible first | exact HB.out | apply below_alloc | apply pw_below_drewN | apply below_drew1) | exact HB.out)) hb); have n1_ := Aside0.mk (hbox); have n2_ := Aside0.mk ((by rw [hg]; exact (below_size (by repeat (first | (with_reducible first | exact HB.out | apply below_alloc | apply pw_below_drewN | apply below_drew1) | exact HB.out))) : w.heap.size ≤ gb242)); have n3_ := Aside0.mk ((by rw [hg]; exact (below_size (by repeat (first | (with_reducible first | exact HB.out | apply below_alloc | apply pw_below_drewN | apply below_drew1) | exact HB.out))) : w.heap.size ≤ gb242)); clear HB; have HB := n0_; have BK242 := n1_; have GW242 := n2_; have GE242 := n3_; clear n0_ n1_ n2_ n3_; clear hb hbox hg) | (go_at_call 27; (with_reducible refine (grid_Count.calls k a0 a1 a2 a3 t243 t244 _ A6.out).mono ?_); rintro e w' ⟨rfl, ⟨nd, rfl⟩⟩; (try first | exact ⟨rfl, _, World.drewN_drewN _ _ _⟩ | exact ⟨rfl, _, Eq.trans (World.drewN_drewN _ _ _) (congrArg (World.drewN _) (Nat.add_assoc _ _ _))⟩); have hcz9_0 : w8.cell? ⟨gb242, 0, none⟩ = some (.int .i64 0) := (blk_cell BK242.out 0).trans rfl; have hcz9_1 : w8.cell? ⟨gb242, 1, none⟩ = some (.int .i64 0) := (blk_cell BK242.out 1).trans rfl; have hcz9_2 : w8.cell? ⟨gb242, 2, none⟩ = some (.int .i64 0) := (blk_cell BK242.out 2).trans rfl; have hcz9_3 : w8.cell? ⟨gb242, 3, none⟩ = some (.int .i64 0) := (blk_cell BK242.out 3).trans rfl; have hfz9_0 := blk_frozen BK242.out 0; have hfz9_1 := blk_frozen BK242.out 1; have hfz9_2 := blk_frozen BK242.out 2; have hfz9_3 := blk_frozen BK242.out 3)))
    refine bodyPost_ret (results_ct rfl _ _ gb242 39 #[.int .i64 0, .int .i64 0, .int .i64 0, .int .i64 0] (0, 0) _ rfl (by (with_reducible repeat (first | refine blk_drewN ?_ _ | refine blk_drew ?_ | refine blk_alloc ?_ _)); refine blk_put (cs := #[.int .i64 0, .int .i64 0, .int .i64 0, .int .i64 0]) ?_ 3 _ rfl; (with_reducible repeat (first | refine blk_drewN ?_ _ | refine blk_drew ?_ | refine blk_alloc ?_ _)); refine blk_put (cs := #[.int .i64 0, .int .i64 0, .int .i64 0, .int .i64 0]) ?_ 2 _ rfl; (with_reducible repeat (first | refine blk_drewN ?_ _ | refine blk_drew ?_ | refine blk_alloc ?_ _)); refine blk_put (cs := #[.int .i64 0, .int .i64 0, .int .i64 0, .int .i64 0]) ?_ 1 _ rfl; (with_reducible repeat (first | refine blk_drewN ?_ _ | refine blk_drew ?_ | refine blk_alloc ?_ _)); refine blk_put (cs := #[.int .i64 0, .int .i64 0, .int .i64 0, .int .i64 0]) ?_ 0 _ rfl; (with_reducible repeat (first | refine blk_drewN ?_ _ | refine blk_drew ?_ | refine blk_alloc ?_ _)); exact BK242.out) Try.underlying39 rfl (by kernel_rfl)) rfl ?_
    exact ⟨by first | rfl | (simp [errW_none, errW_some] <;> rfl) | (simp [*, errW_none, errW_some] <;> rfl), by repeat (first | (with_reducible first | exact HB.out | apply below_alloc | apply pw_below_drewN | apply below_drew1 | refine below_set ?_ GE242.out) | exact HB.out)⟩
  · rw [if_neg c7] at H
    have c7b0 : decide (a4 < 0) = false := decide_eq_false c7
    clear c7
    by_cases c10 : a4 ≥ (wrap64 (t243 * t244))
    · rw [if_pos c10] at H
      have c10b0 : decide ((wrap64 (t243 * t244)) ≤ a4) = true := decide_eq_true c10
      clear c10
      simp only [Option.some.injEq, Prod.mk.injEq] at H
      obtain ⟨rfl, rfl, rfl, rfl, rfl⟩ := H
      go_enter Try.func28, Try.ntmps28
      go_wp2_with (first | ((with_reducible refine gate_dst (N := 10) rfl ?_); refine box_event ?hg (N := 10) ?hd (cs := #[.int .i64 0, .int .i64 0, .int .i64 0, .int .i64 0]) (t := 39) ?hr ?_; (case hd => rfl); (case hg => rfl); (case hr => first | (go_simp; done) | (go_simp; rfl)); intro gb242 hg w11 hbox hb; have n0_ := Aside0.mk (below_step (by repeat (first | (with_reducible first | exact HB.out | apply below_alloc | apply pw_below_drewN | apply below_drew1) | exact HB.out)) hb); have n1_ := Aside0.mk (hbox); have n2_ := Aside0.mk ((by rw [hg]; exact (below_size (by repeat (first | (with_reducible first | exact HB.out | apply below_alloc | apply pw_below_drewN | apply below_drew1) | exact HB.out))) : w.heap.size ≤ gb242)); have n3_ := Aside0.mk ((by rw [hg]; exact (below_size (by repeat (first | (with_reducible first | exact HB.out | apply below_alloc | apply pw_below_drewN | apply below_drew1) | exact HB.out))) : w.heap.size ≤ gb242)); clear HB; have HB := n0_; have BK242 := n1_; have GW242 := n2_; have GE242 := n3_; clear n0_ n1_ n2_ n3_; clear hb hbox hg) | (go_at_call 27; (with_reducible refine (grid_Count.calls k a0 a1 a2 a3 t243 t244 _ A6.out).mono ?_); rintro e w' ⟨rfl, ⟨nd, rfl⟩⟩; (try first | exact ⟨rfl, _, World.drewN_drewN _ _ _⟩ | exact ⟨rfl, _, Eq.trans (World.drewN_drewN _ _ _) (congrArg (World.drewN _) (Nat.add_assoc _ _ _))⟩); have hcz12_0 : w11.cell? ⟨gb242, 0, none⟩ = some (.int .i64 0) := (blk_cell BK242.out 0).trans rfl; have hcz12_1 : w11.cell? ⟨gb242, 1, none⟩ = some (.int .i64 0) := (blk_cell BK242.out 1).trans rfl; have hcz12_2 : w11.cell? ⟨gb242, 2, none⟩ = some (.int .i64 0) := (blk_cell BK242.out 2).trans rfl; have hcz12_3 : w11.cell? ⟨gb242, 3, none⟩ = some (.int .i64 0) := (blk_cell BK242.out 3).trans rfl; have hfz12_0 := blk_frozen BK242.out 0; have hfz12_1 := blk_frozen BK242.out 1; have hfz12_2 := blk_frozen BK242.out 2; have hfz12_3 := blk_frozen BK242.out 3))
      repeat (go_quiet (first | ((with_reducible refine gate_dst (N := 10) rfl ?_); refine box_event ?hg (N := 10) ?hd (cs := #[.int .i64 0, .int .i64 0, .int .i64 0, .int .i64 0]) (t := 39) ?hr ?_; (case hd => rfl); (case hg => rfl); (case hr => first | (go_simp; done) | (go_simp; rfl)); intro gb242 hg w11 hbox hb; have n0_ := Aside0.mk (below_step (by repeat (first | (with_reducible first | exact HB.out | apply below_alloc | apply pw_below_drewN | apply below_drew1) | exact HB.out)) hb); have n1_ := Aside0.mk (hbox); have n2_ := Aside0.mk ((by rw [hg]; exact (below_size (by repeat (first | (with_reducible first | exact HB.out | apply below_alloc | apply pw_below_drewN | apply below_drew1) | exact HB.out))) : w.heap.size ≤ gb242)); have n3_ := Aside0.mk ((by rw [hg]; exact (below_size (by repeat (first | (with_reducible first | exact HB.out | apply below_alloc | apply pw_below_drewN | apply below_drew1) | exact HB.out))) : w.heap.size ≤ gb242)); clear HB; have HB := n0_; have BK242 := n1_; have GW242 := n2_; have GE242 := n3_; clear n0_ n1_ n2_ n3_; clear hb hbox hg) | (go_at_call 27; (with_reducible refine (grid_Count.calls k a0 a1 a2 a3 t243 t244 _ A6.out).mono ?_); rintro e w' ⟨rfl, ⟨nd, rfl⟩⟩; (try first | exact ⟨rfl, _, World.drewN_drewN _ _ _⟩ | exact ⟨rfl, _, Eq.trans (World.drewN_drewN _ _ _) (congrArg (World.drewN _) (Nat.add_assoc _ _ _))⟩); have hcz12_0 : w11.cell? ⟨gb242, 0, none⟩ = some (.int .i64 0) := (blk_cell BK242.out 0).trans rfl; have hcz12_1 : w11.cell? ⟨gb242, 1, none⟩ = some (.int .i64 0) := (blk_cell BK242.out 1).trans rfl; have hcz12_2 : w11.cell? ⟨gb242, 2, none⟩ = some (.int .i64 0) := (blk_cell BK242.out 2).trans rfl; have hcz12_3 : w11.cell? ⟨gb242, 3, none⟩ = some (.int .i64 0) := (blk_cell BK242.out 3).trans rfl; have hfz12_0 := blk_frozen BK242.out 0; have hfz12_1 := blk_frozen BK242.out 1; have hfz12_2 := blk_frozen BK242.out 2; have hfz12_3 := blk_frozen BK242.out 3)); try go_wp2_with (first | ((with_reducible refine gate_dst (N := 10) rfl ?_); refine box_event ?hg (N := 10) ?hd (cs := #[.int .i64 0, .int .i64 0, .int .i64 0, .int .i64 0]) (t := 39) ?hr ?_; (case hd => rfl); (case hg => rfl); (case hr => first | (go_simp; done) | (go_simp; rfl)); intro gb242 hg w11 hbox hb; have n0_ := Aside0.mk (below_step (by repeat (first | (with_reducible first | exact HB.out | apply below_alloc | apply pw_below_drewN | apply below_drew1) | exact HB.out)) hb); have n1_ := Aside0.mk (hbox); have n2_ := Aside0.mk ((by rw [hg]; exact (below_size (by repeat (first | (with_reducible first | exact HB.out | apply below_alloc | apply pw_below_drewN | apply below_drew1) | exact HB.out))) : w.heap.size ≤ gb242)); have n3_ := Aside0.mk ((by rw [hg]; exact (below_size (by repeat (first | (with_reducible first | exact HB.out | apply below_alloc | apply pw_below_drewN | apply below_drew1) | exact HB.out))) : w.heap.size ≤ gb242)); clear HB; have HB := n0_; have BK242 := n1_; have GW242 := n2_; have GE242 := n3_; clear n0_ n1_ n2_ n3_; clear hb hbox hg) | (go_at_call 27; (with_reducible refine (grid_Count.calls k a0 a1 a2 a3 t243 t244 _ A6.out).mono ?_); rintro e w' ⟨rfl, ⟨nd, rfl⟩⟩; (try first | exact ⟨rfl, _, World.drewN_drewN _ _ _⟩ | exact ⟨rfl, _, Eq.trans (World.drewN_drewN _ _ _) (congrArg (World.drewN _) (Nat.add_assoc _ _ _))⟩); have hcz12_0 : w11.cell? ⟨gb242, 0, none⟩ = some (.int .i64 0) := (blk_cell BK242.out 0).trans rfl; have hcz12_1 : w11.cell? ⟨gb242, 1, none⟩ = some (.int .i64 0) := (blk_cell BK242.out 1).trans rfl; have hcz12_2 : w11.cell? ⟨gb242, 2, none⟩ = some (.int .i64 0) := (blk_cell BK242.out 2).trans rfl; have hcz12_3 : w11.cell? ⟨gb242, 3, none⟩ = some (.int .i64 0) := (blk_cell BK242.out 3).trans rfl; have hfz12_0 := blk_frozen BK242.out 0; have hfz12_1 := blk_frozen BK242.out 1; have hfz12_2 := blk_frozen BK242.out 2; have hfz12_3 := blk_frozen BK242.out 3)))
      refine bodyPost_ret (results_ct rfl _ _ gb242 39 #[.int .i64 0, .int .i64 0, .int .i64 0, .int .i64 0] (0, 0) _ rfl (by (with_reducible repeat (first | refine blk_drewN ?_ _ | refine blk_drew ?_ | refine blk_alloc ?_ _)); refine blk_put (cs := #[.int .i64 0, .int .i64 0, .int .i64 0, .int .i64 0]) ?_ 3 _ rfl; (with_reducible repeat (first | refine blk_drewN ?_ _ | refine blk_drew ?_ | refine blk_alloc ?_ _)); refine blk_put (cs := #[.int .i64 0, .int .i64 0, .int .i64 0, .int .i64 0]) ?_ 2 _ rfl; (with_reducible repeat (first | refine blk_drewN ?_ _ | refine blk_drew ?_ | refine blk_alloc ?_ _)); refine blk_put (cs := #[.int .i64 0, .int .i64 0, .int .i64 0, .int .i64 0]) ?_ 1 _ rfl; (with_reducible repeat (first | refine blk_drewN ?_ _ | refine blk_drew ?_ | refine blk_alloc ?_ _)); refine blk_put (cs := #[.int .i64 0, .int .i64 0, .int .i64 0, .int .i64 0]) ?_ 0 _ rfl; (with_reducible repeat (first | refine blk_drewN ?_ _ | refine blk_drew ?_ | refine blk_alloc ?_ _)); exact BK242.out) Try.underlying39 rfl (by kernel_rfl)) rfl ?_
      exact ⟨by first | rfl | (simp [errW_none, errW_some] <;> rfl) | (simp [*, errW_none, errW_some] <;> rfl), by repeat (first | (with_reducible first | exact HB.out | apply below_alloc | apply pw_below_drewN | apply below_drew1 | refine below_set ?_ GE242.out) | exact HB.out)⟩
    · rw [if_neg c10] at H
      have c10b0 : decide ((wrap64 (t243 * t244)) ≤ a4) = false := decide_eq_false c10
      clear c10
      by_cases c13 : t243 = 0
      · rw [if_pos c13] at H
        exact absurd H (by simp)
      · rw [if_neg c13] at H
        have c13b0 : (t243 == 0) = false := beq_eq_false_iff_ne.mpr c13
        have c13b1 : (t243 != 0) = true := bne_iff_ne.mpr c13
        obtain ⟨ji14, hji14⟩ : ∃ j_ : Int, (mn (wrap64 ((wrap64 ((Int.tmod a4 t243) * a2)) + a2)) a0) = j_ := ⟨_, rfl⟩
        replace H : (some (wrap64 ((Int.tmod a4 t243) * a2), wrap64 ((wrap64 (Int.tdiv a4 t243)) * a3), ji14, mn (wrap64 ((wrap64 ((wrap64 (Int.tdiv a4 t243)) * a3)) + a3)) a1, true)) = some (r1, r2, r3, r4, r5) := by first | (rw [hji14] at H; exact H) | (simp only [hji14] at H ⊢; exact H)
        (try rw [hji14] at A6)
        have hji14_ : (if a0 < (wrap64 ((wrap64 ((Int.tmod a4 t243) * a2)) + a2)) then a0 else (wrap64 ((wrap64 ((Int.tmod a4 t243) * a2)) + a2))) = ji14 := hji14
        obtain ⟨ji15, hji15⟩ : ∃ j_ : Int, (mn (wrap64 ((wrap64 ((wrap64 (Int.tdiv a4 t243)) * a3)) + a3)) a1) = j_ := ⟨_, rfl⟩
        replace H : (some (wrap64 ((Int.tmod a4 t243) * a2), wrap64 ((wrap64 (Int.tdiv a4 t243)) * a3), ji14, ji15, true)) = some (r1, r2, r3, r4, r5) := by first | (rw [hji15] at H; exact H) | (simp only [hji15] at H ⊢; exact H)
        (try rw [hji15] at A6)
        have hji15_ : (if a1 < (wrap64 ((wrap64 ((wrap64 (Int.tdiv a4 t243)) * a3)) + a3)) then a1 else (wrap64 ((wrap64 ((wrap64 (Int.tdiv a4 t243)) * a3)) + a3))) = ji15 := hji15
        simp only [Option.some.injEq, Prod.mk.injEq] at H
        obtain ⟨rfl, rfl, rfl, rfl, rfl⟩ := H
        go_enter Try.func28, Try.ntmps28
        go_wp2_with (first | ((with_reducible refine gate_dst (N := 10) rfl ?_); refine box_event ?hg (N := 10) ?hd (cs := #[.int .i64 0, .int .i64 0, .int .i64 0, .int .i64 0]) (t := 39) ?hr ?_; (case hd => rfl); (case hg => rfl); (case hr => first | (go_simp; done) | (go_simp; rfl)); intro gb242 hg w16 hbox hb; have n0_ := Aside0.mk (below_step (by repeat (first | (with_reducible first | exact HB.out | apply below_alloc | apply pw_below_drewN | apply below_drew1) | exact HB.out)) hb); have n1_ := Aside0.mk (hbox); have n2_ := Aside0.mk ((by rw [hg]; exact (below_size (by repeat (first | (with_reducible first | exact HB.out | apply below_alloc | apply pw_below_drewN | apply below_drew1) | exact HB.out))) : w.heap.size ≤ gb242)); have n3_ := Aside0.mk ((by rw [hg]; exact (below_size (by repeat (first | (with_reducible first | exact HB.out | apply below_alloc | apply pw_below_drewN | apply below_drew1) | exact HB.out))) : w.heap.size ≤ gb242)); clear HB; have HB := n0_; have BK242 := n1_; have GW242 := n2_; have GE242 := n3_; clear n0_ n1_ n2_ n3_; clear hb hbox hg) | (go_at_call 27; (with_reducible refine (grid_Count.calls k a0 a1 a2 a3 t243 t244 _ A6.out).mono ?_); rintro e w' ⟨rfl, ⟨nd, rfl⟩⟩; (try first | exact ⟨rfl, _, World.drewN_drewN _ _ _⟩ | exact ⟨rfl, _, Eq.trans (World.drewN_drewN _ _ _) (congrArg (World.drewN _) (Nat.add_assoc _ _ _))⟩); have hcz17_0 : w16.cell? ⟨gb242, 0, none⟩ = some (.int .i64 0) := (blk_cell BK242.out 0).trans rfl; have hcz17_1 : w16.cell? ⟨gb242, 1, none⟩ = some (.int .i64 0) := (blk_cell BK242.out 1).trans rfl; have hcz17_2 : w16.cell? ⟨gb242, 2, none⟩ = some (.int .i64 0) := (blk_cell BK242.out 2).trans rfl; have hcz17_3 : w16.cell? ⟨gb242, 3, none⟩ = some (.int .i64 0) := (blk_cell BK242.out 3).trans rfl; have hfz17_0 := blk_frozen BK242.out 0; have hfz17_1 := blk_frozen BK242.out 1; have hfz17_2 := blk_frozen BK242.out 2; have hfz17_3 := blk_frozen BK242.out 3))
        repeat (go_quiet (first | ((with_reducible refine gate_dst (N := 10) rfl ?_); refine box_event ?hg (N := 10) ?hd (cs := #[.int .i64 0, .int .i64 0, .int .i64 0, .int .i64 0]) (t := 39) ?hr ?_; (case hd => rfl); (case hg => rfl); (case hr => first | (go_simp; done) | (go_simp; rfl)); intro gb242 hg w16 hbox hb; have n0_ := Aside0.mk (below_step (by repeat (first | (with_reducible first | exact HB.out | apply below_alloc | apply pw_below_drewN | apply below_drew1) | exact HB.out)) hb); have n1_ := Aside0.mk (hbox); have n2_ := Aside0.mk ((by rw [hg]; exact (below_size (by repeat (first | (with_reducible first | exact HB.out | apply below_alloc | apply pw_below_drewN | apply below_drew1) | exact HB.out))) : w.heap.size ≤ gb242)); have n3_ := Aside0.mk ((by rw [hg]; exact (below_size (by repeat (first | (with_reducible first | exact HB.out | apply below_alloc | apply pw_below_drewN | apply below_drew1) | exact HB.out))) : w.heap.size ≤ gb242)); clear HB; have HB := n0_; have BK242 := n1_; have GW242 := n2_; have GE242 := n3_; clear n0_ n1_ n2_ n3_; clear hb hbox hg) | (go_at_call 27; (with_reducible refine (grid_Count.calls k a0 a1 a2 a3 t243 t244 _ A6.out).mono ?_); rintro e w' ⟨rfl, ⟨nd, rfl⟩⟩; (try first | exact ⟨rfl, _, World.drewN_drewN _ _ _⟩ | exact ⟨rfl, _, Eq.trans (World.drewN_drewN _ _ _) (congrArg (World.drewN _) (Nat.add_assoc _ _ _))⟩); have hcz17_0 : w16.cell? ⟨gb242, 0, none⟩ = some (.int .i64 0) := (blk_cell BK242.out 0).trans rfl; have hcz17_1 : w16.cell? ⟨gb242, 1, none⟩ = some (.int .i64 0) := (blk_cell BK242.out 1).trans rfl; have hcz17_2 : w16.cell? ⟨gb242, 2, none⟩ = some (.int .i64 0) := (blk_cell BK242.out 2).trans rfl; have hcz17_3 : w16.cell? ⟨gb242, 3, none⟩ = some (.int .i64 0) := (blk_cell BK242.out 3).trans rfl; have hfz17_0 := blk_frozen BK242.out 0; have hfz17_1 := blk_frozen BK242.out 1; have hfz17_2 := blk_frozen BK242.out 2; have hfz17_3 := blk_frozen BK242.out 3)); try go_wp2_with (first | ((with_reducible refine gate_dst (N := 10) rfl ?_); refine box_event ?hg (N := 10) ?hd (cs := #[.int .i64 0, .int .i64 0, .int .i64 0, .int .i64 0]) (t := 39) ?hr ?_; (case hd => rfl); (case hg => rfl); (case hr => first | (go_simp; done) | (go_simp; rfl)); intro gb242 hg w16 hbox hb; have n0_ := Aside0.mk (below_step (by repeat (first | (with_reducible first | exact HB.out | apply below_alloc | apply pw_below_drewN | apply below_drew1) | exact HB.out)) hb); have n1_ := Aside0.mk (hbox); have n2_ := Aside0.mk ((by rw [hg]; exact (below_size (by repeat (first | (with_reducible first | exact HB.out | apply below_alloc | apply pw_below_drewN | apply below_drew1) | exact HB.out))) : w.heap.size ≤ gb242)); have n3_ := Aside0.mk ((by rw [hg]; exact (below_size (by repeat (first | (with_reducible first | exact HB.out | apply below_alloc | apply pw_below_drewN | apply below_drew1) | exact HB.out))) : w.heap.size ≤ gb242)); clear HB; have HB := n0_; have BK242 := n1_; have GW242 := n2_; have GE242 := n3_; clear n0_ n1_ n2_ n3_; clear hb hbox hg) | (go_at_call 27; (with_reducible refine (grid_Count.calls k a0 a1 a2 a3 t243 t244 _ A6.out).mono ?_); rintro e w' ⟨rfl, ⟨nd, rfl⟩⟩; (try first | exact ⟨rfl, _, World.drewN_drewN _ _ _⟩ | exact ⟨rfl, _, Eq.trans (World.drewN_drewN _ _ _) (congrArg (World.drewN _) (Nat.add_assoc _ _ _))⟩); have hcz17_0 : w16.cell? ⟨gb242, 0, none⟩ = some (.int .i64 0) := (blk_cell BK242.out 0).trans rfl; have hcz17_1 : w16.cell? ⟨gb242, 1, none⟩ = some (.int .i64 0) := (blk_cell BK242.out 1).trans rfl; have hcz17_2 : w16.cell? ⟨gb242, 2, none⟩ = some (.int .i64 0) := (blk_cell BK242.out 2).trans rfl; have hcz17_3 : w16.cell? ⟨gb242, 3, none⟩ = some (.int .i64 0) := (blk_cell BK242.out 3).trans rfl; have hfz17_0 := blk_frozen BK242.out 0; have hfz17_1 := blk_frozen BK242.out 1; have hfz17_2 := blk_frozen BK242.out 2; have hfz17_3 := blk_frozen BK242.out 3)))
        refine bodyPost_ret (results_ct rfl _ _ gb242 39 #[.int .i64 (wrap64 ((Int.tmod a4 t243) * a2)), .int .i64 (wrap64 ((wrap64 (Int.tdiv a4 t243)) * a3)), .int .i64 ji14, .int .i64 ji15] (0, 0) _ rfl (by (with_reducible repeat (first | refine blk_drewN ?_ _ | refine blk_drew ?_ | refine blk_alloc ?_ _)); refine blk_put (cs := #[.int .i64 (wrap64 ((Int.tmod a4 t243) * a2)), .int .i64 (wrap64 ((wrap64 (Int.tdiv a4 t243)) * a3)), .int .i64 ji14, .int .i64 0]) ?_ 3 _ rfl; (with_reducible repeat (first | refine blk_drewN ?_ _ | refine blk_drew ?_ | refine blk_alloc ?_ _)); refine blk_put (cs := #[.int .i64 (wrap64 ((Int.tmod a4 t243) * a2)), .int .i64 (wrap64 ((wrap64 (Int.tdiv a4 t243)) * a3)), .int .i64 0, .int .i64 0]) ?_ 2 _ rfl; (with_reducible repeat (first | refine blk_drewN ?_ _ | refine blk_drew ?_ | refine blk_alloc ?_ _)); refine blk_put (cs := #[.int .i64 (wrap64 ((Int.tmod a4 t243) * a2)), .int .i64 0, .int .i64 0, .int .i64 0]) ?_ 1 _ rfl; (with_reducible repeat (first | refine blk_drewN ?_ _ | refine blk_drew ?_ | refine blk_alloc ?_ _)); refine blk_put (cs := #[.int .i64 0, .int .i64 0, .int .i64 0, .int .i64 0]) ?_ 0 _ rfl; (with_reducible repeat (first | refine blk_drewN ?_ _ | refine blk_drew ?_ | refine blk_alloc ?_ _)); exact BK242.out) Try.underlying39 rfl (by kernel_rfl)) rfl ?_
        exact ⟨by first | rfl | (simp [errW_none, errW_some] <;> rfl) | (simp only [← hji14, ← hji15]; first | rfl | (simp [errW_none, errW_some] <;> rfl)) | (simp [*, errW_none, errW_some] <;> rfl), by repeat (first | (with_reducible first | exact HB.out | apply below_alloc | apply pw_below_drewN | apply below_drew1 | refine below_set ?_ GE242.out) | exact HB.out)⟩

end Go.Proofs.Yticicecobchdiaa.PHistogramTiles
