-- Written by a program of the session (wip/tools/pack.py): the printed texts, pruned; checked by Lean.
import Derived.Test.YthgmndomnibefaaKConvolveMovesa
import Derived.Test.YthgmndomnibefaaKConvolveMovesx0
import Derived.Test.YthgmndomnibefaaKConvolveMovesx2
namespace Go.Proofs.Ythgmndomnibefaa.PConvolveMoves
open Go.RowKit Go.Proofs.YthgmndomnibefaaW.PrintWords Go.Proofs.YthgmndomnibefaaW.PrintLast Go.Proofs.YthgmndomnibefaaW.PrintMore
attribute [local go_sem] max2_int min2_int max_two min_two max_three min_three max_four min_four   -- for this text's walks alone
set_option linter.unusedVariables false
set_option linter.unusedSimpArgs false
def fixed_Shift.j0 : Nat → Int → Int → Bool → Option (Int)
  | 0, _, _, _ => none
  | k + 1, x0, x1, x5 => if x5 = true then (some 0) else (if x1 = 0 then (some x0) else (if 0 ≤ (wrap64 (x1 - 1)) then (if 0 ≤ x1 then (some (shr .i64 (wrap64 (x0 + (shl .i64 1 (wrap64 (x1 - 1))))) x1)) else (none)) else (none)))
def fixed_Shift.f (k : Nat) (a0 : Int) (a1 : Int) : Option (Int) := (fixed_sum.f a0).bind fun t154 => (if t154 = true then (if a1 < 0 then (fixed_Shift.j0 k a0 a1 true) else (fixed_Shift.j0 k a0 a1 (decide (a1 > 24)))) else (fixed_Shift.j0 k a0 a1 true))
theorem fixed_Shift.mono_l : ∀ k, (∀ y0 y1 y2, LeO (fixed_Shift.j0 k y0 y1 y2) (fixed_Shift.j0 (k + 1) y0 y1 y2))
  | 0 => fun _ _ _ r h => by simp [fixed_Shift.j0] at h
  | k + 1 => by
    have ih0 := fixed_Shift.mono_l k
    · intro y0 y1 y2
      unfold fixed_Shift.j0
      repeat' first
      | (with_reducible exact ih0 _ _ _)
      | (with_reducible exact LeO.refl _)
      | (with_reducible exact LeO.none _)
      | (with_reducible refine LeO.ite ?_ ?_)
      | (with_reducible refine LeO.bind ?_ (fun _ => ?_))
      | exact ih0 _ _ _
      | exact LeO.none _
      | refine LeO.ite ?_ ?_
      | refine LeO.bind ?_ (fun _ => ?_)
theorem fixed_Shift.mono : ∀ a0 a1 k, LeO (fixed_Shift.f k a0 a1) (fixed_Shift.f (k + 1) a0 a1) := by
  intro a0 a1 k
  have ih0 := fixed_Shift.mono_l k
  unfold fixed_Shift.f
  repeat' first
      | (with_reducible exact ih0 _ _ _)
      | (with_reducible exact LeO.refl _)
      | (with_reducible exact LeO.none _)
      | (with_reducible refine LeO.ite ?_ ?_)
      | (with_reducible refine LeO.bind ?_ (fun _ => ?_))
      | exact ih0 _ _ _
      | exact LeO.none _
      | refine LeO.ite ?_ ?_
      | refine LeO.bind ?_ (fun _ => ?_)
set_option maxHeartbeats 8000000 in
set_option maxRecDepth 100000 in
theorem fixed_Shift.calls (k : Nat) (a0 : Int) (a1 : Int) (r : Int) (w : World) (h : fixed_Shift.f k a0 a1 = some r) :
    Calls Try.prog 41 #[.int .i64 a0, .int .i64 a1] w fun e w' => e = .returned (.int .i64 r) ∧ Drawn0 w w' := by
  have H : ((fixed_sum.f a0).bind fun t154 => (if t154 = true then (if a1 < 0 then (fixed_Shift.j0 k a0 a1 true) else (fixed_Shift.j0 k a0 a1 (decide (a1 > 24)))) else (fixed_Shift.j0 k a0 a1 true))) = some r := h
  clear h
  have HC3 := Aside0.mk H
  clear H
  go_enter Try.func41, Try.ntmps41
  go_upto_region 1 with (fail)
  go_cut [5] (fun v5 wc => ∃ (kq : Nat) (x5_2 : Bool), v5 = .bool x5_2 ∧ Aside0 (fixed_Shift.j0 kq a0 a1 x5_2 = some r) ∧ Aside0 (kq ≤ k) ∧ Drawn0 w wc)
  case first =>
    have H := HC3.out
    clear HC3
    replace H := Option.bind_eq_some_iff.mp H
    obtain ⟨t154, A40, H⟩ := H
    replace H : (if t154 = true then (if a1 < 0 then (fixed_Shift.j0 k a0 a1 true) else (fixed_Shift.j0 k a0 a1 (decide (a1 > 24)))) else (fixed_Shift.j0 k a0 a1 true)) = some r := H
    have A4 := Aside0.mk A40
    clear A40
    by_cases c5 : t154 = true
    · subst c5
      have H1 : (if a1 < 0 then (fixed_Shift.j0 k a0 a1 true) else (fixed_Shift.j0 k a0 a1 (decide (a1 > 24)))) = some r := by rw [if_pos rfl] at H; exact H
      clear H
      have H := H1
      clear H1
      by_cases c6 : a1 < 0
      · rw [if_pos c6] at H
        have c6b0 : decide (a1 < 0) = true := decide_eq_true c6
        clear c6
        (first | rw [c6b0] | (simp only [i64_w, i32_w]; rw [c6b0]) | skip)
        have H' := Aside0.mk H
        clear H
        go_wp2_with (first | ((with_reducible refine gate_callee (f := 62) rfl ?_); refine goesL_ (some 7) rfl rfl Try.func62 (by kernel_rfl) rfl #[.int .i64 a0] rfl q93_ ?_; (with_reducible refine (fixed_sum.calls a0 true _ A4.out).mono ?_); rintro e w' ⟨rfl, ⟨nd, rfl⟩⟩; refine ⟨_, rfl, ?_⟩))
        go_meet
        case rel => exact ⟨_, (true), q146_, H', ⟨by first | omega | exact Nat.le_refl _⟩, q140_⟩
      · rw [if_neg c6] at H
        have c6b0 : decide (a1 < 0) = false := decide_eq_false c6
        clear c6
        (first | rw [c6b0] | (simp only [i64_w, i32_w]; rw [c6b0]) | skip)
        have H' := Aside0.mk H
        clear H
        go_wp2_with (first | ((with_reducible refine gate_callee (f := 62) rfl ?_); refine goesL_ (some 7) rfl rfl Try.func62 (by kernel_rfl) rfl #[.int .i64 a0] rfl q93_ ?_; (with_reducible refine (fixed_sum.calls a0 true _ A4.out).mono ?_); rintro e w' ⟨rfl, ⟨nd, rfl⟩⟩; refine ⟨_, rfl, ?_⟩))
        go_meet
        case rel => exact ⟨_, (decide (a1 > 24)), q146_, H', ⟨by first | omega | exact Nat.le_refl _⟩, q140_⟩
    · replace c5 := Bool.eq_false_iff.mpr c5
      subst c5
      have H1 : (fixed_Shift.j0 k a0 a1 true) = some r := by rw [if_neg (show ¬ (false = true) by decide)] at H; exact H
      clear H
      have H := H1
      clear H1
      have H' := Aside0.mk H
      clear H
      go_wp2_with (first | ((with_reducible refine gate_callee (f := 62) rfl ?_); refine goesL_ (some 7) rfl rfl Try.func62 (by kernel_rfl) rfl #[.int .i64 a0] rfl q93_ ?_; (with_reducible refine (fixed_sum.calls a0 false _ A4.out).mono ?_); rintro e w' ⟨rfl, ⟨nd, rfl⟩⟩; refine ⟨_, rfl, ?_⟩))
      go_meet
      case rel => exact ⟨_, (true), q146_, H', ⟨by first | omega | exact Nat.le_refl _⟩, q140_⟩
  case rest =>
    clear HC3
    try clear p2
    try clear c4
    try clear c5
    try clear c6
    try clear c6b0
    obtain ⟨kq, x5_2, rfl, HA, HJ2, ⟨mc2, rfl⟩⟩ := hcut
    cases kq with
    | zero => exact absurd HA.out (by simp [fixed_Shift.j0])
    | succ kj2 =>
      have H := HA.out
      clear HA
      simp only [fixed_Shift.j0] at H
      by_cases c7 : x5_2 = true
      · subst c7
        have H1 : (some 0) = some r := by rw [if_pos rfl] at H; exact H
        clear H
        have H := H1
        clear H1
        obtain rfl := Option.some.inj H
        go_wp2
        go_ret
        exact ⟨q146_, q140_⟩
      · replace c7 := Bool.eq_false_iff.mpr c7
        subst c7
        have H1 : (if a1 = 0 then (some a0) else (if 0 ≤ (wrap64 (a1 - 1)) then (if 0 ≤ a1 then (some (shr .i64 (wrap64 (a0 + (shl .i64 1 (wrap64 (a1 - 1))))) a1)) else (none)) else (none))) = some r := by rw [if_neg (show ¬ (false = true) by decide)] at H; exact H
        clear H
        have H := H1
        clear H1
        by_cases c8 : a1 = 0
        · rw [if_pos c8] at H
          have c8b0 : (a1 == 0) = true := beq_iff_eq.mpr c8
          have c8b1 : (a1 != 0) = false := bne_eq_false_iff_eq.mpr c8
          clear c8
          obtain rfl := Option.some.inj H
          go_wp2
          go_ret
          exact ⟨q146_, q140_⟩
        · rw [if_neg c8] at H
          have c8b0 : (a1 == 0) = false := beq_eq_false_iff_ne.mpr c8
          have c8b1 : (a1 != 0) = true := bne_iff_ne.mpr c8
          obtain ⟨ji9, hji9⟩ : ∃ j_ : Int, (wrap64 (a1 - 1)) = j_ := ⟨_, rfl⟩
          replace H : (if 0 ≤ (ji9) then (if 0 ≤ a1 then (some (shr .i64 (wrap64 (a0 + (shl .i64 1 (ji9)))) a1)) else (none)) else (none)) = some r := by first | (rw [hji9] at H; exact H) | (simp only [hji9] at H ⊢; exact H)
          have hji9w : (IntKind.i64.wrap (a1 - 1)) = ji9 := (i64_w _).trans hji9
          by_cases c10 : 0 ≤ (ji9)
          · rw [if_pos c10] at H
            have c10b0 := eq_true c10
            have c10b1 : decide (0 ≤ (ji9)) = true := decide_eq_true c10
            clear c10
            obtain ⟨ji11, hji11⟩ : ∃ j_ : Int, (shl .i64 1 (ji9)) = j_ := ⟨_, rfl⟩
            replace H : (if 0 ≤ a1 then (some (shr .i64 (wrap64 (a0 + (ji11))) a1)) else (none)) = some r := by first | (rw [hji11] at H; exact H) | (simp only [hji11] at H ⊢; exact H)
            have hji11_ : (IntKind.i64.wrap (1 * 2 ^ min (ji9).toNat 64)) = ji11 := hji11
            have hji11z : (ji9) ≤ 64 → (IntKind.i64.wrap (1 * 2 ^ (ji9).toNat)) = ji11 := shl_small hji11
            have hji11u : (IntKind.i64.wrap (2 ^ min (ji9).toNat 64)) = ji11 := by have h_ := hji11_; rw [Int.one_mul] at h_; exact h_
            have hji11v : (ji9) ≤ 64 → (IntKind.i64.wrap (2 ^ (ji9).toNat)) = ji11 := fun hle_ => by have h_ := hji11z hle_; rw [Int.one_mul] at h_; exact h_
            have hji11y : (wrap64 (1 * 2 ^ min (ji9).toNat 64)) = ji11 := (i64_w _).symm.trans hji11_
            have hji11x : (ji9) ≤ 64 → (wrap64 (1 * 2 ^ (ji9).toNat)) = ji11 := fun h_ => (i64_w _).symm.trans (hji11z h_)
            by_cases c12 : 0 ≤ a1
            · rw [if_pos c12] at H
              have c12b0 := eq_true c12
              have c12b1 : decide (0 ≤ a1) = true := decide_eq_true c12
              clear c12
              obtain ⟨ji13, hji13⟩ : ∃ j_ : Int, (shr .i64 (wrap64 (a0 + (ji11))) a1) = j_ := ⟨_, rfl⟩
              replace H : (some ji13) = some r := by first | (rw [hji13] at H; exact H) | (simp only [hji13] at H ⊢; exact H)
              have hji13_ : ((wrap64 (a0 + (ji11))) / 2 ^ min a1.toNat 64) = ji13 := hji13
              have hji13z : a1 ≤ 64 → ((wrap64 (a0 + (ji11))) / 2 ^ a1.toNat) = ji13 := shr_small hji13
              obtain rfl := Option.some.inj H
              go_wp2
              go_ret
              exact ⟨by first | rfl | (simp; done) | (simp only [← hji9, ← hji11, ← hji13] <;> (first | rfl | simp)) | (simp [*]; done), q140_⟩
            · rw [if_neg c12] at H
              exact absurd H (by simp)
          · rw [if_neg c10] at H
            exact absurd H (by simp)


def border_mod.f (a0 : Int) (a1 : Int) : Option (Int) := if a1 = 0 then (none) else (if (Int.tmod a0 a1) < 0 then (some (wrap64 ((Int.tmod a0 a1) + a1))) else (some (Int.tmod a0 a1)))
set_option maxHeartbeats 8000000 in
set_option maxRecDepth 100000 in
theorem border_mod.calls (a0 : Int) (a1 : Int) (r : Int) (w : World) (h : border_mod.f a0 a1 = some r) :
    Calls Try.prog 72 #[.int .i64 a0, .int .i64 a1] w fun e w' => e = .returned (.int .i64 r) ∧ Drawn0 w w' := by
  have H : (if a1 = 0 then (none) else (if (Int.tmod a0 a1) < 0 then (some (wrap64 ((Int.tmod a0 a1) + a1))) else (some (Int.tmod a0 a1)))) = some r := h
  clear h
  by_cases c3 : a1 = 0
  · rw [if_pos c3] at H
    exact absurd H (by simp)
  · rw [if_neg c3] at H
    have c3b0 : (a1 == 0) = false := beq_eq_false_iff_ne.mpr c3
    have c3b1 : (a1 != 0) = true := bne_iff_ne.mpr c3
    by_cases c4 : (Int.tmod a0 a1) < 0
    · rw [if_pos c4] at H
      have c4b0 : decide ((Int.tmod a0 a1) < 0) = true := decide_eq_true c4
      clear c4
      obtain rfl := Option.some.inj H
      go_enter Try.func72, Try.ntmps72
      go_wp2
      go_ret
      exact ⟨q146_, q140_⟩
    · rw [if_neg c4] at H
      have c4b0 : decide ((Int.tmod a0 a1) < 0) = false := decide_eq_false c4
      clear c4
      obtain rfl := Option.some.inj H
      go_enter Try.func72, Try.ntmps72
      go_wp2
      go_ret
      exact ⟨q146_, q140_⟩


def border_Index.j0 : Nat → Int → Int → Int → Bool → Option (Int × Bool)
  | 0, _, _, _, _ => none
  | k + 1, x0, x1, x2, x14 => if x14 = true then (some (0, false)) else (if x2 = 0 then (some (mn (mx x0 0) (wrap64 (x1 - 1)), true)) else (if x2 = 1 then ((border_mod.f x0 (wrap64 (2 * x1))).bind fun t155 => (some (mn t155 (wrap64 ((wrap64 ((wrap64 (2 * x1)) - 1)) - t155)), true))) else (if x2 = 2 then ((border_mod.f x0 x1).bind fun t156 => (some (t156, true))) else (if x2 = 3 then (if x0 ≥ 0 then (if x0 < x1 then (some (x0, true)) else (some (0, false))) else (some (0, false))) else (some (0, false))))))
def border_Index.f (k : Nat) (a0 : Int) (a1 : Int) (a2 : Int) : Option (Int × Bool) := if a1 < 1 then (border_Index.j0 k a0 a1 a2 true) else (border_Index.j0 k a0 a1 a2 (decide (a1 > 128)))
theorem border_Index.mono_l : ∀ k, (∀ y0 y1 y2 y3, LeO (border_Index.j0 k y0 y1 y2 y3) (border_Index.j0 (k + 1) y0 y1 y2 y3))
  | 0 => fun _ _ _ _ r h => by simp [border_Index.j0] at h
  | k + 1 => by
    have ih0 := border_Index.mono_l k
    · intro y0 y1 y2 y3
      unfold border_Index.j0
      repeat' first
      | (with_reducible exact ih0 _ _ _ _)
      | (with_reducible exact LeO.refl _)
      | (with_reducible exact LeO.none _)
      | (with_reducible refine LeO.ite ?_ ?_)
      | (with_reducible refine LeO.bind ?_ (fun _ => ?_))
      | exact ih0 _ _ _ _
      | exact LeO.none _
      | refine LeO.ite ?_ ?_
      | refine LeO.bind ?_ (fun _ => ?_)
theorem border_Index.mono : ∀ a0 a1 a2 k, LeO (border_Index.f k a0 a1 a2) (border_Index.f (k + 1) a0 a1 a2) := by
  intro a0 a1 a2 k
  have ih0 := border_Index.mono_l k
  unfold border_Index.f
  repeat' first
      | (with_reducible exact ih0 _ _ _ _)
      | (with_reducible exact LeO.refl _)
      | (with_reducible exact LeO.none _)
      | (with_reducible refine LeO.ite ?_ ?_)
      | (with_reducible refine LeO.bind ?_ (fun _ => ?_))
      | exact ih0 _ _ _ _
      | exact LeO.none _
      | refine LeO.ite ?_ ?_
      | refine LeO.bind ?_ (fun _ => ?_)
set_option maxHeartbeats 8000000 in
set_option maxRecDepth 100000 in
theorem border_Index.calls (k : Nat) (a0 : Int) (a1 : Int) (a2 : Int) (r1 : Int) (r2 : Bool) (w : World) (h : border_Index.f k a0 a1 a2 = some (r1, r2)) :
    Calls Try.prog 69 #[.int .i64 a0, .int .i64 a1, .int .i64 a2] w fun e w' => e = .returned (.tuple #[.int .i64 r1, .bool r2]) ∧ Below w.heap.size w w' := by
  have HB := Aside0.mk (Below.refl w.heap.size w)
  have H : (if a1 < 1 then (border_Index.j0 k a0 a1 a2 true) else (border_Index.j0 k a0 a1 a2 (decide (a1 > 128)))) = some (r1, r2) := h
  clear h
  have HC4 := Aside0.mk H
  clear H
  go_enter Try.func69, Try.ntmps69
  go_upto_region 1 with (fail)
  go_cut [14] (fun v14 wc => ∃ (kq : Nat) (x14_3 : Bool), v14 = .bool x14_3 ∧ Aside0 (border_Index.j0 kq a0 a1 a2 x14_3 = some (r1, r2)) ∧ Aside0 (kq ≤ k) ∧ Aside0 (Below w.heap.size w wc))
  case first =>
    have H := HC4.out
    clear HC4
    by_cases c5 : a1 < 1
    · rw [if_pos c5] at H
      have c5b0 : decide (a1 < 1) = true := decide_eq_true c5
      clear c5
      (first | rw [c5b0] | (simp only [i64_w, i32_w]; rw [c5b0]) | skip)
      have H' := Aside0.mk H
      clear H
      go_wp2
      go_meet
      case rel => exact ⟨_, (true), q146_, H', ⟨by first | omega | exact Nat.le_refl _⟩, ⟨q96_⟩⟩
    · rw [if_neg c5] at H
      have c5b0 : decide (a1 < 1) = false := decide_eq_false c5
      clear c5
      (first | rw [c5b0] | (simp only [i64_w, i32_w]; rw [c5b0]) | skip)
      have H' := Aside0.mk H
      clear H
      go_wp2
      go_meet
      case rel => exact ⟨_, (decide (a1 > 128)), q146_, H', ⟨by first | omega | exact Nat.le_refl _⟩, ⟨q96_⟩⟩
  case rest =>
    clear HC4
    try clear p2
    try clear c5
    try clear c5b0
    obtain ⟨kq, x14_3, rfl, HA, HJ3, HB⟩ := hcut
    cases kq with
    | zero => exact absurd HA.out (by simp [border_Index.j0])
    | succ kj3 =>
      have H := HA.out
      clear HA
      simp only [border_Index.j0] at H
      by_cases c6 : x14_3 = true
      · subst c6
        have H1 : (some (0, false)) = some (r1, r2) := by rw [if_pos rfl] at H; exact H
        clear H
        have H := H1
        clear H1
        simp only [Option.some.injEq, Prod.mk.injEq] at H
        obtain ⟨rfl, rfl⟩ := H
        go_wp2
        go_ret2
        exact ⟨q138_, q96_⟩
      · replace c6 := Bool.eq_false_iff.mpr c6
        subst c6
        have H1 : (if a2 = 0 then (some (mn (mx a0 0) (wrap64 (a1 - 1)), true)) else (if a2 = 1 then ((border_mod.f a0 (wrap64 (2 * a1))).bind fun t155 => (some (mn t155 (wrap64 ((wrap64 ((wrap64 (2 * a1)) - 1)) - t155)), true))) else (if a2 = 2 then ((border_mod.f a0 a1).bind fun t156 => (some (t156, true))) else (if a2 = 3 then (if a0 ≥ 0 then (if a0 < a1 then (some (a0, true)) else (some (0, false))) else (some (0, false))) else (some (0, false)))))) = some (r1, r2) := by rw [if_neg (show ¬ (false = true) by decide)] at H; exact H
        clear H
        have H := H1
        clear H1
        by_cases c7 : a2 = 0
        · rw [if_pos c7] at H
          have c7b0 : (a2 == 0) = true := beq_iff_eq.mpr c7
          have c7b1 : (a2 != 0) = false := bne_eq_false_iff_eq.mpr c7
          clear c7
          obtain ⟨ji8, hji8⟩ : ∃ j_ : Int, (mx a0 0) = j_ := ⟨_, rfl⟩
          replace H : (some (mn (ji8) (wrap64 (a1 - 1)), true)) = some (r1, r2) := by first | (rw [hji8] at H; exact H) | (simp only [hji8] at H ⊢; exact H)
          have hji8_ : (if a0 < 0 then 0 else a0) = ji8 := hji8
          obtain ⟨ji9, hji9⟩ : ∃ j_ : Int, (mn (ji8) (wrap64 (a1 - 1))) = j_ := ⟨_, rfl⟩
          replace H : (some (ji9, true)) = some (r1, r2) := by first | (rw [hji9] at H; exact H) | (simp only [hji9] at H ⊢; exact H)
          have hji9_ : (if (wrap64 (a1 - 1)) < (ji8) then (wrap64 (a1 - 1)) else (ji8)) = ji9 := hji9
          simp only [Option.some.injEq, Prod.mk.injEq] at H
          obtain ⟨rfl, rfl⟩ := H
          go_wp2
          go_ret2
          exact ⟨by first | rfl | (simp [errW_none, errW_some] <;> rfl) | (simp only [← hji8, ← hji9]; first | rfl | (simp [errW_none, errW_some] <;> rfl)) | (simp [*, errW_none, errW_some] <;> rfl), q96_⟩
        · rw [if_neg c7] at H
          have c7b0 : (a2 == 0) = false := beq_eq_false_iff_ne.mpr c7
          have c7b1 : (a2 != 0) = true := bne_iff_ne.mpr c7
          by_cases c10 : a2 = 1
          · rw [if_pos c10] at H
            have c10b0 : (a2 == 1) = true := beq_iff_eq.mpr c10
            have c10b1 : (a2 != 1) = false := bne_eq_false_iff_eq.mpr c10
            clear c10
            replace H := Option.bind_eq_some_iff.mp H
            obtain ⟨t155, A110, H⟩ := H
            replace H : (some (mn t155 (wrap64 ((wrap64 ((wrap64 (2 * a1)) - 1)) - t155)), true)) = some (r1, r2) := H
            have A11 := Aside0.mk A110
            clear A110
            obtain ⟨ji12, hji12⟩ : ∃ j_ : Int, (mn t155 (wrap64 ((wrap64 ((wrap64 (2 * a1)) - 1)) - t155))) = j_ := ⟨_, rfl⟩
            replace H : (some (ji12, true)) = some (r1, r2) := by first | (rw [hji12] at H; exact H) | (simp only [hji12] at H ⊢; exact H)
            (try rw [hji12] at A11)
            have hji12_ : (if (wrap64 ((wrap64 ((wrap64 (2 * a1)) - 1)) - t155)) < t155 then (wrap64 ((wrap64 ((wrap64 (2 * a1)) - 1)) - t155)) else t155) = ji12 := hji12
            simp only [Option.some.injEq, Prod.mk.injEq] at H
            obtain ⟨rfl, rfl⟩ := H
            go_wp2_with (first | ((with_reducible refine gate_callee (f := 72) rfl ?_); refine goesL_ (some 28) rfl rfl Try.func72 (by kernel_rfl) rfl #[.int .i64 a0, .int .i64 (wrap64 (2 * a1))] rfl q93_ ?_; (with_reducible refine (border_mod.calls a0 (wrap64 (2 * a1)) t155 _ A11.out).mono ?_); rintro e w' ⟨rfl, ⟨nd, rfl⟩⟩; refine ⟨_, rfl, ?_⟩))
            go_ret2
            exact ⟨by first | rfl | (simp [errW_none, errW_some] <;> rfl) | (simp only [← hji12]; first | rfl | (simp [errW_none, errW_some] <;> rfl)) | (simp [*, errW_none, errW_some] <;> rfl), q96_⟩
          · rw [if_neg c10] at H
            have c10b0 : (a2 == 1) = false := beq_eq_false_iff_ne.mpr c10
            have c10b1 : (a2 != 1) = true := bne_iff_ne.mpr c10
            by_cases c13 : a2 = 2
            · rw [if_pos c13] at H
              have c13b0 : (a2 == 2) = true := beq_iff_eq.mpr c13
              have c13b1 : (a2 != 2) = false := bne_eq_false_iff_eq.mpr c13
              clear c13
              replace H := Option.bind_eq_some_iff.mp H
              obtain ⟨t156, A140, H⟩ := H
              replace H : (some (t156, true)) = some (r1, r2) := H
              have A14 := Aside0.mk A140
              clear A140
              simp only [Option.some.injEq, Prod.mk.injEq] at H
              obtain ⟨rfl, rfl⟩ := H
              go_wp2_with (first | ((with_reducible refine gate_callee (f := 72) rfl ?_); refine goesL_ (some 40) rfl rfl Try.func72 (by kernel_rfl) rfl #[.int .i64 a0, .int .i64 a1] rfl q93_ ?_; (with_reducible refine (border_mod.calls a0 a1 t156 _ A14.out).mono ?_); rintro e w' ⟨rfl, ⟨nd, rfl⟩⟩; refine ⟨_, rfl, ?_⟩))
              go_ret2
              exact ⟨q138_, q96_⟩
            · rw [if_neg c13] at H
              have c13b0 : (a2 == 2) = false := beq_eq_false_iff_ne.mpr c13
              have c13b1 : (a2 != 2) = true := bne_iff_ne.mpr c13
              by_cases c15 : a2 = 3
              · rw [if_pos c15] at H
                have c15b0 : (a2 == 3) = true := beq_iff_eq.mpr c15
                have c15b1 : (a2 != 3) = false := bne_eq_false_iff_eq.mpr c15
                clear c15
                by_cases c16 : a0 ≥ 0
                · rw [if_pos c16] at H
                  have c16b0 : decide (0 ≤ a0) = true := decide_eq_true c16
                  clear c16
                  by_cases c17 : a0 < a1
                  · rw [if_pos c17] at H
                    have c17b0 : decide (a0 < a1) = true := decide_eq_true c17
                    clear c17
                    simp only [Option.some.injEq, Prod.mk.injEq] at H
                    obtain ⟨rfl, rfl⟩ := H
                    go_wp2
                    go_ret2
                    exact ⟨q138_, q96_⟩
                  · rw [if_neg c17] at H
                    have c17b0 : decide (a0 < a1) = false := decide_eq_false c17
                    clear c17
                    simp only [Option.some.injEq, Prod.mk.injEq] at H
                    obtain ⟨rfl, rfl⟩ := H
                    go_wp2
                    go_ret2
                    exact ⟨q138_, q96_⟩
                · rw [if_neg c16] at H
                  have c16b0 : decide (0 ≤ a0) = false := decide_eq_false c16
                  clear c16
                  simp only [Option.some.injEq, Prod.mk.injEq] at H
                  obtain ⟨rfl, rfl⟩ := H
                  go_wp2
                  go_ret2
                  exact ⟨q138_, q96_⟩
              · rw [if_neg c15] at H
                have c15b0 : (a2 == 3) = false := beq_eq_false_iff_ne.mpr c15
                have c15b1 : (a2 != 3) = true := bne_iff_ne.mpr c15
                simp only [Option.some.injEq, Prod.mk.injEq] at H
                obtain ⟨rfl, rfl⟩ := H
                go_wp2
                go_ret2
                exact ⟨q138_, q96_⟩


def plane_Pixel.f (k : Nat) (a0_0 : Int) (a0_1 : Int) (a0_2 : Int) (l0_3 : List Int) (a1_0 : Int) (a1_1 : Int) (a2 : Int) (a3 : Int) : Option (Int) := (border_Index.f k a2 a0_0 a1_0).bind fun bt159 => ((border_Index.f k a3 a0_1 a1_0).bind fun bt161 => (if bt159.2 = true then (if bt161.2 = true then (if 0 ≤ (wrap64 ((wrap64 (bt161.1 * a0_0)) + bt159.1)) then (if (wrap64 ((wrap64 (bt161.1 * a0_0)) + bt159.1)) < (l0_3.length : Int) then (some (rd l0_3 (wrap64 ((wrap64 (bt161.1 * a0_0)) + bt159.1)))) else (none)) else (none)) else (some a1_1)) else (some a1_1)))
theorem plane_Pixel.mono : ∀ a0 a1 a2 a3 a4 a5 a6 a7 k, LeO (plane_Pixel.f k a0 a1 a2 a3 a4 a5 a6 a7) (plane_Pixel.f (k + 1) a0 a1 a2 a3 a4 a5 a6 a7) := by
  intro a0 a1 a2 a3 a4 a5 a6 a7 k
  unfold plane_Pixel.f
  repeat' first
      | (with_reducible exact border_Index.mono _ _ _ _)
      | (with_reducible exact LeO.refl _)
      | (with_reducible exact LeO.none _)
      | (with_reducible refine LeO.ite ?_ ?_)
      | (with_reducible refine LeO.bind ?_ (fun _ => ?_))
      | exact border_Index.mono _ _ _ _
      | exact LeO.none _
      | refine LeO.ite ?_ ?_
      | refine LeO.bind ?_ (fun _ => ?_)
set_option maxHeartbeats 8000000 in
set_option maxRecDepth 100000 in
theorem plane_Pixel.calls (k : Nat) (a0_0 : Int) (a0_1 : Int) (a0_2 : Int) (A0_3 : Option Addr) (c0_3 : Nat) (l0_3 : List Int) (a1_0 : Int) (a1_1 : Int) (a2 : Int) (a3 : Int) (r : Int) (w : World) (hr0_3 : Kd.C (Kd.int .i64) w A0_3 l0_3.length l0_3) (hc0_3 : l0_3.length ≤ c0_3) (h : plane_Pixel.f k a0_0 a0_1 a0_2 l0_3 a1_0 a1_1 a2 a3 = some r) :
    Calls Try.prog 63 #[.agg #[.int .i64 a0_0, .int .i64 a0_1, .int .i64 a0_2, .slice A0_3 l0_3.length c0_3], .agg #[.int .i64 a1_0, .int .i64 a1_1], .int .i64 a2, .int .i64 a3] w fun e w' => e = .returned (.int .i64 r) ∧ Below w.heap.size w w' := by
  have hu35 := Try.underlying35
  have hu38 := Try.underlying38
  have HR0_3 := Aside0.mk hr0_3
  have HC0_3 := Aside0.mk hc0_3
  clear hr0_3 hc0_3
  have HB := Aside0.mk (Below.refl w.heap.size w)
  have H : ((border_Index.f k a2 a0_0 a1_0).bind fun bt159 => ((border_Index.f k a3 a0_1 a1_0).bind fun bt161 => (if bt159.2 = true then (if bt161.2 = true then (if 0 ≤ (wrap64 ((wrap64 (bt161.1 * a0_0)) + bt159.1)) then (if (wrap64 ((wrap64 (bt161.1 * a0_0)) + bt159.1)) < (l0_3.length : Int) then (some (rd l0_3 (wrap64 ((wrap64 (bt161.1 * a0_0)) + bt159.1)))) else (none)) else (none)) else (some a1_1)) else (some a1_1)))) = some r := h
  clear h
  replace H := Option.bind_eq_some_iff.mp H
  obtain ⟨⟨t159, t160⟩, A50, H⟩ := H
  replace H : ((border_Index.f k a3 a0_1 a1_0).bind fun bt161 => (if t160 = true then (if bt161.2 = true then (if 0 ≤ (wrap64 ((wrap64 (bt161.1 * a0_0)) + t159)) then (if (wrap64 ((wrap64 (bt161.1 * a0_0)) + t159)) < (l0_3.length : Int) then (some (rd l0_3 (wrap64 ((wrap64 (bt161.1 * a0_0)) + t159)))) else (none)) else (none)) else (some a1_1)) else (some a1_1))) = some r := H
  have A5 := Aside0.mk A50
  clear A50
  replace H := Option.bind_eq_some_iff.mp H
  obtain ⟨⟨t161, t162⟩, A60, H⟩ := H
  replace H : (if t160 = true then (if t162 = true then (if 0 ≤ (wrap64 ((wrap64 (t161 * a0_0)) + t159)) then (if (wrap64 ((wrap64 (t161 * a0_0)) + t159)) < (l0_3.length : Int) then (some (rd l0_3 (wrap64 ((wrap64 (t161 * a0_0)) + t159)))) else (none)) else (none)) else (some a1_1)) else (some a1_1)) = some r := H
  have A6 := Aside0.mk A60
  clear A60
  by_cases c7 : t160 = true
  · subst c7
    have H1 : (if t162 = true then (if 0 ≤ (wrap64 ((wrap64 (t161 * a0_0)) + t159)) then (if (wrap64 ((wrap64 (t161 * a0_0)) + t159)) < (l0_3.length : Int) then (some (rd l0_3 (wrap64 ((wrap64 (t161 * a0_0)) + t159)))) else (none)) else (none)) else (some a1_1)) = some r := by rw [if_pos rfl] at H; exact H
    clear H
    have H := H1
    clear H1
    by_cases c8 : t162 = true
    · subst c8
      have H1 : (if 0 ≤ (wrap64 ((wrap64 (t161 * a0_0)) + t159)) then (if (wrap64 ((wrap64 (t161 * a0_0)) + t159)) < (l0_3.length : Int) then (some (rd l0_3 (wrap64 ((wrap64 (t161 * a0_0)) + t159)))) else (none)) else (none)) = some r := by rw [if_pos rfl] at H; exact H
      clear H
      have H := H1
      clear H1
      obtain ⟨ji9, hji9⟩ : ∃ j_ : Int, (wrap64 ((wrap64 (t161 * a0_0)) + t159)) = j_ := ⟨_, rfl⟩
      replace H : (if 0 ≤ (ji9) then (if (ji9) < (l0_3.length : Int) then (some (rd l0_3 (ji9))) else (none)) else (none)) = some r := by first | (rw [hji9] at H; exact H) | (simp only [hji9] at H ⊢; exact H)
      (try rw [hji9] at A5)
      (try rw [hji9] at A6)
      have hji9w : (IntKind.i64.wrap ((wrap64 (t161 * a0_0)) + t159)) = ji9 := (i64_w _).trans hji9
      by_cases c10 : 0 ≤ (ji9)
      · rw [if_pos c10] at H
        have c10b0 : decide (0 ≤ (ji9)) = true := decide_eq_true c10
        clear c10
        by_cases c11 : (ji9) < (l0_3.length : Int)
        · rw [if_pos c11] at H
          have c11b0 : decide ((ji9) < (l0_3.length : Int)) = true := decide_eq_true c11
          clear c11
          obtain rfl := Option.some.inj H
          go_enter Try.func63, Try.ntmps63
          go_wp2_with (first | ((with_reducible refine gate_dst (N := 4) rfl ?_); refine box_event ?hg (N := 4) ?hd (cs := #[.int .i64 a0_0, .int .i64 a0_1, .int .i64 a0_2, .slice A0_3 l0_3.length c0_3]) (t := 35) ?hr ?_; (case hd => rfl); (case hg => rfl); (case hr => first | (go_simp; done) | (go_simp; rfl)); intro gb157 hg w12 hbox hb; have n0_ := Aside0.mk (below_step q96_ hb); have n1_ := Aside0.mk (hbox); have n2_ := Aside0.mk ((q76_ : w.heap.size ≤ gb157)); have n3_ := Aside0.mk ((q76_ : w.heap.size ≤ gb157)); clear HB; have HB := n0_; have BK157 := n1_; have GW157 := n2_; have GE157 := n3_; clear n0_ n1_ n2_ n3_; clear hb hbox hg) | ((with_reducible refine gate_dst (N := 5) rfl ?_); refine box_event ?hg (N := 5) ?hd (cs := #[.int .i64 a1_0, .int .i64 a1_1]) (t := 38) ?hr ?_; (case hd => rfl); (case hg => rfl); (case hr => first | (go_simp; done) | (go_simp; rfl)); intro gb158 hg w13 hbox hb; have n0_ := Aside0.mk (blk_below (g := gb157) (o := .cells #[.int .i64 a0_0, .int .i64 a0_1, .int .i64 a0_2, .slice A0_3 l0_3.length c0_3] 35 (0, 0)) q105_ hb); have n1_ := Aside0.mk (below_step q82_ hb); have n2_ := Aside0.mk (hbox); have n3_ := Aside0.mk ((q61_ : w.heap.size ≤ gb158)); have n4_ := Aside0.mk ((q61_ : w.heap.size ≤ gb158)); have n5_ := Aside0.mk ((q21_ : gb157 ≠ gb158)); have n6_ := Aside0.mk ((q22_ : gb158 ≠ gb157)); clear BK157; clear HB; have BK157 := n0_; have HB := n1_; have BK158 := n2_; have GW158 := n3_; have GE158 := n4_; have NB157_158 := n5_; have NB158_157 := n6_; clear n0_ n1_ n2_ n3_ n4_ n5_ n6_; clear hb hbox hg; have hnb14 := NB157_158.out; have hnc14 := NB158_157.out; have hcz15_0 : w13.cell? ⟨gb157, 0, none⟩ = some (.int .i64 a0_0) := (blk_cell BK157.out 0).trans rfl; have hcz15_1 : w13.cell? ⟨gb157, 1, none⟩ = some (.int .i64 a0_1) := (blk_cell BK157.out 1).trans rfl; have hcz15_2 : w13.cell? ⟨gb157, 2, none⟩ = some (.int .i64 a0_2) := (blk_cell BK157.out 2).trans rfl; have hcz15_3 : w13.cell? ⟨gb157, 3, none⟩ = some (.slice A0_3 l0_3.length c0_3) := (blk_cell BK157.out 3).trans rfl; have hfz15_0 := blk_frozen BK157.out 0; have hfz15_1 := blk_frozen BK157.out 1; have hfz15_2 := blk_frozen BK157.out 2; have hfz15_3 := blk_frozen BK157.out 3; have hcz16_0 : w13.cell? ⟨gb158, 0, none⟩ = some (.int .i64 a1_0) := (blk_cell BK158.out 0).trans rfl; have hcz16_1 : w13.cell? ⟨gb158, 1, none⟩ = some (.int .i64 a1_1) := (blk_cell BK158.out 1).trans rfl; have hfz16_0 := blk_frozen BK158.out 0; have hfz16_1 := blk_frozen BK158.out 1) | ((with_reducible refine gate_callee (f := 69) rfl ?_); refine goesL_ (some 19) rfl rfl Try.func69 (by kernel_rfl) rfl #[.int .i64 a2, .int .i64 a0_0, .int .i64 a1_0] rfl q93_ ?_; (with_reducible refine (border_Index.calls k a2 a0_0 a1_0 t159 true _ A5.out).mono ?_); rintro e w17 ⟨rfl, hb⟩; refine ⟨_, rfl, ?_⟩; have n0_ := Aside0.mk (blk_below (g := gb157) (o := .cells #[.int .i64 a0_0, .int .i64 a0_1, .int .i64 a0_2, .slice A0_3 l0_3.length c0_3] 35 (0, 0)) q105_ hb); have n1_ := Aside0.mk (blk_below (g := gb158) (o := .cells #[.int .i64 a1_0, .int .i64 a1_1] 38 (0, 0)) q106_ hb); have n2_ := Aside0.mk (below_step q64_ hb); clear BK157; clear BK158; clear HB; have BK157 := n0_; have BK158 := n1_; have HB := n2_; clear n0_ n1_ n2_; (try clear hb); (try clear hb2); (try clear hk); (try clear hi); have hcz18_0 : w17.cell? ⟨gb157, 0, none⟩ = some (.int .i64 a0_0) := (blk_cell BK157.out 0).trans rfl; have hcz18_1 : w17.cell? ⟨gb157, 1, none⟩ = some (.int .i64 a0_1) := (blk_cell BK157.out 1).trans rfl; have hcz18_2 : w17.cell? ⟨gb157, 2, none⟩ = some (.int .i64 a0_2) := (blk_cell BK157.out 2).trans rfl; have hcz18_3 : w17.cell? ⟨gb157, 3, none⟩ = some (.slice A0_3 l0_3.length c0_3) := (blk_cell BK157.out 3).trans rfl; have hfz18_0 := blk_frozen BK157.out 0; have hfz18_1 := blk_frozen BK157.out 1; have hfz18_2 := blk_frozen BK157.out 2; have hfz18_3 := blk_frozen BK157.out 3; have hcz19_0 : w17.cell? ⟨gb158, 0, none⟩ = some (.int .i64 a1_0) := (blk_cell BK158.out 0).trans rfl; have hcz19_1 : w17.cell? ⟨gb158, 1, none⟩ = some (.int .i64 a1_1) := (blk_cell BK158.out 1).trans rfl; have hfz19_0 := blk_frozen BK158.out 0; have hfz19_1 := blk_frozen BK158.out 1) | ((with_reducible refine gate_callee (f := 69) rfl ?_); refine goesL_ (some 28) rfl rfl Try.func69 (by kernel_rfl) rfl #[.int .i64 a3, .int .i64 a0_1, .int .i64 a1_0] rfl q93_ ?_; (with_reducible refine (border_Index.calls k a3 a0_1 a1_0 t161 true _ A6.out).mono ?_); rintro e w20 ⟨rfl, hb⟩; refine ⟨_, rfl, ?_⟩; have n0_ := Aside0.mk (blk_below (g := gb157) (o := .cells #[.int .i64 a0_0, .int .i64 a0_1, .int .i64 a0_2, .slice A0_3 l0_3.length c0_3] 35 (0, 0)) q105_ hb); have n1_ := Aside0.mk (blk_below (g := gb158) (o := .cells #[.int .i64 a1_0, .int .i64 a1_1] 38 (0, 0)) q106_ hb); have n2_ := Aside0.mk (below_step q64_ hb); clear BK157; clear BK158; clear HB; have BK157 := n0_; have BK158 := n1_; have HB := n2_; clear n0_ n1_ n2_; (try clear hb); (try clear hb2); (try clear hk); (try clear hi); have hcz21_0 : w20.cell? ⟨gb157, 0, none⟩ = some (.int .i64 a0_0) := (blk_cell BK157.out 0).trans rfl; have hcz21_1 : w20.cell? ⟨gb157, 1, none⟩ = some (.int .i64 a0_1) := (blk_cell BK157.out 1).trans rfl; have hcz21_2 : w20.cell? ⟨gb157, 2, none⟩ = some (.int .i64 a0_2) := (blk_cell BK157.out 2).trans rfl; have hcz21_3 : w20.cell? ⟨gb157, 3, none⟩ = some (.slice A0_3 l0_3.length c0_3) := (blk_cell BK157.out 3).trans rfl; have hfz21_0 := blk_frozen BK157.out 0; have hfz21_1 := blk_frozen BK157.out 1; have hfz21_2 := blk_frozen BK157.out 2; have hfz21_3 := blk_frozen BK157.out 3; have p163 : 0 ≤ ((ji9) : Int) := of_decide_eq_true q145_; have q163 : (ji9) < (l0_3.length : Int) := of_decide_eq_true q145_; obtain ⟨ad163, e163, hx163_0⟩ := Kd.at_int HR0_3.out (ji9) p163 q163; cases e163; replace hx163_0 := (HB.out.cell (World.block_lt_of_cell? w _ hx163_0)).trans hx163_0; replace p163 := eq_true p163; replace q163 := eq_true q163))
          go_ret
          exact ⟨by first | rfl | (simp [errW_none, errW_some] <;> rfl) | (simp only [← hji9]; first | rfl | (simp [errW_none, errW_some] <;> rfl)) | (simp [*, errW_none, errW_some] <;> rfl), q64_⟩
        · rw [if_neg c11] at H
          exact absurd H (by simp)
      · rw [if_neg c10] at H
        exact absurd H (by simp)
    · replace c8 := Bool.eq_false_iff.mpr c8
      subst c8
      have H1 : (some a1_1) = some r := by rw [if_neg (show ¬ (false = true) by decide)] at H; exact H
      clear H
      have H := H1
      clear H1
      obtain rfl := Option.some.inj H
      go_enter Try.func63, Try.ntmps63
      go_wp2_with (first | ((with_reducible refine gate_dst (N := 4) rfl ?_); refine box_event ?hg (N := 4) ?hd (cs := #[.int .i64 a0_0, .int .i64 a0_1, .int .i64 a0_2, .slice A0_3 l0_3.length c0_3]) (t := 35) ?hr ?_; (case hd => rfl); (case hg => rfl); (case hr => first | (go_simp; done) | (go_simp; rfl)); intro gb157 hg w22 hbox hb; have n0_ := Aside0.mk (below_step q96_ hb); have n1_ := Aside0.mk (hbox); have n2_ := Aside0.mk ((q76_ : w.heap.size ≤ gb157)); have n3_ := Aside0.mk ((q76_ : w.heap.size ≤ gb157)); clear HB; have HB := n0_; have BK157 := n1_; have GW157 := n2_; have GE157 := n3_; clear n0_ n1_ n2_ n3_; clear hb hbox hg) | ((with_reducible refine gate_dst (N := 5) rfl ?_); refine box_event ?hg (N := 5) ?hd (cs := #[.int .i64 a1_0, .int .i64 a1_1]) (t := 38) ?hr ?_; (case hd => rfl); (case hg => rfl); (case hr => first | (go_simp; done) | (go_simp; rfl)); intro gb158 hg w23 hbox hb; have n0_ := Aside0.mk (blk_below (g := gb157) (o := .cells #[.int .i64 a0_0, .int .i64 a0_1, .int .i64 a0_2, .slice A0_3 l0_3.length c0_3] 35 (0, 0)) q105_ hb); have n1_ := Aside0.mk (below_step q82_ hb); have n2_ := Aside0.mk (hbox); have n3_ := Aside0.mk ((q61_ : w.heap.size ≤ gb158)); have n4_ := Aside0.mk ((q61_ : w.heap.size ≤ gb158)); have n5_ := Aside0.mk ((q21_ : gb157 ≠ gb158)); have n6_ := Aside0.mk ((q22_ : gb158 ≠ gb157)); clear BK157; clear HB; have BK157 := n0_; have HB := n1_; have BK158 := n2_; have GW158 := n3_; have GE158 := n4_; have NB157_158 := n5_; have NB158_157 := n6_; clear n0_ n1_ n2_ n3_ n4_ n5_ n6_; clear hb hbox hg; have hnb24 := NB157_158.out; have hnc24 := NB158_157.out; have hcz25_0 : w23.cell? ⟨gb157, 0, none⟩ = some (.int .i64 a0_0) := (blk_cell BK157.out 0).trans rfl; have hcz25_1 : w23.cell? ⟨gb157, 1, none⟩ = some (.int .i64 a0_1) := (blk_cell BK157.out 1).trans rfl; have hcz25_2 : w23.cell? ⟨gb157, 2, none⟩ = some (.int .i64 a0_2) := (blk_cell BK157.out 2).trans rfl; have hcz25_3 : w23.cell? ⟨gb157, 3, none⟩ = some (.slice A0_3 l0_3.length c0_3) := (blk_cell BK157.out 3).trans rfl; have hfz25_0 := blk_frozen BK157.out 0; have hfz25_1 := blk_frozen BK157.out 1; have hfz25_2 := blk_frozen BK157.out 2; have hfz25_3 := blk_frozen BK157.out 3; have hcz26_0 : w23.cell? ⟨gb158, 0, none⟩ = some (.int .i64 a1_0) := (blk_cell BK158.out 0).trans rfl; have hcz26_1 : w23.cell? ⟨gb158, 1, none⟩ = some (.int .i64 a1_1) := (blk_cell BK158.out 1).trans rfl; have hfz26_0 := blk_frozen BK158.out 0; have hfz26_1 := blk_frozen BK158.out 1) | ((with_reducible refine gate_callee (f := 69) rfl ?_); refine goesL_ (some 19) rfl rfl Try.func69 (by kernel_rfl) rfl #[.int .i64 a2, .int .i64 a0_0, .int .i64 a1_0] rfl q93_ ?_; (with_reducible refine (border_Index.calls k a2 a0_0 a1_0 t159 true _ A5.out).mono ?_); rintro e w27 ⟨rfl, hb⟩; refine ⟨_, rfl, ?_⟩; have n0_ := Aside0.mk (blk_below (g := gb157) (o := .cells #[.int .i64 a0_0, .int .i64 a0_1, .int .i64 a0_2, .slice A0_3 l0_3.length c0_3] 35 (0, 0)) q105_ hb); have n1_ := Aside0.mk (blk_below (g := gb158) (o := .cells #[.int .i64 a1_0, .int .i64 a1_1] 38 (0, 0)) q106_ hb); have n2_ := Aside0.mk (below_step q64_ hb); clear BK157; clear BK158; clear HB; have BK157 := n0_; have BK158 := n1_; have HB := n2_; clear n0_ n1_ n2_; (try clear hb); (try clear hb2); (try clear hk); (try clear hi); have hcz28_0 : w27.cell? ⟨gb157, 0, none⟩ = some (.int .i64 a0_0) := (blk_cell BK157.out 0).trans rfl; have hcz28_1 : w27.cell? ⟨gb157, 1, none⟩ = some (.int .i64 a0_1) := (blk_cell BK157.out 1).trans rfl; have hcz28_2 : w27.cell? ⟨gb157, 2, none⟩ = some (.int .i64 a0_2) := (blk_cell BK157.out 2).trans rfl; have hcz28_3 : w27.cell? ⟨gb157, 3, none⟩ = some (.slice A0_3 l0_3.length c0_3) := (blk_cell BK157.out 3).trans rfl; have hfz28_0 := blk_frozen BK157.out 0; have hfz28_1 := blk_frozen BK157.out 1; have hfz28_2 := blk_frozen BK157.out 2; have hfz28_3 := blk_frozen BK157.out 3; have hcz29_0 : w27.cell? ⟨gb158, 0, none⟩ = some (.int .i64 a1_0) := (blk_cell BK158.out 0).trans rfl; have hcz29_1 : w27.cell? ⟨gb158, 1, none⟩ = some (.int .i64 a1_1) := (blk_cell BK158.out 1).trans rfl; have hfz29_0 := blk_frozen BK158.out 0; have hfz29_1 := blk_frozen BK158.out 1) | ((with_reducible refine gate_callee (f := 69) rfl ?_); refine goesL_ (some 28) rfl rfl Try.func69 (by kernel_rfl) rfl #[.int .i64 a3, .int .i64 a0_1, .int .i64 a1_0] rfl q93_ ?_; (with_reducible refine (border_Index.calls k a3 a0_1 a1_0 t161 false _ A6.out).mono ?_); rintro e w30 ⟨rfl, hb⟩; refine ⟨_, rfl, ?_⟩; have n0_ := Aside0.mk (blk_below (g := gb157) (o := .cells #[.int .i64 a0_0, .int .i64 a0_1, .int .i64 a0_2, .slice A0_3 l0_3.length c0_3] 35 (0, 0)) q105_ hb); have n1_ := Aside0.mk (blk_below (g := gb158) (o := .cells #[.int .i64 a1_0, .int .i64 a1_1] 38 (0, 0)) q106_ hb); have n2_ := Aside0.mk (below_step q64_ hb); clear BK157; clear BK158; clear HB; have BK157 := n0_; have BK158 := n1_; have HB := n2_; clear n0_ n1_ n2_; (try clear hb); (try clear hb2); (try clear hk); (try clear hi); have hcz31_0 : w30.cell? ⟨gb158, 0, none⟩ = some (.int .i64 a1_0) := (blk_cell BK158.out 0).trans rfl; have hcz31_1 : w30.cell? ⟨gb158, 1, none⟩ = some (.int .i64 a1_1) := (blk_cell BK158.out 1).trans rfl; have hfz31_0 := blk_frozen BK158.out 0; have hfz31_1 := blk_frozen BK158.out 1))
      go_ret
      exact ⟨q138_, q64_⟩
  · replace c7 := Bool.eq_false_iff.mpr c7
    subst c7
    have H1 : (some a1_1) = some r := by rw [if_neg (show ¬ (false = true) by decide)] at H; exact H
    clear H
    have H := H1
    clear H1
    obtain rfl := Option.some.inj H
    go_enter Try.func63, Try.ntmps63
    go_wp2_with (first | ((with_reducible refine gate_dst (N := 4) rfl ?_); refine box_event ?hg (N := 4) ?hd (cs := #[.int .i64 a0_0, .int .i64 a0_1, .int .i64 a0_2, .slice A0_3 l0_3.length c0_3]) (t := 35) ?hr ?_; (case hd => rfl); (case hg => rfl); (case hr => first | (go_simp; done) | (go_simp; rfl)); intro gb157 hg w32 hbox hb; have n0_ := Aside0.mk (below_step q96_ hb); have n1_ := Aside0.mk (hbox); have n2_ := Aside0.mk ((q76_ : w.heap.size ≤ gb157)); have n3_ := Aside0.mk ((q76_ : w.heap.size ≤ gb157)); clear HB; have HB := n0_; have BK157 := n1_; have GW157 := n2_; have GE157 := n3_; clear n0_ n1_ n2_ n3_; clear hb hbox hg) | ((with_reducible refine gate_dst (N := 5) rfl ?_); refine box_event ?hg (N := 5) ?hd (cs := #[.int .i64 a1_0, .int .i64 a1_1]) (t := 38) ?hr ?_; (case hd => rfl); (case hg => rfl); (case hr => first | (go_simp; done) | (go_simp; rfl)); intro gb158 hg w33 hbox hb; have n0_ := Aside0.mk (blk_below (g := gb157) (o := .cells #[.int .i64 a0_0, .int .i64 a0_1, .int .i64 a0_2, .slice A0_3 l0_3.length c0_3] 35 (0, 0)) q105_ hb); have n1_ := Aside0.mk (below_step q82_ hb); have n2_ := Aside0.mk (hbox); have n3_ := Aside0.mk ((q61_ : w.heap.size ≤ gb158)); have n4_ := Aside0.mk ((q61_ : w.heap.size ≤ gb158)); have n5_ := Aside0.mk ((q21_ : gb157 ≠ gb158)); have n6_ := Aside0.mk ((q22_ : gb158 ≠ gb157)); clear BK157; clear HB; have BK157 := n0_; have HB := n1_; have BK158 := n2_; have GW158 := n3_; have GE158 := n4_; have NB157_158 := n5_; have NB158_157 := n6_; clear n0_ n1_ n2_ n3_ n4_ n5_ n6_; clear hb hbox hg; have hnb34 := NB157_158.out; have hnc34 := NB158_157.out; have hcz35_0 : w33.cell? ⟨gb157, 0, none⟩ = some (.int .i64 a0_0) := (blk_cell BK157.out 0).trans rfl; have hcz35_1 : w33.cell? ⟨gb157, 1, none⟩ = some (.int .i64 a0_1) := (blk_cell BK157.out 1).trans rfl; have hcz35_2 : w33.cell? ⟨gb157, 2, none⟩ = some (.int .i64 a0_2) := (blk_cell BK157.out 2).trans rfl; have hcz35_3 : w33.cell? ⟨gb157, 3, none⟩ = some (.slice A0_3 l0_3.length c0_3) := (blk_cell BK157.out 3).trans rfl; have hfz35_0 := blk_frozen BK157.out 0; have hfz35_1 := blk_frozen BK157.out 1; have hfz35_2 := blk_frozen BK157.out 2; have hfz35_3 := blk_frozen BK157.out 3; have hcz36_0 : w33.cell? ⟨gb158, 0, none⟩ = some (.int .i64 a1_0) := (blk_cell BK158.out 0).trans rfl; have hcz36_1 : w33.cell? ⟨gb158, 1, none⟩ = some (.int .i64 a1_1) := (blk_cell BK158.out 1).trans rfl; have hfz36_0 := blk_frozen BK158.out 0; have hfz36_1 := blk_frozen BK158.out 1) | ((with_reducible refine gate_callee (f := 69) rfl ?_); refine goesL_ (some 19) rfl rfl Try.func69 (by kernel_rfl) rfl #[.int .i64 a2, .int .i64 a0_0, .int .i64 a1_0] rfl q93_ ?_; (with_reducible refine (border_Index.calls k a2 a0_0 a1_0 t159 false _ A5.out).mono ?_); rintro e w37 ⟨rfl, hb⟩; refine ⟨_, rfl, ?_⟩; have n0_ := Aside0.mk (blk_below (g := gb157) (o := .cells #[.int .i64 a0_0, .int .i64 a0_1, .int .i64 a0_2, .slice A0_3 l0_3.length c0_3] 35 (0, 0)) q105_ hb); have n1_ := Aside0.mk (blk_below (g := gb158) (o := .cells #[.int .i64 a1_0, .int .i64 a1_1] 38 (0, 0)) q106_ hb); have n2_ := Aside0.mk (below_step q64_ hb); clear BK157; clear BK158; clear HB; have BK157 := n0_; have BK158 := n1_; have HB := n2_; clear n0_ n1_ n2_; (try clear hb); (try clear hb2); (try clear hk); (try clear hi); have hcz38_0 : w37.cell? ⟨gb157, 0, none⟩ = some (.int .i64 a0_0) := (blk_cell BK157.out 0).trans rfl; have hcz38_1 : w37.cell? ⟨gb157, 1, none⟩ = some (.int .i64 a0_1) := (blk_cell BK157.out 1).trans rfl; have hcz38_2 : w37.cell? ⟨gb157, 2, none⟩ = some (.int .i64 a0_2) := (blk_cell BK157.out 2).trans rfl; have hcz38_3 : w37.cell? ⟨gb157, 3, none⟩ = some (.slice A0_3 l0_3.length c0_3) := (blk_cell BK157.out 3).trans rfl; have hfz38_0 := blk_frozen BK157.out 0; have hfz38_1 := blk_frozen BK157.out 1; have hfz38_2 := blk_frozen BK157.out 2; have hfz38_3 := blk_frozen BK157.out 3; have hcz39_0 : w37.cell? ⟨gb158, 0, none⟩ = some (.int .i64 a1_0) := (blk_cell BK158.out 0).trans rfl; have hcz39_1 : w37.cell? ⟨gb158, 1, none⟩ = some (.int .i64 a1_1) := (blk_cell BK158.out 1).trans rfl; have hfz39_0 := blk_frozen BK158.out 0; have hfz39_1 := blk_frozen BK158.out 1) | ((with_reducible refine gate_callee (f := 69) rfl ?_); refine goesL_ (some 28) rfl rfl Try.func69 (by kernel_rfl) rfl #[.int .i64 a3, .int .i64 a0_1, .int .i64 a1_0] rfl q93_ ?_; (with_reducible refine (border_Index.calls k a3 a0_1 a1_0 t161 t162 _ A6.out).mono ?_); rintro e w40 ⟨rfl, hb⟩; refine ⟨_, rfl, ?_⟩; have n0_ := Aside0.mk (blk_below (g := gb157) (o := .cells #[.int .i64 a0_0, .int .i64 a0_1, .int .i64 a0_2, .slice A0_3 l0_3.length c0_3] 35 (0, 0)) q105_ hb); have n1_ := Aside0.mk (blk_below (g := gb158) (o := .cells #[.int .i64 a1_0, .int .i64 a1_1] 38 (0, 0)) q106_ hb); have n2_ := Aside0.mk (below_step q64_ hb); clear BK157; clear BK158; clear HB; have BK157 := n0_; have BK158 := n1_; have HB := n2_; clear n0_ n1_ n2_; (try clear hb); (try clear hb2); (try clear hk); (try clear hi); have hcz41_0 : w40.cell? ⟨gb158, 0, none⟩ = some (.int .i64 a1_0) := (blk_cell BK158.out 0).trans rfl; have hcz41_1 : w40.cell? ⟨gb158, 1, none⟩ = some (.int .i64 a1_1) := (blk_cell BK158.out 1).trans rfl; have hfz41_0 := blk_frozen BK158.out 0; have hfz41_1 := blk_frozen BK158.out 1))
    go_ret
    exact ⟨q138_, q64_⟩

end Go.Proofs.Ythgmndomnibefaa.PConvolveMoves
