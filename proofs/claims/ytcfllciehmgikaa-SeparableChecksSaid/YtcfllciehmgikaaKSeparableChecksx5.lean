-- Written by a program of the session (wip/tools/pack.py): the printed texts, pruned; checked by Lean.
import Derived.Test.YtcfllciehmgikaaKSeparableChecksa
import Derived.Test.YtcfllciehmgikaaKSeparableChecksx0
import Derived.Test.YtcfllciehmgikaaKSeparableChecksx3
import Derived.Test.YtcfllciehmgikaaKSeparableChecksx4
namespace Go.Proofs.Ytcfllciehmgikaa.PSeparableChecks
open Go.RowKit Go.Proofs.YtcfllciehmgikaaW.PrintWords Go.Proofs.YtcfllciehmgikaaW.PrintLast Go.Proofs.YtcfllciehmgikaaW.PrintMore
attribute [local go_sem] max2_int min2_int max_two min_two max_three min_three max_four min_four   -- for this text's walks alone
set_option linter.unusedVariables false
set_option linter.unusedSimpArgs false
mutual
def tilefarmref10_Check.j0 : Nat → Int → List Int → List Int → Int → Int → Int → Bool → Option (Int)
  | 0, _, _, _, _, _, _, _ => none
  | k + 1, x0, x1, x2, x3, x4, x5, x16 => if x16 = true then (some 9) else ((tilefarmref7_AreWeights.f k x1).bind fun t150 => (if t150 = true then ((tilefarmref7_AreWeights.f k x2).bind fun t151 => (if t151 = true then ((tilefarmref7_IsShift.f x3).bind fun t152 => (if t152 = true then ((tilefarmref7_IsShift.f x4).bind fun t153 => (tilefarmref10_Check.j1 k x0 x1 x2 x3 x5 (!t153))) else (tilefarmref10_Check.j1 k x0 x1 x2 x3 x5 true))) else (tilefarmref10_Check.j1 k x0 x1 x2 x3 x5 true))) else (tilefarmref10_Check.j1 k x0 x1 x2 x3 x5 true)))
def tilefarmref10_Check.j1 : Nat → Int → List Int → List Int → Int → Int → Bool → Option (Int)
  | 0, _, _, _, _, _, _ => none
  | k + 1, x0, x1, x2, x3, x5, x27 => if x27 = true then (some 10) else ((tilefarmref9_Value.f x0).bind fun t154 => (if t154 = true then ((tilefarmref9_Value.f x5).bind fun t155 => (if t155 = true then ((tilefarmref7_Bounds.f k x1 0 x0).bind fun bt156 => (if bt156.2.2 = true then ((tilefarmref7_Span.f k bt156.1 bt156.2.1 x3).bind fun bt159 => ((tilefarmref7_Bounds.f k x2 bt159.1 bt159.2).bind fun bt161 => (if bt161.2.2 = true then (some 0) else (some 11)))) else (some 11))) else (some 2))) else (some 2)))
end
def tilefarmref10_Check.f (k : Nat) (a0 : Int) (l1 : List Int) (l2 : List Int) (a3 : Int) (a4 : Int) (a5 : Int) : Option (Int) := (tilefarmref9_Side.f (l1.length : Int)).bind fun t148 => (if t148 = true then ((tilefarmref9_Side.f (l2.length : Int)).bind fun t149 => (tilefarmref10_Check.j0 k a0 l1 l2 a3 a4 a5 (!t149))) else (tilefarmref10_Check.j0 k a0 l1 l2 a3 a4 a5 true))
theorem tilefarmref10_Check.mono_l : ∀ k, (∀ y0 y1 y2 y3 y4 y5 y6, LeO (tilefarmref10_Check.j0 k y0 y1 y2 y3 y4 y5 y6) (tilefarmref10_Check.j0 (k + 1) y0 y1 y2 y3 y4 y5 y6)) ∧ (∀ y0 y1 y2 y3 y4 y5, LeO (tilefarmref10_Check.j1 k y0 y1 y2 y3 y4 y5) (tilefarmref10_Check.j1 (k + 1) y0 y1 y2 y3 y4 y5))
  | 0 => ⟨fun _ _ _ _ _ _ _ r h => by simp [tilefarmref10_Check.j0] at h, fun _ _ _ _ _ _ r h => by simp [tilefarmref10_Check.j1] at h⟩
  | k + 1 => by
    obtain ⟨ih0, ih1⟩ := tilefarmref10_Check.mono_l k
    refine ⟨?_, ?_⟩
    · intro y0 y1 y2 y3 y4 y5 y6
      unfold tilefarmref10_Check.j0
      repeat' first
      | (with_reducible exact ih0 _ _ _ _ _ _ _)
      | (with_reducible exact ih1 _ _ _ _ _ _)
      | (with_reducible exact tilefarmref7_AreWeights.mono _ _)
      | (with_reducible exact tilefarmref7_Bounds.mono _ _ _ _)
      | (with_reducible exact tilefarmref7_Span.mono _ _ _ _)
      | (with_reducible exact LeO.refl _)
      | (with_reducible exact LeO.none _)
      | (with_reducible refine LeO.ite ?_ ?_)
      | (with_reducible refine LeO.bind ?_ (fun _ => ?_))
      | exact ih0 _ _ _ _ _ _ _
      | exact ih1 _ _ _ _ _ _
      | exact tilefarmref7_AreWeights.mono _ _
      | exact tilefarmref7_Bounds.mono _ _ _ _
      | exact tilefarmref7_Span.mono _ _ _ _
      | exact LeO.none _
      | refine LeO.ite ?_ ?_
      | refine LeO.bind ?_ (fun _ => ?_)
    · intro y0 y1 y2 y3 y4 y5
      unfold tilefarmref10_Check.j1
      repeat' first
      | (with_reducible exact ih0 _ _ _ _ _ _ _)
      | (with_reducible exact ih1 _ _ _ _ _ _)
      | (with_reducible exact tilefarmref7_AreWeights.mono _ _)
      | (with_reducible exact tilefarmref7_Bounds.mono _ _ _ _)
      | (with_reducible exact tilefarmref7_Span.mono _ _ _ _)
      | (with_reducible exact LeO.refl _)
      | (with_reducible exact LeO.none _)
      | (with_reducible refine LeO.ite ?_ ?_)
      | (with_reducible refine LeO.bind ?_ (fun _ => ?_))
      | exact ih0 _ _ _ _ _ _ _
      | exact ih1 _ _ _ _ _ _
      | exact tilefarmref7_AreWeights.mono _ _
      | exact tilefarmref7_Bounds.mono _ _ _ _
      | exact tilefarmref7_Span.mono _ _ _ _
      | exact LeO.none _
      | refine LeO.ite ?_ ?_
      | refine LeO.bind ?_ (fun _ => ?_)
theorem tilefarmref10_Check.mono : ∀ a0 a1 a2 a3 a4 a5 k, LeO (tilefarmref10_Check.f k a0 a1 a2 a3 a4 a5) (tilefarmref10_Check.f (k + 1) a0 a1 a2 a3 a4 a5) := by
  intro a0 a1 a2 a3 a4 a5 k
  obtain ⟨ih0, ih1⟩ := tilefarmref10_Check.mono_l k
  unfold tilefarmref10_Check.f
  repeat' first
      | (with_reducible exact ih0 _ _ _ _ _ _ _)
      | (with_reducible exact ih1 _ _ _ _ _ _)
      | (with_reducible exact tilefarmref7_AreWeights.mono _ _)
      | (with_reducible exact tilefarmref7_Bounds.mono _ _ _ _)
      | (with_reducible exact tilefarmref7_Span.mono _ _ _ _)
      | (with_reducible exact LeO.refl _)
      | (with_reducible exact LeO.none _)
      | (with_reducible refine LeO.ite ?_ ?_)
      | (with_reducible refine LeO.bind ?_ (fun _ => ?_))
      | exact ih0 _ _ _ _ _ _ _
      | exact ih1 _ _ _ _ _ _
      | exact tilefarmref7_AreWeights.mono _ _
      | exact tilefarmref7_Bounds.mono _ _ _ _
      | exact tilefarmref7_Span.mono _ _ _ _
      | exact LeO.none _
      | refine LeO.ite ?_ ?_
      | refine LeO.bind ?_ (fun _ => ?_)
set_option maxHeartbeats 8000000 in
set_option maxRecDepth 100000 in
theorem tilefarmref10_Check.calls (k : Nat) (a0 : Int) (A1 : Option Addr) (c1 : Nat) (l1 : List Int) (A2 : Option Addr) (c2 : Nat) (l2 : List Int) (a3 : Int) (a4 : Int) (a5 : Int) (r : Int) (w : World) (hr1 : Kd.C (Kd.int .i64) w A1 l1.length l1) (hc1 : l1.length ≤ c1) (hr2 : Kd.C (Kd.int .i64) w A2 l2.length l2) (hc2 : l2.length ≤ c2) (h : tilefarmref10_Check.f k a0 l1 l2 a3 a4 a5 = some r) :
    Calls Try.prog 13 #[.int .i64 a0, .slice A1 l1.length c1, .slice A2 l2.length c2, .int .i64 a3, .int .i64 a4, .int .i64 a5] w fun e w' => e = .returned (.int .i64 r) ∧ Below w.heap.size w w' := by
  have HR1 := Aside0.mk hr1
  have HC1 := Aside0.mk hc1
  clear hr1 hc1
  have HR2 := Aside0.mk hr2
  have HC2 := Aside0.mk hc2
  clear hr2 hc2
  have HB := Aside0.mk (Below.refl w.heap.size w)
  have H : ((tilefarmref9_Side.f (l1.length : Int)).bind fun t148 => (if t148 = true then ((tilefarmref9_Side.f (l2.length : Int)).bind fun t149 => (tilefarmref10_Check.j0 k a0 l1 l2 a3 a4 a5 (!t149))) else (tilefarmref10_Check.j0 k a0 l1 l2 a3 a4 a5 true))) = some r := h
  clear h
  have HC7 := Aside0.mk H
  clear H
  go_enter Try.func13, Try.ntmps13
  go_upto_region 1 with (fail)
  go_cut [16] (fun v16 wc => ∃ (kq : Nat) (x16_6 : Bool), v16 = .bool x16_6 ∧ Aside0 (tilefarmref10_Check.j0 kq a0 l1 l2 a3 a4 a5 x16_6 = some r) ∧ Aside0 (kq ≤ k) ∧ Aside0 (Below w.heap.size w wc))
  case first =>
    have H := HC7.out
    clear HC7
    replace H := Option.bind_eq_some_iff.mp H
    obtain ⟨t148, A80, H⟩ := H
    replace H : (if t148 = true then ((tilefarmref9_Side.f (l2.length : Int)).bind fun t149 => (tilefarmref10_Check.j0 k a0 l1 l2 a3 a4 a5 (!t149))) else (tilefarmref10_Check.j0 k a0 l1 l2 a3 a4 a5 true)) = some r := H
    have A8 := Aside0.mk A80
    clear A80
    by_cases c9 : t148 = true
    · subst c9
      have H1 : ((tilefarmref9_Side.f (l2.length : Int)).bind fun t149 => (tilefarmref10_Check.j0 k a0 l1 l2 a3 a4 a5 (!t149))) = some r := by rw [if_pos rfl] at H; exact H
      clear H
      have H := H1
      clear H1
      replace H := Option.bind_eq_some_iff.mp H
      obtain ⟨t149, A100, H⟩ := H
      replace H : (tilefarmref10_Check.j0 k a0 l1 l2 a3 a4 a5 (!t149)) = some r := H
      have A10 := Aside0.mk A100
      clear A100
      have H' := Aside0.mk H
      clear H
      go_wp2_with (first | ((with_reducible refine gate_callee (f := 32) rfl ?_); refine goesL_ (some 19) rfl rfl Try.func32 (by kernel_rfl) rfl #[.int .i64 (l1.length : Int)] rfl q60_ ?_; (with_reducible refine (tilefarmref9_Side.calls (l1.length : Int) true _ A8.out).mono ?_); rintro e w' ⟨rfl, ⟨nd, rfl⟩⟩; refine ⟨_, rfl, ?_⟩) | (go_at_call 32; (with_reducible refine (tilefarmref9_Side.calls (l2.length : Int) t149 _ A10.out).mono ?_); rintro e w' ⟨rfl, ⟨nd, rfl⟩⟩))
      go_meet
      case rel => exact ⟨_, (!t149), q109_, H', ⟨by first | omega | exact Nat.le_refl _⟩, ⟨q62_⟩⟩
    · replace c9 := Bool.eq_false_iff.mpr c9
      subst c9
      have H1 : (tilefarmref10_Check.j0 k a0 l1 l2 a3 a4 a5 true) = some r := by rw [if_neg (show ¬ (false = true) by decide)] at H; exact H
      clear H
      have H := H1
      clear H1
      have H' := Aside0.mk H
      clear H
      go_wp2_with (first | ((with_reducible refine gate_callee (f := 32) rfl ?_); refine goesL_ (some 19) rfl rfl Try.func32 (by kernel_rfl) rfl #[.int .i64 (l1.length : Int)] rfl q60_ ?_; (with_reducible refine (tilefarmref9_Side.calls (l1.length : Int) false _ A8.out).mono ?_); rintro e w' ⟨rfl, ⟨nd, rfl⟩⟩; refine ⟨_, rfl, ?_⟩))
      go_meet
      case rel => exact ⟨_, (true), q109_, H', ⟨by first | omega | exact Nat.le_refl _⟩, ⟨q62_⟩⟩
  case rest =>
    clear HC7
    try clear c1
    try clear c2
    try clear p2
    try clear c3
    try clear c9
    obtain ⟨kq, x16_6, rfl, HA, HJ6, HB⟩ := hcut
    cases kq with
    | zero => exact absurd HA.out (by simp [tilefarmref10_Check.j0])
    | succ kj6 =>
      have H := HA.out
      clear HA
      simp only [tilefarmref10_Check.j0] at H
      by_cases c11 : x16_6 = true
      · subst c11
        have H1 : (some 9) = some r := by rw [if_pos rfl] at H; exact H
        clear H
        have H := H1
        clear H1
        obtain rfl := Option.some.inj H
        go_wp2
        go_ret
        exact ⟨q103_, q62_⟩
      · replace c11 := Bool.eq_false_iff.mpr c11
        subst c11
        have H1 : ((tilefarmref7_AreWeights.f kj6 l1).bind fun t150 => (if t150 = true then ((tilefarmref7_AreWeights.f kj6 l2).bind fun t151 => (if t151 = true then ((tilefarmref7_IsShift.f a3).bind fun t152 => (if t152 = true then ((tilefarmref7_IsShift.f a4).bind fun t153 => (tilefarmref10_Check.j1 kj6 a0 l1 l2 a3 a5 (!t153))) else (tilefarmref10_Check.j1 kj6 a0 l1 l2 a3 a5 true))) else (tilefarmref10_Check.j1 kj6 a0 l1 l2 a3 a5 true))) else (tilefarmref10_Check.j1 kj6 a0 l1 l2 a3 a5 true))) = some r := by rw [if_neg (show ¬ (false = true) by decide)] at H; exact H
        clear H
        have H := H1
        clear H1
        have HC12 := Aside0.mk H
        clear H
        go_upto_region 3 with (fail)
        go_cut [27] (fun v27 wc => ∃ (kq : Nat) (x27_11 : Bool), v27 = .bool x27_11 ∧ Aside0 (tilefarmref10_Check.j1 kq a0 l1 l2 a3 a5 x27_11 = some r) ∧ Aside0 (kq ≤ kj6) ∧ Aside0 (Below w.heap.size w wc))
        case first =>
          have H := HC12.out
          clear HC12
          replace H := Option.bind_eq_some_iff.mp H
          obtain ⟨t150, A130, H⟩ := H
          replace H : (if t150 = true then ((tilefarmref7_AreWeights.f kj6 l2).bind fun t151 => (if t151 = true then ((tilefarmref7_IsShift.f a3).bind fun t152 => (if t152 = true then ((tilefarmref7_IsShift.f a4).bind fun t153 => (tilefarmref10_Check.j1 kj6 a0 l1 l2 a3 a5 (!t153))) else (tilefarmref10_Check.j1 kj6 a0 l1 l2 a3 a5 true))) else (tilefarmref10_Check.j1 kj6 a0 l1 l2 a3 a5 true))) else (tilefarmref10_Check.j1 kj6 a0 l1 l2 a3 a5 true)) = some r := H
          have A13 := Aside0.mk A130
          clear A130
          by_cases c14 : t150 = true
          · subst c14
            have H1 : ((tilefarmref7_AreWeights.f kj6 l2).bind fun t151 => (if t151 = true then ((tilefarmref7_IsShift.f a3).bind fun t152 => (if t152 = true then ((tilefarmref7_IsShift.f a4).bind fun t153 => (tilefarmref10_Check.j1 kj6 a0 l1 l2 a3 a5 (!t153))) else (tilefarmref10_Check.j1 kj6 a0 l1 l2 a3 a5 true))) else (tilefarmref10_Check.j1 kj6 a0 l1 l2 a3 a5 true))) = some r := by rw [if_pos rfl] at H; exact H
            clear H
            have H := H1
            clear H1
            replace H := Option.bind_eq_some_iff.mp H
            obtain ⟨t151, A150, H⟩ := H
            replace H : (if t151 = true then ((tilefarmref7_IsShift.f a3).bind fun t152 => (if t152 = true then ((tilefarmref7_IsShift.f a4).bind fun t153 => (tilefarmref10_Check.j1 kj6 a0 l1 l2 a3 a5 (!t153))) else (tilefarmref10_Check.j1 kj6 a0 l1 l2 a3 a5 true))) else (tilefarmref10_Check.j1 kj6 a0 l1 l2 a3 a5 true)) = some r := H
            have A15 := Aside0.mk A150
            clear A150
            by_cases c16 : t151 = true
            · subst c16
              have H1 : ((tilefarmref7_IsShift.f a3).bind fun t152 => (if t152 = true then ((tilefarmref7_IsShift.f a4).bind fun t153 => (tilefarmref10_Check.j1 kj6 a0 l1 l2 a3 a5 (!t153))) else (tilefarmref10_Check.j1 kj6 a0 l1 l2 a3 a5 true))) = some r := by rw [if_pos rfl] at H; exact H
              clear H
              have H := H1
              clear H1
              replace H := Option.bind_eq_some_iff.mp H
              obtain ⟨t152, A170, H⟩ := H
              replace H : (if t152 = true then ((tilefarmref7_IsShift.f a4).bind fun t153 => (tilefarmref10_Check.j1 kj6 a0 l1 l2 a3 a5 (!t153))) else (tilefarmref10_Check.j1 kj6 a0 l1 l2 a3 a5 true)) = some r := H
              have A17 := Aside0.mk A170
              clear A170
              by_cases c18 : t152 = true
              · subst c18
                have H1 : ((tilefarmref7_IsShift.f a4).bind fun t153 => (tilefarmref10_Check.j1 kj6 a0 l1 l2 a3 a5 (!t153))) = some r := by rw [if_pos rfl] at H; exact H
                clear H
                have H := H1
                clear H1
                replace H := Option.bind_eq_some_iff.mp H
                obtain ⟨t153, A190, H⟩ := H
                replace H : (tilefarmref10_Check.j1 kj6 a0 l1 l2 a3 a5 (!t153)) = some r := H
                have A19 := Aside0.mk A190
                clear A190
                have H' := Aside0.mk H
                clear H
                go_wp2_with (first | ((with_reducible refine gate_callee (f := 33) rfl ?_); refine goesL_ (some 29) rfl rfl Try.func33 (by kernel_rfl) rfl #[.slice A1 l1.length c1] rfl q60_ ?_; (with_reducible refine (tilefarmref7_AreWeights.calls kj6 _ _ l1 true _ ?side1 ?side2 A13.out).mono ?_); (case side1 => repeat (first | exact (Kd.C_below HR1.out HB.out) | (with_reducible refine Kd.C_alloc ?_ _) | (with_reducible refine Kd.C_drewN ?_ _) | (with_reducible refine Kd.C_drew ?_))); (case side2 => exact HC1.out); rintro e w' ⟨rfl, ⟨nd, rfl⟩⟩; refine ⟨_, rfl, ?_⟩) | (go_at_call 33; (with_reducible refine (tilefarmref7_AreWeights.calls kj6 _ _ l2 true _ ?side1 ?side2 A15.out).mono ?_); (case side1 => repeat (first | exact (Kd.C_below HR2.out q62_) | (with_reducible refine Kd.C_alloc ?_ _) | (with_reducible refine Kd.C_drewN ?_ _) | (with_reducible refine Kd.C_drew ?_))); (case side2 => exact HC2.out); rintro e w' ⟨rfl, ⟨nd, rfl⟩⟩) | (go_at_call 34; (with_reducible refine (tilefarmref7_IsShift.calls a3 true _ A17.out).mono ?_); rintro e w' ⟨rfl, ⟨nd, rfl⟩⟩) | (go_at_call 34; (with_reducible refine (tilefarmref7_IsShift.calls a4 t153 _ A19.out).mono ?_); rintro e w' ⟨rfl, ⟨nd, rfl⟩⟩))
                go_meet
                case rel => exact ⟨_, (!t153), q109_, H', ⟨q107_⟩, ⟨q62_⟩⟩
              · replace c18 := Bool.eq_false_iff.mpr c18
                subst c18
                have H1 : (tilefarmref10_Check.j1 kj6 a0 l1 l2 a3 a5 true) = some r := by rw [if_neg (show ¬ (false = true) by decide)] at H; exact H
                clear H
                have H := H1
                clear H1
                have H' := Aside0.mk H
                clear H
                go_wp2_with (first | ((with_reducible refine gate_callee (f := 33) rfl ?_); refine goesL_ (some 29) rfl rfl Try.func33 (by kernel_rfl) rfl #[.slice A1 l1.length c1] rfl q60_ ?_; (with_reducible refine (tilefarmref7_AreWeights.calls kj6 _ _ l1 true _ ?side1 ?side2 A13.out).mono ?_); (case side1 => repeat (first | exact (Kd.C_below HR1.out HB.out) | (with_reducible refine Kd.C_alloc ?_ _) | (with_reducible refine Kd.C_drewN ?_ _) | (with_reducible refine Kd.C_drew ?_))); (case side2 => exact HC1.out); rintro e w' ⟨rfl, ⟨nd, rfl⟩⟩; refine ⟨_, rfl, ?_⟩) | (go_at_call 33; (with_reducible refine (tilefarmref7_AreWeights.calls kj6 _ _ l2 true _ ?side1 ?side2 A15.out).mono ?_); (case side1 => repeat (first | exact (Kd.C_below HR2.out q62_) | (with_reducible refine Kd.C_alloc ?_ _) | (with_reducible refine Kd.C_drewN ?_ _) | (with_reducible refine Kd.C_drew ?_))); (case side2 => exact HC2.out); rintro e w' ⟨rfl, ⟨nd, rfl⟩⟩) | (go_at_call 34; (with_reducible refine (tilefarmref7_IsShift.calls a3 false _ A17.out).mono ?_); rintro e w' ⟨rfl, ⟨nd, rfl⟩⟩))
                go_meet
                case rel => exact ⟨_, (true), q109_, H', ⟨q107_⟩, ⟨q62_⟩⟩
            · replace c16 := Bool.eq_false_iff.mpr c16
              subst c16
              have H1 : (tilefarmref10_Check.j1 kj6 a0 l1 l2 a3 a5 true) = some r := by rw [if_neg (show ¬ (false = true) by decide)] at H; exact H
              clear H
              have H := H1
              clear H1
              have H' := Aside0.mk H
              clear H
              go_wp2_with (first | ((with_reducible refine gate_callee (f := 33) rfl ?_); refine goesL_ (some 29) rfl rfl Try.func33 (by kernel_rfl) rfl #[.slice A1 l1.length c1] rfl q60_ ?_; (with_reducible refine (tilefarmref7_AreWeights.calls kj6 _ _ l1 true _ ?side1 ?side2 A13.out).mono ?_); (case side1 => repeat (first | exact (Kd.C_below HR1.out HB.out) | (with_reducible refine Kd.C_alloc ?_ _) | (with_reducible refine Kd.C_drewN ?_ _) | (with_reducible refine Kd.C_drew ?_))); (case side2 => exact HC1.out); rintro e w' ⟨rfl, ⟨nd, rfl⟩⟩; refine ⟨_, rfl, ?_⟩) | (go_at_call 33; (with_reducible refine (tilefarmref7_AreWeights.calls kj6 _ _ l2 false _ ?side1 ?side2 A15.out).mono ?_); (case side1 => repeat (first | exact (Kd.C_below HR2.out q62_) | (with_reducible refine Kd.C_alloc ?_ _) | (with_reducible refine Kd.C_drewN ?_ _) | (with_reducible refine Kd.C_drew ?_))); (case side2 => exact HC2.out); rintro e w' ⟨rfl, ⟨nd, rfl⟩⟩))
              go_meet
              case rel => exact ⟨_, (true), q109_, H', ⟨q107_⟩, ⟨q62_⟩⟩
          · replace c14 := Bool.eq_false_iff.mpr c14
            subst c14
            have H1 : (tilefarmref10_Check.j1 kj6 a0 l1 l2 a3 a5 true) = some r := by rw [if_neg (show ¬ (false = true) by decide)] at H; exact H
            clear H
            have H := H1
            clear H1
            have H' := Aside0.mk H
            clear H
            go_wp2_with (first | ((with_reducible refine gate_callee (f := 33) rfl ?_); refine goesL_ (some 29) rfl rfl Try.func33 (by kernel_rfl) rfl #[.slice A1 l1.length c1] rfl q60_ ?_; (with_reducible refine (tilefarmref7_AreWeights.calls kj6 _ _ l1 false _ ?side1 ?side2 A13.out).mono ?_); (case side1 => repeat (first | exact (Kd.C_below HR1.out HB.out) | (with_reducible refine Kd.C_alloc ?_ _) | (with_reducible refine Kd.C_drewN ?_ _) | (with_reducible refine Kd.C_drew ?_))); (case side2 => exact HC1.out); rintro e w' ⟨rfl, ⟨nd, rfl⟩⟩; refine ⟨_, rfl, ?_⟩))
            go_meet
            case rel => exact ⟨_, (true), q109_, H', ⟨q107_⟩, ⟨q62_⟩⟩
        case rest =>
          clear HC12
          try clear c1
          try clear c2
          try clear p2
          try clear c3
          try clear c9
          try clear c11
          try clear c13
          try clear c14
          try clear c16
          try clear c18
          try clear p2
          obtain ⟨kq, x27_11, rfl, HA, HJ11, HB⟩ := hcut
          cases kq with
          | zero => exact absurd HA.out (by simp [tilefarmref10_Check.j1])
          | succ kj11 =>
            have H := HA.out
            clear HA
            simp only [tilefarmref10_Check.j1] at H
            by_cases c20 : x27_11 = true
            · subst c20
              have H1 : (some 10) = some r := by rw [if_pos rfl] at H; exact H
              clear H
              have H := H1
              clear H1
              obtain rfl := Option.some.inj H
              go_wp2
              go_ret
              exact ⟨q103_, q62_⟩
            · replace c20 := Bool.eq_false_iff.mpr c20
              subst c20
              have H1 : ((tilefarmref9_Value.f a0).bind fun t154 => (if t154 = true then ((tilefarmref9_Value.f a5).bind fun t155 => (if t155 = true then ((tilefarmref7_Bounds.f kj11 l1 0 a0).bind fun bt156 => (if bt156.2.2 = true then ((tilefarmref7_Span.f kj11 bt156.1 bt156.2.1 a3).bind fun bt159 => ((tilefarmref7_Bounds.f kj11 l2 bt159.1 bt159.2).bind fun bt161 => (if bt161.2.2 = true then (some 0) else (some 11)))) else (some 11))) else (some 2))) else (some 2))) = some r := by rw [if_neg (show ¬ (false = true) by decide)] at H; exact H
              clear H
              have H := H1
              clear H1
              replace H := Option.bind_eq_some_iff.mp H
              obtain ⟨t154, A210, H⟩ := H
              replace H : (if t154 = true then ((tilefarmref9_Value.f a5).bind fun t155 => (if t155 = true then ((tilefarmref7_Bounds.f kj11 l1 0 a0).bind fun bt156 => (if bt156.2.2 = true then ((tilefarmref7_Span.f kj11 bt156.1 bt156.2.1 a3).bind fun bt159 => ((tilefarmref7_Bounds.f kj11 l2 bt159.1 bt159.2).bind fun bt161 => (if bt161.2.2 = true then (some 0) else (some 11)))) else (some 11))) else (some 2))) else (some 2)) = some r := H
              have A21 := Aside0.mk A210
              clear A210
              by_cases c22 : t154 = true
              · subst c22
                have H1 : ((tilefarmref9_Value.f a5).bind fun t155 => (if t155 = true then ((tilefarmref7_Bounds.f kj11 l1 0 a0).bind fun bt156 => (if bt156.2.2 = true then ((tilefarmref7_Span.f kj11 bt156.1 bt156.2.1 a3).bind fun bt159 => ((tilefarmref7_Bounds.f kj11 l2 bt159.1 bt159.2).bind fun bt161 => (if bt161.2.2 = true then (some 0) else (some 11)))) else (some 11))) else (some 2))) = some r := by rw [if_pos rfl] at H; exact H
                clear H
                have H := H1
                clear H1
                replace H := Option.bind_eq_some_iff.mp H
                obtain ⟨t155, A230, H⟩ := H
                replace H : (if t155 = true then ((tilefarmref7_Bounds.f kj11 l1 0 a0).bind fun bt156 => (if bt156.2.2 = true then ((tilefarmref7_Span.f kj11 bt156.1 bt156.2.1 a3).bind fun bt159 => ((tilefarmref7_Bounds.f kj11 l2 bt159.1 bt159.2).bind fun bt161 => (if bt161.2.2 = true then (some 0) else (some 11)))) else (some 11))) else (some 2)) = some r := H
                have A23 := Aside0.mk A230
                clear A230
                by_cases c24 : t155 = true
                · subst c24
                  have H1 : ((tilefarmref7_Bounds.f kj11 l1 0 a0).bind fun bt156 => (if bt156.2.2 = true then ((tilefarmref7_Span.f kj11 bt156.1 bt156.2.1 a3).bind fun bt159 => ((tilefarmref7_Bounds.f kj11 l2 bt159.1 bt159.2).bind fun bt161 => (if bt161.2.2 = true then (some 0) else (some 11)))) else (some 11))) = some r := by rw [if_pos rfl] at H; exact H
                  clear H
                  have H := H1
                  clear H1
                  replace H := Option.bind_eq_some_iff.mp H
                  obtain ⟨⟨t156, t157, t158⟩, A250, H⟩ := H
                  replace H : (if t158 = true then ((tilefarmref7_Span.f kj11 t156 t157 a3).bind fun bt159 => ((tilefarmref7_Bounds.f kj11 l2 bt159.1 bt159.2).bind fun bt161 => (if bt161.2.2 = true then (some 0) else (some 11)))) else (some 11)) = some r := H
                  have A25 := Aside0.mk A250
                  clear A250
                  by_cases c26 : t158 = true
                  · subst c26
                    have H1 : ((tilefarmref7_Span.f kj11 t156 t157 a3).bind fun bt159 => ((tilefarmref7_Bounds.f kj11 l2 bt159.1 bt159.2).bind fun bt161 => (if bt161.2.2 = true then (some 0) else (some 11)))) = some r := by rw [if_pos rfl] at H; exact H
                    clear H
                    have H := H1
                    clear H1
                    replace H := Option.bind_eq_some_iff.mp H
                    obtain ⟨⟨t159, t160⟩, A270, H⟩ := H
                    replace H : ((tilefarmref7_Bounds.f kj11 l2 t159 t160).bind fun bt161 => (if bt161.2.2 = true then (some 0) else (some 11))) = some r := H
                    have A27 := Aside0.mk A270
                    clear A270
                    replace H := Option.bind_eq_some_iff.mp H
                    obtain ⟨⟨t161, t162, t163⟩, A280, H⟩ := H
                    replace H : (if t163 = true then (some 0) else (some 11)) = some r := H
                    have A28 := Aside0.mk A280
                    clear A280
                    by_cases c29 : t163 = true
                    · subst c29
                      have H1 : (some 0) = some r := by rw [if_pos rfl] at H; exact H
                      clear H
                      have H := H1
                      clear H1
                      obtain rfl := Option.some.inj H
                      go_wp2_with (first | ((with_reducible refine gate_callee (f := 35) rfl ?_); refine goesL_ (some 48) rfl rfl Try.func35 (by kernel_rfl) rfl #[.int .i64 a0] rfl q60_ ?_; (with_reducible refine (tilefarmref9_Value.calls a0 true _ A21.out).mono ?_); rintro e w' ⟨rfl, ⟨nd, rfl⟩⟩; refine ⟨_, rfl, ?_⟩) | (go_at_call 35; (with_reducible refine (tilefarmref9_Value.calls a5 true _ A23.out).mono ?_); rintro e w' ⟨rfl, ⟨nd, rfl⟩⟩) | ((with_reducible refine gate_callee (f := 36) rfl ?_); refine goesL_ (some 58) rfl rfl Try.func36 (by kernel_rfl) rfl #[.slice A1 l1.length c1, .int .i64 0, .int .i64 a0] rfl q60_ ?_; (with_reducible refine (tilefarmref7_Bounds.calls kj11 _ _ l1 0 a0 t156 t157 true _ ?side1 ?side2 A25.out).mono ?_); (case side1 => repeat (first | exact (Kd.C_below HR1.out q62_) | (with_reducible refine Kd.C_alloc ?_ _) | (with_reducible refine Kd.C_drewN ?_ _) | (with_reducible refine Kd.C_drew ?_))); (case side2 => exact HC1.out); rintro e w30 ⟨rfl, hb⟩; refine ⟨_, rfl, ?_⟩; have n0_ := Aside0.mk (below_step q62_ hb); clear HB; have HB := n0_; clear n0_; (try clear hb); (try clear hb2); (try clear hk); (try clear hi)) | ((with_reducible refine gate_callee (f := 37) rfl ?_); refine goesL_ (some 68) rfl rfl Try.func37 (by kernel_rfl) rfl #[.int .i64 t156, .int .i64 t157, .int .i64 a3] rfl q60_ ?_; (with_reducible refine (tilefarmref7_Span.calls kj11 t156 t157 a3 t159 t160 _ A27.out).mono ?_); rintro e w' ⟨rfl, ⟨nd, rfl⟩⟩; refine ⟨_, rfl, ?_⟩) | ((with_reducible refine gate_callee (f := 36) rfl ?_); refine goesL_ (some 75) rfl rfl Try.func36 (by kernel_rfl) rfl #[.slice A2 l2.length c2, .int .i64 t159, .int .i64 t160] rfl q60_ ?_; (with_reducible refine (tilefarmref7_Bounds.calls kj11 _ _ l2 t159 t160 t161 t162 true _ ?side1 ?side2 A28.out).mono ?_); (case side1 => repeat (first | exact (Kd.C_below HR2.out q62_) | (with_reducible refine Kd.C_alloc ?_ _) | (with_reducible refine Kd.C_drewN ?_ _) | (with_reducible refine Kd.C_drew ?_))); (case side2 => exact HC2.out); rintro e w31 ⟨rfl, hb⟩; refine ⟨_, rfl, ?_⟩; have n0_ := Aside0.mk (below_step q62_ hb); clear HB; have HB := n0_; clear n0_; (try clear hb); (try clear hb2); (try clear hk); (try clear hi)))
                      go_ret
                      exact ⟨q103_, q62_⟩
                    · replace c29 := Bool.eq_false_iff.mpr c29
                      subst c29
                      have H1 : (some 11) = some r := by rw [if_neg (show ¬ (false = true) by decide)] at H; exact H
                      clear H
                      have H := H1
                      clear H1
                      obtain rfl := Option.some.inj H
                      go_wp2_with (first | ((with_reducible refine gate_callee (f := 35) rfl ?_); refine goesL_ (some 48) rfl rfl Try.func35 (by kernel_rfl) rfl #[.int .i64 a0] rfl q60_ ?_; (with_reducible refine (tilefarmref9_Value.calls a0 true _ A21.out).mono ?_); rintro e w' ⟨rfl, ⟨nd, rfl⟩⟩; refine ⟨_, rfl, ?_⟩) | (go_at_call 35; (with_reducible refine (tilefarmref9_Value.calls a5 true _ A23.out).mono ?_); rintro e w' ⟨rfl, ⟨nd, rfl⟩⟩) | ((with_reducible refine gate_callee (f := 36) rfl ?_); refine goesL_ (some 58) rfl rfl Try.func36 (by kernel_rfl) rfl #[.slice A1 l1.length c1, .int .i64 0, .int .i64 a0] rfl q60_ ?_; (with_reducible refine (tilefarmref7_Bounds.calls kj11 _ _ l1 0 a0 t156 t157 true _ ?side1 ?side2 A25.out).mono ?_); (case side1 => repeat (first | exact (Kd.C_below HR1.out q62_) | (with_reducible refine Kd.C_alloc ?_ _) | (with_reducible refine Kd.C_drewN ?_ _) | (with_reducible refine Kd.C_drew ?_))); (case side2 => exact HC1.out); rintro e w32 ⟨rfl, hb⟩; refine ⟨_, rfl, ?_⟩; have n0_ := Aside0.mk (below_step q62_ hb); clear HB; have HB := n0_; clear n0_; (try clear hb); (try clear hb2); (try clear hk); (try clear hi)) | ((with_reducible refine gate_callee (f := 37) rfl ?_); refine goesL_ (some 68) rfl rfl Try.func37 (by kernel_rfl) rfl #[.int .i64 t156, .int .i64 t157, .int .i64 a3] rfl q60_ ?_; (with_reducible refine (tilefarmref7_Span.calls kj11 t156 t157 a3 t159 t160 _ A27.out).mono ?_); rintro e w' ⟨rfl, ⟨nd, rfl⟩⟩; refine ⟨_, rfl, ?_⟩) | ((with_reducible refine gate_callee (f := 36) rfl ?_); refine goesL_ (some 75) rfl rfl Try.func36 (by kernel_rfl) rfl #[.slice A2 l2.length c2, .int .i64 t159, .int .i64 t160] rfl q60_ ?_; (with_reducible refine (tilefarmref7_Bounds.calls kj11 _ _ l2 t159 t160 t161 t162 false _ ?side1 ?side2 A28.out).mono ?_); (case side1 => repeat (first | exact (Kd.C_below HR2.out q62_) | (with_reducible refine Kd.C_alloc ?_ _) | (with_reducible refine Kd.C_drewN ?_ _) | (with_reducible refine Kd.C_drew ?_))); (case side2 => exact HC2.out); rintro e w33 ⟨rfl, hb⟩; refine ⟨_, rfl, ?_⟩; have n0_ := Aside0.mk (below_step q62_ hb); clear HB; have HB := n0_; clear n0_; (try clear hb); (try clear hb2); (try clear hk); (try clear hi)))
                      go_ret
                      exact ⟨q103_, q62_⟩
                  · replace c26 := Bool.eq_false_iff.mpr c26
                    subst c26
                    have H1 : (some 11) = some r := by rw [if_neg (show ¬ (false = true) by decide)] at H; exact H
                    clear H
                    have H := H1
                    clear H1
                    obtain rfl := Option.some.inj H
                    go_wp2_with (first | ((with_reducible refine gate_callee (f := 35) rfl ?_); refine goesL_ (some 48) rfl rfl Try.func35 (by kernel_rfl) rfl #[.int .i64 a0] rfl q60_ ?_; (with_reducible refine (tilefarmref9_Value.calls a0 true _ A21.out).mono ?_); rintro e w' ⟨rfl, ⟨nd, rfl⟩⟩; refine ⟨_, rfl, ?_⟩) | (go_at_call 35; (with_reducible refine (tilefarmref9_Value.calls a5 true _ A23.out).mono ?_); rintro e w' ⟨rfl, ⟨nd, rfl⟩⟩) | ((with_reducible refine gate_callee (f := 36) rfl ?_); refine goesL_ (some 58) rfl rfl Try.func36 (by kernel_rfl) rfl #[.slice A1 l1.length c1, .int .i64 0, .int .i64 a0] rfl q60_ ?_; (with_reducible refine (tilefarmref7_Bounds.calls kj11 _ _ l1 0 a0 t156 t157 false _ ?side1 ?side2 A25.out).mono ?_); (case side1 => repeat (first | exact (Kd.C_below HR1.out q62_) | (with_reducible refine Kd.C_alloc ?_ _) | (with_reducible refine Kd.C_drewN ?_ _) | (with_reducible refine Kd.C_drew ?_))); (case side2 => exact HC1.out); rintro e w34 ⟨rfl, hb⟩; refine ⟨_, rfl, ?_⟩; have n0_ := Aside0.mk (below_step q62_ hb); clear HB; have HB := n0_; clear n0_; (try clear hb); (try clear hb2); (try clear hk); (try clear hi)))
                    go_ret
                    exact ⟨q103_, q62_⟩
                · replace c24 := Bool.eq_false_iff.mpr c24
                  subst c24
                  have H1 : (some 2) = some r := by rw [if_neg (show ¬ (false = true) by decide)] at H; exact H
                  clear H
                  have H := H1
                  clear H1
                  obtain rfl := Option.some.inj H
                  go_wp2_with (first | ((with_reducible refine gate_callee (f := 35) rfl ?_); refine goesL_ (some 48) rfl rfl Try.func35 (by kernel_rfl) rfl #[.int .i64 a0] rfl q60_ ?_; (with_reducible refine (tilefarmref9_Value.calls a0 true _ A21.out).mono ?_); rintro e w' ⟨rfl, ⟨nd, rfl⟩⟩; refine ⟨_, rfl, ?_⟩) | (go_at_call 35; (with_reducible refine (tilefarmref9_Value.calls a5 false _ A23.out).mono ?_); rintro e w' ⟨rfl, ⟨nd, rfl⟩⟩))
                  go_ret
                  exact ⟨q103_, q62_⟩
              · replace c22 := Bool.eq_false_iff.mpr c22
                subst c22
                have H1 : (some 2) = some r := by rw [if_neg (show ¬ (false = true) by decide)] at H; exact H
                clear H
                have H := H1
                clear H1
                obtain rfl := Option.some.inj H
                go_wp2_with (first | ((with_reducible refine gate_callee (f := 35) rfl ?_); refine goesL_ (some 48) rfl rfl Try.func35 (by kernel_rfl) rfl #[.int .i64 a0] rfl q60_ ?_; (with_reducible refine (tilefarmref9_Value.calls a0 false _ A21.out).mono ?_); rintro e w' ⟨rfl, ⟨nd, rfl⟩⟩; refine ⟨_, rfl, ?_⟩))
                go_ret
                exact ⟨q103_, q62_⟩


def extent_Mul.f (a0 : Int) (a1 : Int) (a2 : Int) : Option (Int × Bool) := if a0 < 0 then (some (0, false)) else (if a1 < 0 then (some (0, false)) else (if a2 < 0 then (some (0, false)) else (if a0 = 0 then (some (wrap64 (a0 * a1), true)) else (if a1 > (wrap64 (Int.tdiv a2 a0)) then (some (0, false)) else (some (wrap64 (a0 * a1), true))))))
set_option maxHeartbeats 8000000 in
set_option maxRecDepth 100000 in
theorem extent_Mul.calls (a0 : Int) (a1 : Int) (a2 : Int) (r1 : Int) (r2 : Bool) (w : World) (h : extent_Mul.f a0 a1 a2 = some (r1, r2)) :
    Calls Try.prog 75 #[.int .i64 a0, .int .i64 a1, .int .i64 a2] w fun e w' => e = .returned (.tuple #[.int .i64 r1, .bool r2]) ∧ Drawn0 w w' := by
  have H : (if a0 < 0 then (some (0, false)) else (if a1 < 0 then (some (0, false)) else (if a2 < 0 then (some (0, false)) else (if a0 = 0 then (some (wrap64 (a0 * a1), true)) else (if a1 > (wrap64 (Int.tdiv a2 a0)) then (some (0, false)) else (some (wrap64 (a0 * a1), true))))))) = some (r1, r2) := h
  clear h
  by_cases c4 : a0 < 0
  · rw [if_pos c4] at H
    have c4b0 : decide (a0 < 0) = true := decide_eq_true c4
    clear c4
    simp only [Option.some.injEq, Prod.mk.injEq] at H
    obtain ⟨rfl, rfl⟩ := H
    go_enter Try.func75, Try.ntmps75
    go_wp2
    go_ret2
    exact ⟨q109_, q106_⟩
  · rw [if_neg c4] at H
    have c4b0 : decide (a0 < 0) = false := decide_eq_false c4
    clear c4
    by_cases c5 : a1 < 0
    · rw [if_pos c5] at H
      have c5b0 : decide (a1 < 0) = true := decide_eq_true c5
      clear c5
      simp only [Option.some.injEq, Prod.mk.injEq] at H
      obtain ⟨rfl, rfl⟩ := H
      go_enter Try.func75, Try.ntmps75
      go_wp2
      go_ret2
      exact ⟨q109_, q106_⟩
    · rw [if_neg c5] at H
      have c5b0 : decide (a1 < 0) = false := decide_eq_false c5
      clear c5
      by_cases c6 : a2 < 0
      · rw [if_pos c6] at H
        have c6b0 : decide (a2 < 0) = true := decide_eq_true c6
        clear c6
        simp only [Option.some.injEq, Prod.mk.injEq] at H
        obtain ⟨rfl, rfl⟩ := H
        go_enter Try.func75, Try.ntmps75
        go_wp2
        go_ret2
        exact ⟨q109_, q106_⟩
      · rw [if_neg c6] at H
        have c6b0 : decide (a2 < 0) = false := decide_eq_false c6
        clear c6
        by_cases c7 : a0 = 0
        · rw [if_pos c7] at H
          have c7b0 : (a0 == 0) = true := beq_iff_eq.mpr c7
          have c7b1 : (a0 != 0) = false := bne_eq_false_iff_eq.mpr c7
          clear c7
          simp only [Option.some.injEq, Prod.mk.injEq] at H
          obtain ⟨rfl, rfl⟩ := H
          go_enter Try.func75, Try.ntmps75
          go_wp2
          go_ret2
          exact ⟨q109_, q106_⟩
        · rw [if_neg c7] at H
          have c7b0 : (a0 == 0) = false := beq_eq_false_iff_ne.mpr c7
          have c7b1 : (a0 != 0) = true := bne_iff_ne.mpr c7
          by_cases c8 : a1 > (wrap64 (Int.tdiv a2 a0))
          · rw [if_pos c8] at H
            have c8b0 : decide ((wrap64 (Int.tdiv a2 a0)) < a1) = true := decide_eq_true c8
            clear c8
            simp only [Option.some.injEq, Prod.mk.injEq] at H
            obtain ⟨rfl, rfl⟩ := H
            go_enter Try.func75, Try.ntmps75
            go_wp2
            go_ret2
            exact ⟨q109_, q106_⟩
          · rw [if_neg c8] at H
            have c8b0 : decide ((wrap64 (Int.tdiv a2 a0)) < a1) = false := decide_eq_false c8
            clear c8
            simp only [Option.some.injEq, Prod.mk.injEq] at H
            obtain ⟨rfl, rfl⟩ := H
            go_enter Try.func75, Try.ntmps75
            go_wp2
            go_ret2
            exact ⟨q109_, q106_⟩


def plane_size.f (a0 : Int) (a1 : Int) (a2 : Int) : Option (Bool) := (extent_Mul.f a0 a1 4096).bind fun bt164 => (if bt164.2 = true then (if a0 ≥ 1 then (if a0 ≤ 128 then (if a1 ≥ 1 then (if a1 ≤ 128 then (if a2 ≥ 1 then (some (decide (a2 ≤ 4294967296))) else (some false)) else (some false)) else (some false)) else (some false)) else (some false)) else (some false))
set_option maxHeartbeats 8000000 in
set_option maxRecDepth 100000 in
theorem plane_size.calls (a0 : Int) (a1 : Int) (a2 : Int) (r : Bool) (w : World) (h : plane_size.f a0 a1 a2 = some r) :
    Calls Try.prog 65 #[.int .i64 a0, .int .i64 a1, .int .i64 a2] w fun e w' => e = .returned (.bool r) ∧ Drawn0 w w' := by
  have H : ((extent_Mul.f a0 a1 4096).bind fun bt164 => (if bt164.2 = true then (if a0 ≥ 1 then (if a0 ≤ 128 then (if a1 ≥ 1 then (if a1 ≤ 128 then (if a2 ≥ 1 then (some (decide (a2 ≤ 4294967296))) else (some false)) else (some false)) else (some false)) else (some false)) else (some false)) else (some false))) = some r := h
  clear h
  replace H := Option.bind_eq_some_iff.mp H
  obtain ⟨⟨t164, t165⟩, A40, H⟩ := H
  replace H : (if t165 = true then (if a0 ≥ 1 then (if a0 ≤ 128 then (if a1 ≥ 1 then (if a1 ≤ 128 then (if a2 ≥ 1 then (some (decide (a2 ≤ 4294967296))) else (some false)) else (some false)) else (some false)) else (some false)) else (some false)) else (some false)) = some r := H
  have A4 := Aside0.mk A40
  clear A40
  by_cases c5 : t165 = true
  · subst c5
    have H1 : (if a0 ≥ 1 then (if a0 ≤ 128 then (if a1 ≥ 1 then (if a1 ≤ 128 then (if a2 ≥ 1 then (some (decide (a2 ≤ 4294967296))) else (some false)) else (some false)) else (some false)) else (some false)) else (some false)) = some r := by rw [if_pos rfl] at H; exact H
    clear H
    have H := H1
    clear H1
    by_cases c6 : a0 ≥ 1
    · rw [if_pos c6] at H
      have c6b0 : decide (1 ≤ a0) = true := decide_eq_true c6
      clear c6
      by_cases c7 : a0 ≤ 128
      · rw [if_pos c7] at H
        have c7b0 : decide (a0 ≤ 128) = true := decide_eq_true c7
        clear c7
        by_cases c8 : a1 ≥ 1
        · rw [if_pos c8] at H
          have c8b0 : decide (1 ≤ a1) = true := decide_eq_true c8
          clear c8
          by_cases c9 : a1 ≤ 128
          · rw [if_pos c9] at H
            have c9b0 : decide (a1 ≤ 128) = true := decide_eq_true c9
            clear c9
            by_cases c10 : a2 ≥ 1
            · rw [if_pos c10] at H
              have c10b0 : decide (1 ≤ a2) = true := decide_eq_true c10
              clear c10
              obtain rfl := Option.some.inj H
              go_enter Try.func65, Try.ntmps65
              go_wp2_with (first | ((with_reducible refine gate_callee (f := 75) rfl ?_); refine goesL_ (some 12) rfl rfl Try.func75 (by kernel_rfl) rfl #[.int .i64 a0, .int .i64 a1, .int .i64 4096] rfl q60_ ?_; (with_reducible refine (extent_Mul.calls a0 a1 4096 t164 true _ A4.out).mono ?_); rintro e w' ⟨rfl, ⟨nd, rfl⟩⟩; refine ⟨_, rfl, ?_⟩))
              go_ret
              exact ⟨q109_, q106_⟩
            · rw [if_neg c10] at H
              have c10b0 : decide (1 ≤ a2) = false := decide_eq_false c10
              clear c10
              obtain rfl := Option.some.inj H
              go_enter Try.func65, Try.ntmps65
              go_wp2_with (first | ((with_reducible refine gate_callee (f := 75) rfl ?_); refine goesL_ (some 12) rfl rfl Try.func75 (by kernel_rfl) rfl #[.int .i64 a0, .int .i64 a1, .int .i64 4096] rfl q60_ ?_; (with_reducible refine (extent_Mul.calls a0 a1 4096 t164 true _ A4.out).mono ?_); rintro e w' ⟨rfl, ⟨nd, rfl⟩⟩; refine ⟨_, rfl, ?_⟩))
              go_ret
              exact ⟨q109_, q106_⟩
          · rw [if_neg c9] at H
            have c9b0 : decide (a1 ≤ 128) = false := decide_eq_false c9
            clear c9
            obtain rfl := Option.some.inj H
            go_enter Try.func65, Try.ntmps65
            go_wp2_with (first | ((with_reducible refine gate_callee (f := 75) rfl ?_); refine goesL_ (some 12) rfl rfl Try.func75 (by kernel_rfl) rfl #[.int .i64 a0, .int .i64 a1, .int .i64 4096] rfl q60_ ?_; (with_reducible refine (extent_Mul.calls a0 a1 4096 t164 true _ A4.out).mono ?_); rintro e w' ⟨rfl, ⟨nd, rfl⟩⟩; refine ⟨_, rfl, ?_⟩))
            go_ret
            exact ⟨q109_, q106_⟩
        · rw [if_neg c8] at H
          have c8b0 : decide (1 ≤ a1) = false := decide_eq_false c8
          clear c8
          obtain rfl := Option.some.inj H
          go_enter Try.func65, Try.ntmps65
          go_wp2_with (first | ((with_reducible refine gate_callee (f := 75) rfl ?_); refine goesL_ (some 12) rfl rfl Try.func75 (by kernel_rfl) rfl #[.int .i64 a0, .int .i64 a1, .int .i64 4096] rfl q60_ ?_; (with_reducible refine (extent_Mul.calls a0 a1 4096 t164 true _ A4.out).mono ?_); rintro e w' ⟨rfl, ⟨nd, rfl⟩⟩; refine ⟨_, rfl, ?_⟩))
          go_ret
          exact ⟨q109_, q106_⟩
      · rw [if_neg c7] at H
        have c7b0 : decide (a0 ≤ 128) = false := decide_eq_false c7
        clear c7
        obtain rfl := Option.some.inj H
        go_enter Try.func65, Try.ntmps65
        go_wp2_with (first | ((with_reducible refine gate_callee (f := 75) rfl ?_); refine goesL_ (some 12) rfl rfl Try.func75 (by kernel_rfl) rfl #[.int .i64 a0, .int .i64 a1, .int .i64 4096] rfl q60_ ?_; (with_reducible refine (extent_Mul.calls a0 a1 4096 t164 true _ A4.out).mono ?_); rintro e w' ⟨rfl, ⟨nd, rfl⟩⟩; refine ⟨_, rfl, ?_⟩))
        go_ret
        exact ⟨q109_, q106_⟩
    · rw [if_neg c6] at H
      have c6b0 : decide (1 ≤ a0) = false := decide_eq_false c6
      clear c6
      obtain rfl := Option.some.inj H
      go_enter Try.func65, Try.ntmps65
      go_wp2_with (first | ((with_reducible refine gate_callee (f := 75) rfl ?_); refine goesL_ (some 12) rfl rfl Try.func75 (by kernel_rfl) rfl #[.int .i64 a0, .int .i64 a1, .int .i64 4096] rfl q60_ ?_; (with_reducible refine (extent_Mul.calls a0 a1 4096 t164 true _ A4.out).mono ?_); rintro e w' ⟨rfl, ⟨nd, rfl⟩⟩; refine ⟨_, rfl, ?_⟩))
      go_ret
      exact ⟨q109_, q106_⟩
  · replace c5 := Bool.eq_false_iff.mpr c5
    subst c5
    have H1 : (some false) = some r := by rw [if_neg (show ¬ (false = true) by decide)] at H; exact H
    clear H
    have H := H1
    clear H1
    obtain rfl := Option.some.inj H
    go_enter Try.func65, Try.ntmps65
    go_wp2_with (first | ((with_reducible refine gate_callee (f := 75) rfl ?_); refine goesL_ (some 12) rfl rfl Try.func75 (by kernel_rfl) rfl #[.int .i64 a0, .int .i64 a1, .int .i64 4096] rfl q60_ ?_; (with_reducible refine (extent_Mul.calls a0 a1 4096 t164 false _ A4.out).mono ?_); rintro e w' ⟨rfl, ⟨nd, rfl⟩⟩; refine ⟨_, rfl, ?_⟩))
    go_ret
    exact ⟨q109_, q106_⟩


mutual
def plane_Valid.j0 : Nat → Bool → Int → Int → Int → List Int → Option (Bool)
  | 0, _, _, _, _, _ => none
  | k + 1, x23, x167000, x167001, x167002, x167003 => if x23 = true then (some false) else (plane_Valid.l0 k x167003 (x167003.length : Int) 0 x167000 x167001 x167002 x167003)
def plane_Valid.l0 : Nat → List Int → Int → Int → Int → Int → Int → List Int → Option (Bool)
  | 0, _, _, _, _, _, _, _ => none
  | k + 1, x25, x26, x27, x167000, x167001, x167002, x167003 => if x27 < x26 then (if 0 ≤ x27 then (if x27 < (x25.length : Int) then (if (rd x25 x27) < 0 then (some false) else (if (rd x25 x27) > x167002 then (some false) else (plane_Valid.l0 k x25 x26 (wrap64 (x27 + 1)) x167000 x167001 x167002 x167003))) else (none)) else (none)) else (some true)
end
def plane_Valid.f (k : Nat) (a0_0 : Int) (a0_1 : Int) (a0_2 : Int) (l0_3 : List Int) : Option (Bool) := (plane_size.f a0_0 a0_1 a0_2).bind fun t167 => (if t167 = true then (plane_Valid.j0 k ((l0_3.length : Int) != (wrap64 (a0_0 * a0_1))) a0_0 a0_1 a0_2 l0_3) else (plane_Valid.j0 k true a0_0 a0_1 a0_2 l0_3))
theorem plane_Valid.mono_l : ∀ k, (∀ y0 y1 y2 y3 y4, LeO (plane_Valid.j0 k y0 y1 y2 y3 y4) (plane_Valid.j0 (k + 1) y0 y1 y2 y3 y4)) ∧ (∀ y0 y1 y2 y3 y4 y5 y6, LeO (plane_Valid.l0 k y0 y1 y2 y3 y4 y5 y6) (plane_Valid.l0 (k + 1) y0 y1 y2 y3 y4 y5 y6))
  | 0 => ⟨fun _ _ _ _ _ r h => by simp [plane_Valid.j0] at h, fun _ _ _ _ _ _ _ r h => by simp [plane_Valid.l0] at h⟩
  | k + 1 => by
    obtain ⟨ih0, ih1⟩ := plane_Valid.mono_l k
    refine ⟨?_, ?_⟩
    · intro y0 y1 y2 y3 y4
      unfold plane_Valid.j0
      repeat' first
      | (with_reducible exact ih0 _ _ _ _ _)
      | (with_reducible exact ih1 _ _ _ _ _ _ _)
      | (with_reducible exact LeO.refl _)
      | (with_reducible exact LeO.none _)
      | (with_reducible refine LeO.ite ?_ ?_)
      | (with_reducible refine LeO.bind ?_ (fun _ => ?_))
      | exact ih0 _ _ _ _ _
      | exact ih1 _ _ _ _ _ _ _
      | exact LeO.none _
      | refine LeO.ite ?_ ?_
      | refine LeO.bind ?_ (fun _ => ?_)
    · intro y0 y1 y2 y3 y4 y5 y6
      unfold plane_Valid.l0
      repeat' first
      | (with_reducible exact ih0 _ _ _ _ _)
      | (with_reducible exact ih1 _ _ _ _ _ _ _)
      | (with_reducible exact LeO.refl _)
      | (with_reducible exact LeO.none _)
      | (with_reducible refine LeO.ite ?_ ?_)
      | (with_reducible refine LeO.bind ?_ (fun _ => ?_))
      | exact ih0 _ _ _ _ _
      | exact ih1 _ _ _ _ _ _ _
      | exact LeO.none _
      | refine LeO.ite ?_ ?_
      | refine LeO.bind ?_ (fun _ => ?_)
theorem plane_Valid.mono : ∀ a0 a1 a2 a3 k, LeO (plane_Valid.f k a0 a1 a2 a3) (plane_Valid.f (k + 1) a0 a1 a2 a3) := by
  intro a0 a1 a2 a3 k
  obtain ⟨ih0, ih1⟩ := plane_Valid.mono_l k
  unfold plane_Valid.f
  repeat' first
      | (with_reducible exact ih0 _ _ _ _ _)
      | (with_reducible exact ih1 _ _ _ _ _ _ _)
      | (with_reducible exact LeO.refl _)
      | (with_reducible exact LeO.none _)
      | (with_reducible refine LeO.ite ?_ ?_)
      | (with_reducible refine LeO.bind ?_ (fun _ => ?_))
      | exact ih0 _ _ _ _ _
      | exact ih1 _ _ _ _ _ _ _
      | exact LeO.none _
      | refine LeO.ite ?_ ?_
      | refine LeO.bind ?_ (fun _ => ?_)
set_option maxHeartbeats 8000000 in
set_option maxRecDepth 100000 in
theorem plane_Valid.calls (k : Nat) (a0_0 : Int) (a0_1 : Int) (a0_2 : Int) (A0_3 : Option Addr) (c0_3 : Nat) (l0_3 : List Int) (r : Bool) (w : World) (hr0_3 : Kd.C (Kd.int .i64) w A0_3 l0_3.length l0_3) (hc0_3 : l0_3.length ≤ c0_3) (h : plane_Valid.f k a0_0 a0_1 a0_2 l0_3 = some r) :
    Calls Try.prog 39 #[.agg #[.int .i64 a0_0, .int .i64 a0_1, .int .i64 a0_2, .slice A0_3 l0_3.length c0_3]] w fun e w' => e = .returned (.bool r) ∧ Below w.heap.size w w' := by
  have hu35 := Try.underlying35
  have HR0_3 := Aside0.mk hr0_3
  have HC0_3 := Aside0.mk hc0_3
  clear hr0_3 hc0_3
  have HB := Aside0.mk (Below.refl w.heap.size w)
  have H : ((plane_size.f a0_0 a0_1 a0_2).bind fun t167 => (if t167 = true then (plane_Valid.j0 k ((l0_3.length : Int) != (wrap64 (a0_0 * a0_1))) a0_0 a0_1 a0_2 l0_3) else (plane_Valid.j0 k true a0_0 a0_1 a0_2 l0_3))) = some r := h
  clear h
  have HC2 := Aside0.mk H
  clear H
  go_enter Try.func39, Try.ntmps39
  go_upto_region 1 with (first | ((with_reducible refine gate_dst (N := 1) rfl ?_); (try (refine gate_guard (by rfl) ?_; dsimp only)); refine box_event ?hg (N := 1) ?hd (cs := #[.int .i64 a0_0, .int .i64 a0_1, .int .i64 a0_2, .slice A0_3 l0_3.length c0_3]) (t := 35) ?hr ?_; (case hd => rfl); (case hg => rfl); (case hr => first | (go_simp; done) | (go_simp; rfl)); intro gb166 hg w3 hbox hb; have n0_ := Aside0.mk (below_step q62_ hb); have n1_ := Aside0.mk (hbox); have n2_ := Aside0.mk ((q40_ : w.heap.size ≤ gb166)); have n3_ := Aside0.mk ((q40_ : w.heap.size ≤ gb166)); clear HB; have HB := n0_; have BK166 := n1_; have GW166 := n2_; have GE166 := n3_; clear n0_ n1_ n2_ n3_; clear hb hbox hg))
  (try simp only [Act.put, List.setIfInBounds_toArray, List.set_cons_zero, List.set_cons_succ])
  go_cut [23] (fun v23 wc => ∃ (kq : Nat) (x23_1 : Bool), v23 = .bool x23_1 ∧ Aside0 (plane_Valid.j0 kq x23_1 a0_0 a0_1 a0_2 l0_3 = some r) ∧ Aside0 (kq ≤ k) ∧ Aside0 (wc.heap[gb166]? = some (.cells #[.int .i64 a0_0, .int .i64 a0_1, .int .i64 a0_2, (.slice A0_3 l0_3.length c0_3)] 35 (0, 0))) ∧ Aside0 (Below w.heap.size w wc))
  case first =>
    have H := HC2.out
    clear HC2
    replace H := Option.bind_eq_some_iff.mp H
    obtain ⟨t167, A40, H⟩ := H
    replace H : (if t167 = true then (plane_Valid.j0 k ((l0_3.length : Int) != (wrap64 (a0_0 * a0_1))) a0_0 a0_1 a0_2 l0_3) else (plane_Valid.j0 k true a0_0 a0_1 a0_2 l0_3)) = some r := H
    have A4 := Aside0.mk A40
    clear A40
    by_cases c5 : t167 = true
    · subst c5
      have H1 : (plane_Valid.j0 k ((l0_3.length : Int) != (wrap64 (a0_0 * a0_1))) a0_0 a0_1 a0_2 l0_3) = some r := by rw [if_pos rfl] at H; exact H
      clear H
      have H := H1
      clear H1
      have H' := Aside0.mk H
      clear H
      have hcz6_0 : w3.cell? ⟨gb166, 0, none⟩ = some (.int .i64 a0_0) := (blk_cell BK166.out 0).trans rfl
      have hcz6_1 : w3.cell? ⟨gb166, 1, none⟩ = some (.int .i64 a0_1) := (blk_cell BK166.out 1).trans rfl
      have hcz6_2 : w3.cell? ⟨gb166, 2, none⟩ = some (.int .i64 a0_2) := (blk_cell BK166.out 2).trans rfl
      have hcz6_3 : w3.cell? ⟨gb166, 3, none⟩ = some (.slice A0_3 l0_3.length c0_3) := (blk_cell BK166.out 3).trans rfl
      have hfz6_0 := blk_frozen BK166.out 0
      have hfz6_1 := blk_frozen BK166.out 1
      have hfz6_2 := blk_frozen BK166.out 2
      have hfz6_3 := blk_frozen BK166.out 3
      go_wp2_with (first | ((with_reducible refine gate_callee (f := 65) rfl ?_); refine goesL_ (some 11) rfl rfl Try.func65 (by kernel_rfl) rfl #[.int .i64 a0_0, .int .i64 a0_1, .int .i64 a0_2] rfl q60_ ?_; (with_reducible refine (plane_size.calls a0_0 a0_1 a0_2 true _ A4.out).mono ?_); rintro e w' ⟨rfl, ⟨nd, rfl⟩⟩; refine ⟨_, rfl, ?_⟩))
      go_meet
      case rel => exact ⟨_, (((l0_3.length : Int) != (wrap64 (a0_0 * a0_1)))), q109_, H', ⟨by first | omega | exact Nat.le_refl _⟩, ⟨q64_⟩, ⟨q41_⟩⟩
    · replace c5 := Bool.eq_false_iff.mpr c5
      subst c5
      have H1 : (plane_Valid.j0 k true a0_0 a0_1 a0_2 l0_3) = some r := by rw [if_neg (show ¬ (false = true) by decide)] at H; exact H
      clear H
      have H := H1
      clear H1
      have H' := Aside0.mk H
      clear H
      have hcz7_0 : w3.cell? ⟨gb166, 0, none⟩ = some (.int .i64 a0_0) := (blk_cell BK166.out 0).trans rfl
      have hcz7_1 : w3.cell? ⟨gb166, 1, none⟩ = some (.int .i64 a0_1) := (blk_cell BK166.out 1).trans rfl
      have hcz7_2 : w3.cell? ⟨gb166, 2, none⟩ = some (.int .i64 a0_2) := (blk_cell BK166.out 2).trans rfl
      have hcz7_3 : w3.cell? ⟨gb166, 3, none⟩ = some (.slice A0_3 l0_3.length c0_3) := (blk_cell BK166.out 3).trans rfl
      have hfz7_0 := blk_frozen BK166.out 0
      have hfz7_1 := blk_frozen BK166.out 1
      have hfz7_2 := blk_frozen BK166.out 2
      have hfz7_3 := blk_frozen BK166.out 3
      go_wp2_with (first | ((with_reducible refine gate_callee (f := 65) rfl ?_); refine goesL_ (some 11) rfl rfl Try.func65 (by kernel_rfl) rfl #[.int .i64 a0_0, .int .i64 a0_1, .int .i64 a0_2] rfl q60_ ?_; (with_reducible refine (plane_size.calls a0_0 a0_1 a0_2 false _ A4.out).mono ?_); rintro e w' ⟨rfl, ⟨nd, rfl⟩⟩; refine ⟨_, rfl, ?_⟩))
      go_meet
      case rel => exact ⟨_, (true), q109_, H', ⟨by first | omega | exact Nat.le_refl _⟩, ⟨q64_⟩, ⟨q41_⟩⟩
  case rest =>
    clear HC2
    try clear p2
    try clear c3
    try clear c5
    try clear c6
    try clear p6
    try clear hcz6_0
    try clear hcz6_1
    try clear hcz6_2
    try clear hcz6_3
    try clear hcz7_0
    try clear hcz7_1
    try clear hcz7_2
    try clear hcz7_3
    try clear hfz6_0
    try clear hfz6_1
    try clear hfz6_2
    try clear hfz6_3
    try clear hfz7_0
    try clear hfz7_1
    try clear hfz7_2
    try clear hfz7_3
    obtain ⟨kq, x23_1, rfl, HA, HJ1, BK166, HB⟩ := hcut
    cases kq with
    | zero => exact absurd HA.out (by simp [plane_Valid.j0])
    | succ kj1 =>
      have H := HA.out
      clear HA
      simp only [plane_Valid.j0] at H
      by_cases c8 : x23_1 = true
      · subst c8
        have H1 : (some false) = some r := by rw [if_pos rfl] at H; exact H
        clear H
        have H := H1
        clear H1
        obtain rfl := Option.some.inj H
        go_wp2
        go_ret
        exact ⟨q103_, q41_⟩
      · replace c8 := Bool.eq_false_iff.mpr c8
        subst c8
        have H1 : (plane_Valid.l0 kj1 l0_3 (l0_3.length : Int) 0 a0_0 a0_1 a0_2 l0_3) = some r := by rw [if_neg (show ¬ (false = true) by decide)] at H; exact H
        clear H
        have H := H1
        clear H1
        have H' := Aside0.mk H
        clear H
        have hcz9_0 : wc.cell? ⟨gb166, 0, none⟩ = some (.int .i64 a0_0) := (blk_cell BK166.out 0).trans rfl
        have hcz9_1 : wc.cell? ⟨gb166, 1, none⟩ = some (.int .i64 a0_1) := (blk_cell BK166.out 1).trans rfl
        have hcz9_2 : wc.cell? ⟨gb166, 2, none⟩ = some (.int .i64 a0_2) := (blk_cell BK166.out 2).trans rfl
        have hcz9_3 : wc.cell? ⟨gb166, 3, none⟩ = some (.slice A0_3 l0_3.length c0_3) := (blk_cell BK166.out 3).trans rfl
        have hfz9_0 := blk_frozen BK166.out 0
        have hfz9_1 := blk_frozen BK166.out 1
        have hfz9_2 := blk_frozen BK166.out 2
        have hfz9_3 := blk_frozen BK166.out 3
        go_wp2
        go_loopg [27] kj1 (fun kq v27 w' => ∃ (x27_2 : Int), v27 = .int .i64 x27_2 ∧ Aside0 (plane_Valid.l0 kq l0_3 (l0_3.length : Int) x27_2 a0_0 a0_1 a0_2 l0_3 = some r) ∧ Aside0 (kq ≤ kj1) ∧ Aside0 (w'.heap[gb166]? = some (.cells #[.int .i64 a0_0, .int .i64 a0_1, .int .i64 a0_2, (.slice A0_3 l0_3.length c0_3)] 35 (0, 0))) ∧ Aside0 (Below w.heap.size w w'))
        case atStart => exact ⟨(0), q109_, H', ⟨Nat.le_refl _⟩, ⟨q64_⟩, ⟨q41_⟩⟩
        case round =>
          clear H'
          try clear p2
          try clear c3
          try clear c5
          try clear c6
          try clear p6
          try clear c8
          try clear hcz6_0
          try clear hcz6_1
          try clear hcz6_2
          try clear hcz6_3
          try clear hcz7_0
          try clear hcz7_1
          try clear hcz7_2
          try clear hcz7_3
          try clear hcz9_0
          try clear hcz9_1
          try clear hcz9_2
          try clear hcz9_3
          try clear hfz6_0
          try clear hfz6_1
          try clear hfz6_2
          try clear hfz6_3
          try clear hfz7_0
          try clear hfz7_1
          try clear hfz7_2
          try clear hfz7_3
          try clear hfz9_0
          try clear hfz9_1
          try clear hfz9_2
          try clear hfz9_3
          try clear p2
          try clear p6
          obtain ⟨x27_2, rfl, HA, HK2, BK166, HB⟩ := hrel
          cases gk with
          | zero => exact absurd HA.out (by simp [plane_Valid.l0])
          | succ k2 =>
            have H := HA.out
            clear HA
            simp only [plane_Valid.l0] at H
            by_cases c10 : x27_2 < (l0_3.length : Int)
            · rw [if_pos c10] at H
              have c10b0 : decide (x27_2 < (l0_3.length : Int)) = true := decide_eq_true c10
              clear c10
              by_cases c11 : 0 ≤ x27_2
              · rw [if_pos c11] at H
                have c11b0 : decide (0 ≤ x27_2) = true := decide_eq_true c11
                clear c11
                by_cases c12 : x27_2 < (l0_3.length : Int)
                · rw [if_pos c12] at H
                  have c12b0 : decide (x27_2 < (l0_3.length : Int)) = true := decide_eq_true c12
                  clear c12
                  by_cases c13 : (rd l0_3 x27_2) < 0
                  · rw [if_pos c13] at H
                    have c13b0 : decide ((rd l0_3 x27_2) < 0) = true := decide_eq_true c13
                    clear c13
                    obtain rfl := Option.some.inj H
                    have p168 : 0 ≤ (x27_2 : Int) := of_decide_eq_true q108_
                    have q168 : x27_2 < (l0_3.length : Int) := of_decide_eq_true q108_
                    obtain ⟨ad168, e168, hx168_0⟩ := Kd.at_int HR0_3.out x27_2 p168 q168
                    cases e168
                    replace hx168_0 := (HB.out.cell (World.block_lt_of_cell? w _ hx168_0)).trans hx168_0
                    replace p168 := eq_true p168
                    replace q168 := eq_true q168
                    go_wp2
                    go_ret
                    exact ⟨q103_, q41_⟩
                  · rw [if_neg c13] at H
                    have c13b0 : decide ((rd l0_3 x27_2) < 0) = false := decide_eq_false c13
                    clear c13
                    by_cases c14 : (rd l0_3 x27_2) > a0_2
                    · rw [if_pos c14] at H
                      have c14b0 : decide (a0_2 < (rd l0_3 x27_2)) = true := decide_eq_true c14
                      clear c14
                      obtain rfl := Option.some.inj H
                      have p168 : 0 ≤ (x27_2 : Int) := of_decide_eq_true q108_
                      have q168 : x27_2 < (l0_3.length : Int) := of_decide_eq_true q108_
                      obtain ⟨ad168, e168, hx168_0⟩ := Kd.at_int HR0_3.out x27_2 p168 q168
                      cases e168
                      replace hx168_0 := (HB.out.cell (World.block_lt_of_cell? w _ hx168_0)).trans hx168_0
                      replace p168 := eq_true p168
                      replace q168 := eq_true q168
                      have hcz15_0 : wr.cell? ⟨gb166, 0, none⟩ = some (.int .i64 a0_0) := (blk_cell BK166.out 0).trans rfl
                      have hcz15_1 : wr.cell? ⟨gb166, 1, none⟩ = some (.int .i64 a0_1) := (blk_cell BK166.out 1).trans rfl
                      have hcz15_2 : wr.cell? ⟨gb166, 2, none⟩ = some (.int .i64 a0_2) := (blk_cell BK166.out 2).trans rfl
                      have hcz15_3 : wr.cell? ⟨gb166, 3, none⟩ = some (.slice (some ad168) l0_3.length c0_3) := (blk_cell BK166.out 3).trans rfl
                      have hfz15_0 := blk_frozen BK166.out 0
                      have hfz15_1 := blk_frozen BK166.out 1
                      have hfz15_2 := blk_frozen BK166.out 2
                      have hfz15_3 := blk_frozen BK166.out 3
                      go_wp2
                      go_ret
                      exact ⟨q103_, q41_⟩
                    · rw [if_neg c14] at H
                      have c14b0 : decide (a0_2 < (rd l0_3 x27_2)) = false := decide_eq_false c14
                      clear c14
                      have H' := Aside0.mk H
                      clear H
                      have p168 : 0 ≤ (x27_2 : Int) := of_decide_eq_true q108_
                      have q168 : x27_2 < (l0_3.length : Int) := of_decide_eq_true q108_
                      obtain ⟨ad168, e168, hx168_0⟩ := Kd.at_int HR0_3.out x27_2 p168 q168
                      cases e168
                      replace hx168_0 := (HB.out.cell (World.block_lt_of_cell? w _ hx168_0)).trans hx168_0
                      replace p168 := eq_true p168
                      replace q168 := eq_true q168
                      have hcz16_0 : wr.cell? ⟨gb166, 0, none⟩ = some (.int .i64 a0_0) := (blk_cell BK166.out 0).trans rfl
                      have hcz16_1 : wr.cell? ⟨gb166, 1, none⟩ = some (.int .i64 a0_1) := (blk_cell BK166.out 1).trans rfl
                      have hcz16_2 : wr.cell? ⟨gb166, 2, none⟩ = some (.int .i64 a0_2) := (blk_cell BK166.out 2).trans rfl
                      have hcz16_3 : wr.cell? ⟨gb166, 3, none⟩ = some (.slice (some ad168) l0_3.length c0_3) := (blk_cell BK166.out 3).trans rfl
                      have hfz16_0 := blk_frozen BK166.out 0
                      have hfz16_1 := blk_frozen BK166.out 1
                      have hfz16_2 := blk_frozen BK166.out 2
                      have hfz16_3 := blk_frozen BK166.out 3
                      go_wp2
                      go_roundg k2
                      case measure => have := HJ1.out; have := HK2.out; omega
                      case rel => exact ⟨(wrap64 (x27_2 + 1)), q109_, H', ⟨by have := HJ1.out; have := HK2.out; omega⟩, ⟨q64_⟩, ⟨q41_⟩⟩
                · rw [if_neg c12] at H
                  exact absurd H (by simp)
              · rw [if_neg c11] at H
                exact absurd H (by simp)
            · rw [if_neg c10] at H
              have c10b0 : decide (x27_2 < (l0_3.length : Int)) = false := decide_eq_false c10
              clear c10
              obtain rfl := Option.some.inj H
              go_wp2
              go_ret
              exact ⟨q103_, q41_⟩

end Go.Proofs.Ytcfllciehmgikaa.PSeparableChecks
