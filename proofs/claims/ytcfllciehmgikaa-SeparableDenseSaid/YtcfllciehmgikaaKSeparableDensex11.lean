-- Written by a program of the session (wip/tools/pack.py): the printed texts, pruned; checked by Lean.
import Derived.Test.YtcfllciehmgikaaKSeparableDensea
import Derived.Test.YtcfllciehmgikaaKSeparableDensex0
import Derived.Test.YtcfllciehmgikaaKSeparableDensex2
import Derived.Test.YtcfllciehmgikaaKSeparableDensex3
import Derived.Test.YtcfllciehmgikaaKSeparableDensex6
import Derived.Test.YtcfllciehmgikaaKSeparableDensex10
namespace Go.Proofs.Ytcfllciehmgikaa.PSeparableDense
open Go.RowKit Go.Proofs.YtcfllciehmgikaaW.PrintWords Go.Proofs.YtcfllciehmgikaaW.PrintLast Go.Proofs.YtcfllciehmgikaaW.PrintMore
attribute [local go_sem] max2_int min2_int max_two min_two max_three min_three max_four min_four   -- for this text's walks alone
set_option linter.unusedVariables false
set_option linter.unusedSimpArgs false
mutual
def convolve_Check.j0 : Nat → Int → List Int → Int → Int → Bool → Option (Int)
 | 0, _, _, _, _, _ => none
 | k + 1, x0, x3, x4, x5, x31 => if x31 = true then (some 9) else ((fixed_Weights.f k x3).bind fun t295 => (if t295 = 0 then (if x4 < 0 then (convolve_Check.j1 k x0 x3 x5 true) else (convolve_Check.j1 k x0 x3 x5 (decide (x4 > 24)))) else (convolve_Check.j1 k x0 x3 x5 true)))
def convolve_Check.j1 : Nat → Int → List Int → Int → Bool → Option (Int)
 | 0, _, _, _, _ => none
 | k + 1, x0, x3, x5, x42 => if x42 = true then (some 10) else ((convolve_value.f x0).bind fun t296 => (if t296 = true then ((convolve_value.f x5).bind fun t297 => (convolve_Check.j2 k x0 x3 (!t297))) else (convolve_Check.j2 k x0 x3 true)))
def convolve_Check.j2 : Nat → Int → List Int → Bool → Option (Int)
 | 0, _, _, _ => none
 | k + 1, x0, x3, x50 => if x50 = true then (some 2) else ((fixed_Bounds.f k x3 0 x0).bind fun bt298 => (if bt298.2.2 = true then (some 0) else (some 11)))
end
def convolve_Check.f (k : Nat) (a0 : Int) (a1 : Int) (a2 : Int) (l3 : List Int) (a4 : Int) (a5 : Int) : Option (Int) := (convolve_kernel.f a1).bind fun t293 => (if t293 = true then ((convolve_kernel.f a2).bind fun t294 => (if t294 = true then (convolve_Check.j0 k a0 l3 a4 a5 ((l3.length : Int) != (wrap64 (a1 * a2)))) else (convolve_Check.j0 k a0 l3 a4 a5 true))) else (convolve_Check.j0 k a0 l3 a4 a5 true))
theorem convolve_Check.mono_l : ∀ k, (∀ y0 y1 y2 y3 y4, LeO (convolve_Check.j0 k y0 y1 y2 y3 y4) (convolve_Check.j0 (k + 1) y0 y1 y2 y3 y4)) ∧ (∀ y0 y1 y2 y3, LeO (convolve_Check.j1 k y0 y1 y2 y3) (convolve_Check.j1 (k + 1) y0 y1 y2 y3)) ∧ (∀ y0 y1 y2, LeO (convolve_Check.j2 k y0 y1 y2) (convolve_Check.j2 (k + 1) y0 y1 y2))
 | 0 => ⟨fun _ _ _ _ _ r h => by simp [convolve_Check.j0] at h, fun _ _ _ _ r h => by simp [convolve_Check.j1] at h, fun _ _ _ r h => by simp [convolve_Check.j2] at h⟩
 | k + 1 => by
  obtain ⟨ih0, ih1, ih2⟩ := convolve_Check.mono_l k; refine ⟨?_, ?_, ?_⟩
  ·intro y0 y1 y2 y3 y4
   unfold convolve_Check.j0
   repeat' first
   | (with_reducible exact ih0 _ _ _ _ _)
   | (with_reducible exact ih1 _ _ _ _)
   | (with_reducible exact ih2 _ _ _)
   | (with_reducible exact fixed_Bounds.mono _ _ _ _)
   | (with_reducible exact fixed_Weights.mono _ _)
   | (with_reducible exact LeO.refl _)
   | (with_reducible exact LeO.none _)
   | (with_reducible refine LeO.ite ?_ ?_)
   | (with_reducible refine LeO.bind ?_ (fun _ => ?_))
   | exact ih0 _ _ _ _ _
   | exact ih1 _ _ _ _
   | exact ih2 _ _ _
   | exact fixed_Bounds.mono _ _ _ _
   | exact fixed_Weights.mono _ _
   | exact LeO.none _
   | refine LeO.ite ?_ ?_
   | refine LeO.bind ?_ (fun _ => ?_)
  ·intro y0 y1 y2 y3
   unfold convolve_Check.j1
   repeat' first
   | (with_reducible exact ih0 _ _ _ _ _)
   | (with_reducible exact ih1 _ _ _ _)
   | (with_reducible exact ih2 _ _ _)
   | (with_reducible exact fixed_Bounds.mono _ _ _ _)
   | (with_reducible exact fixed_Weights.mono _ _)
   | (with_reducible exact LeO.refl _)
   | (with_reducible exact LeO.none _)
   | (with_reducible refine LeO.ite ?_ ?_)
   | (with_reducible refine LeO.bind ?_ (fun _ => ?_))
   | exact ih0 _ _ _ _ _
   | exact ih1 _ _ _ _
   | exact ih2 _ _ _
   | exact fixed_Bounds.mono _ _ _ _
   | exact fixed_Weights.mono _ _
   | exact LeO.none _
   | refine LeO.ite ?_ ?_
   | refine LeO.bind ?_ (fun _ => ?_)
  ·intro y0 y1 y2
   unfold convolve_Check.j2
   repeat' first
   | (with_reducible exact ih0 _ _ _ _ _)
   | (with_reducible exact ih1 _ _ _ _)
   | (with_reducible exact ih2 _ _ _)
   | (with_reducible exact fixed_Bounds.mono _ _ _ _)
   | (with_reducible exact fixed_Weights.mono _ _)
   | (with_reducible exact LeO.refl _)
   | (with_reducible exact LeO.none _)
   | (with_reducible refine LeO.ite ?_ ?_)
   | (with_reducible refine LeO.bind ?_ (fun _ => ?_))
   | exact ih0 _ _ _ _ _
   | exact ih1 _ _ _ _
   | exact ih2 _ _ _
   | exact fixed_Bounds.mono _ _ _ _
   | exact fixed_Weights.mono _ _
   | exact LeO.none _
   | refine LeO.ite ?_ ?_
   | refine LeO.bind ?_ (fun _ => ?_)
theorem convolve_Check.mono : ∀ a0 a1 a2 a3 a4 a5 k, LeO (convolve_Check.f k a0 a1 a2 a3 a4 a5) (convolve_Check.f (k + 1) a0 a1 a2 a3 a4 a5) := by
 intro a0 a1 a2 a3 a4 a5 k; obtain ⟨ih0, ih1, ih2⟩ := convolve_Check.mono_l k; unfold convolve_Check.f
 repeat' first
   | (with_reducible exact ih0 _ _ _ _ _)
   | (with_reducible exact ih1 _ _ _ _)
   | (with_reducible exact ih2 _ _ _)
   | (with_reducible exact fixed_Bounds.mono _ _ _ _)
   | (with_reducible exact fixed_Weights.mono _ _)
   | (with_reducible exact LeO.refl _)
   | (with_reducible exact LeO.none _)
   | (with_reducible refine LeO.ite ?_ ?_)
   | (with_reducible refine LeO.bind ?_ (fun _ => ?_))
   | exact ih0 _ _ _ _ _
   | exact ih1 _ _ _ _
   | exact ih2 _ _ _
   | exact fixed_Bounds.mono _ _ _ _
   | exact fixed_Weights.mono _ _
   | exact LeO.none _
   | refine LeO.ite ?_ ?_
   | refine LeO.bind ?_ (fun _ => ?_)
set_option maxHeartbeats 8000000 in
set_option maxRecDepth 100000 in
theorem convolve_Check.calls (k : Nat) (a0 : Int) (a1 : Int) (a2 : Int) (A3 : Option Addr) (c3 : Nat) (l3 : List Int) (a4 : Int) (a5 : Int) (r : Int) (w : World) (hr3 : Kd.C (Kd.int .i64) w A3 l3.length l3) (hc3 : l3.length ≤ c3) (h : convolve_Check.f k a0 a1 a2 l3 a4 a5 = some r) :
  Calls Try.prog 58 #[.int .i64 a0, .int .i64 a1, .int .i64 a2, .slice A3 l3.length c3, .int .i64 a4, .int .i64 a5] w fun e w' => e = .returned (.int .i64 r) ∧ Below w.heap.size w w' := by
 have HR3 := am_ hr3; have HC3 := am_ hc3; clear hr3 hc3; have HB := am_ (Below.refl w.heap.size w); have H : ((convolve_kernel.f a1).bind fun t293 => (if t293 = true then ((convolve_kernel.f a2).bind fun t294 => (if t294 = true then (convolve_Check.j0 k a0 l3 a4 a5 ((l3.length : Int) != (wrap64 (a1 * a2)))) else (convolve_Check.j0 k a0 l3 a4 a5 true))) else (convolve_Check.j0 k a0 l3 a4 a5 true))) = some r := h; clear h; have HC7 := am_ H; clear H
 go_enter Try.func58, Try.ntmps58
 go_upto_region 1 with (fail)
 go_cut [31] (fun v31 wc => ∃ (kq : Nat) (x31_6 : Bool), v31 = .bool x31_6 ∧ Aside0 (convolve_Check.j0 kq a0 l3 a4 a5 x31_6 = some r) ∧ Aside0 (kq ≤ k) ∧ Aside0 (Below w.heap.size w wc))
 case first =>
  have H := HC7.out; clear HC7; replace H := Option.bind_eq_some_iff.mp H; obtain ⟨t293, A80, H⟩ := H; replace H : (if t293 = true then ((convolve_kernel.f a2).bind fun t294 => (if t294 = true then (convolve_Check.j0 k a0 l3 a4 a5 ((l3.length : Int) != (wrap64 (a1 * a2)))) else (convolve_Check.j0 k a0 l3 a4 a5 true))) else (convolve_Check.j0 k a0 l3 a4 a5 true)) = some r := H; have A8 := am_ A80; clear A80
  by_cases c9 : t293 = true
  ·subst c9
   have H1 : ((convolve_kernel.f a2).bind fun t294 => (if t294 = true then (convolve_Check.j0 k a0 l3 a4 a5 ((l3.length : Int) != (wrap64 (a1 * a2)))) else (convolve_Check.j0 k a0 l3 a4 a5 true))) = some r := by rw [if_pos rfl] at H; exact H
   clear H; have H := H1; clear H1; replace H := Option.bind_eq_some_iff.mp H; obtain ⟨t294, A100, H⟩ := H; replace H : (if t294 = true then (convolve_Check.j0 k a0 l3 a4 a5 ((l3.length : Int) != (wrap64 (a1 * a2)))) else (convolve_Check.j0 k a0 l3 a4 a5 true)) = some r := H; have A10 := am_ A100; clear A100
   by_cases c11 : t294 = true
   ·subst c11
    have H1 : (convolve_Check.j0 k a0 l3 a4 a5 ((l3.length : Int) != (wrap64 (a1 * a2)))) = some r := by rw [if_pos rfl] at H; exact H
    clear H; have H := H1; clear H1; have H' := am_ H; clear H
    go_wp2_with (first | ((with_reducible refine gate_callee (f := 73) rfl ?_); refine goesL_ (some 17) rfl rfl Try.func73 (by kernel_rfl) rfl #[.int .i64 a1] rfl q115_ ?_; (with_reducible refine (convolve_kernel.calls a1 true _ A8.out).mono ?_); rintro e w' ⟨rfl, ⟨nd, rfl⟩⟩; refine ⟨_, rfl, ?_⟩) | (go_at_call 73; (with_reducible refine (convolve_kernel.calls a2 true _ A10.out).mono ?_); rintro e w' ⟨rfl, ⟨nd, rfl⟩⟩))
    go_meet
    case rel => exact ⟨_, (((l3.length : Int) != (wrap64 (a1 * a2)))), q190_, H', ⟨by first | omega | exact Nat.le_refl _⟩, ⟨q119_⟩⟩
   ·replace c11 := Bool.eq_false_iff.mpr c11
    subst c11; have H1 : (convolve_Check.j0 k a0 l3 a4 a5 true) = some r := by rw [if_neg (show ¬ (false = true) by decide)] at H; exact H
    clear H; have H := H1; clear H1; have H' := am_ H; clear H
    go_wp2_with (first | ((with_reducible refine gate_callee (f := 73) rfl ?_); refine goesL_ (some 17) rfl rfl Try.func73 (by kernel_rfl) rfl #[.int .i64 a1] rfl q115_ ?_; (with_reducible refine (convolve_kernel.calls a1 true _ A8.out).mono ?_); rintro e w' ⟨rfl, ⟨nd, rfl⟩⟩; refine ⟨_, rfl, ?_⟩) | (go_at_call 73; (with_reducible refine (convolve_kernel.calls a2 false _ A10.out).mono ?_); rintro e w' ⟨rfl, ⟨nd, rfl⟩⟩))
    go_meet
    case rel => exact ⟨_, (true), q190_, H', ⟨by first | omega | exact Nat.le_refl _⟩, ⟨q119_⟩⟩
  ·replace c9 := Bool.eq_false_iff.mpr c9
   subst c9; have H1 : (convolve_Check.j0 k a0 l3 a4 a5 true) = some r := by rw [if_neg (show ¬ (false = true) by decide)] at H; exact H
   clear H; have H := H1; clear H1; have H' := am_ H; clear H
   go_wp2_with (first | ((with_reducible refine gate_callee (f := 73) rfl ?_); refine goesL_ (some 17) rfl rfl Try.func73 (by kernel_rfl) rfl #[.int .i64 a1] rfl q115_ ?_; (with_reducible refine (convolve_kernel.calls a1 false _ A8.out).mono ?_); rintro e w' ⟨rfl, ⟨nd, rfl⟩⟩; refine ⟨_, rfl, ?_⟩))
   go_meet
   case rel => exact ⟨_, (true), q190_, H', ⟨by first | omega | exact Nat.le_refl _⟩, ⟨q119_⟩⟩
 case rest =>
  clear HC7; (try clear c1); (try clear p2); (try clear c3); (try clear c5); (try clear p6); (try clear c7); (try clear c9); (try clear c11); obtain ⟨kq, x31_6, rfl, HA, HJ6, HB⟩ := hcut; cases kq with
  | zero => exact absurd HA.out (by simp [convolve_Check.j0])
  | succ kj6 =>
   have H := HA.out; clear HA; simp only [convolve_Check.j0] at H
   by_cases c12 : x31_6 = true
   ·subst c12
    have H1 : (some 9) = some r := by rw [if_pos rfl] at H; exact H
    clear H; have H := H1; clear H1; obtain rfl := Option.some.inj H
    go_wp2
    go_ret
    exact ⟨q182_, q119_⟩
   ·replace c12 := Bool.eq_false_iff.mpr c12
    subst c12; have H1 : ((fixed_Weights.f kj6 l3).bind fun t295 => (if t295 = 0 then (if a4 < 0 then (convolve_Check.j1 kj6 a0 l3 a5 true) else (convolve_Check.j1 kj6 a0 l3 a5 (decide (a4 > 24)))) else (convolve_Check.j1 kj6 a0 l3 a5 true))) = some r := by rw [if_neg (show ¬ (false = true) by decide)] at H; exact H
    clear H; have H := H1; clear H1; have HC13 := am_ H; clear H
    go_upto_region 3 with (fail)
    go_cut [42] (fun v42 wc => ∃ (kq : Nat) (x42_12 : Bool), v42 = .bool x42_12 ∧ Aside0 (convolve_Check.j1 kq a0 l3 a5 x42_12 = some r) ∧ Aside0 (kq ≤ kj6) ∧ Aside0 (Below w.heap.size w wc))
    case first =>
     have H := HC13.out; clear HC13; replace H := Option.bind_eq_some_iff.mp H; obtain ⟨t295, A140, H⟩ := H; replace H : (if t295 = 0 then (if a4 < 0 then (convolve_Check.j1 kj6 a0 l3 a5 true) else (convolve_Check.j1 kj6 a0 l3 a5 (decide (a4 > 24)))) else (convolve_Check.j1 kj6 a0 l3 a5 true)) = some r := H; have A14 := am_ A140; clear A140
     by_cases c15 : t295 = 0
     ·rw [if_pos c15] at H
      have c15b0 : (t295 == 0) = true := beq_iff_eq.mpr c15; have c15b1 : (t295 != 0) = false := bne_eq_false_iff_eq.mpr c15; clear c15; (first | rw [c15b0] | (simp only [i64_w, i32_w]; rw [c15b0]) | skip)
      by_cases c16 : a4 < 0
      ·rw [if_pos c16] at H
       have c16b0 : decide (a4 < 0) = true := decide_eq_true c16; clear c16; have H' := am_ H; clear H
       go_wp2_with (first | ((with_reducible refine gate_callee (f := 27) rfl ?_); refine goesL_ (some 33) rfl rfl Try.func27 (by kernel_rfl) rfl #[.slice A3 l3.length c3] rfl q115_ ?_; (with_reducible refine (fixed_Weights.calls kj6 _ _ l3 t295 _ ?side1 ?side2 A14.out).mono ?_); (case side1 => repeat (first | exact (Kd.C_below HR3.out HB.out) | (with_reducible refine Kd.C_alloc ?_ _) | (with_reducible refine Kd.C_drewN ?_ _) | (with_reducible refine Kd.C_drew ?_))); (case side2 => exact HC3.out); rintro e w' ⟨rfl, ⟨nd, rfl⟩⟩; refine ⟨_, rfl, ?_⟩))
       go_meet
       case rel => exact ⟨_, (true), q190_, H', ⟨q187_⟩, ⟨q119_⟩⟩
      ·rw [if_neg c16] at H
       have c16b0 : decide (a4 < 0) = false := decide_eq_false c16; clear c16; have H' := am_ H; clear H
       go_wp2_with (first | ((with_reducible refine gate_callee (f := 27) rfl ?_); refine goesL_ (some 33) rfl rfl Try.func27 (by kernel_rfl) rfl #[.slice A3 l3.length c3] rfl q115_ ?_; (with_reducible refine (fixed_Weights.calls kj6 _ _ l3 t295 _ ?side1 ?side2 A14.out).mono ?_); (case side1 => repeat (first | exact (Kd.C_below HR3.out HB.out) | (with_reducible refine Kd.C_alloc ?_ _) | (with_reducible refine Kd.C_drewN ?_ _) | (with_reducible refine Kd.C_drew ?_))); (case side2 => exact HC3.out); rintro e w' ⟨rfl, ⟨nd, rfl⟩⟩; refine ⟨_, rfl, ?_⟩))
       go_meet
       case rel => exact ⟨_, (decide (a4 > 24)), q190_, H', ⟨q187_⟩, ⟨q119_⟩⟩
     ·rw [if_neg c15] at H
      have c15b0 : (t295 == 0) = false := beq_eq_false_iff_ne.mpr c15; have c15b1 : (t295 != 0) = true := bne_iff_ne.mpr c15; (first | rw [c15b0] | (simp only [i64_w, i32_w]; rw [c15b0]) | skip); have H' := am_ H; clear H
      go_wp2_with (first | ((with_reducible refine gate_callee (f := 27) rfl ?_); refine goesL_ (some 33) rfl rfl Try.func27 (by kernel_rfl) rfl #[.slice A3 l3.length c3] rfl q115_ ?_; (with_reducible refine (fixed_Weights.calls kj6 _ _ l3 t295 _ ?side1 ?side2 A14.out).mono ?_); (case side1 => repeat (first | exact (Kd.C_below HR3.out HB.out) | (with_reducible refine Kd.C_alloc ?_ _) | (with_reducible refine Kd.C_drewN ?_ _) | (with_reducible refine Kd.C_drew ?_))); (case side2 => exact HC3.out); rintro e w' ⟨rfl, ⟨nd, rfl⟩⟩; refine ⟨_, rfl, ?_⟩))
      go_meet
      case rel => exact ⟨_, (true), q190_, H', ⟨q187_⟩, ⟨q119_⟩⟩
    case rest =>
     clear HC13; (try clear c1); (try clear c2); (try clear p2); (try clear c3); (try clear c5); (try clear p6); (try clear c7); (try clear c9); (try clear c11); (try clear c12); (try clear c15); (try clear c15b0); (try clear c15b1); (try clear c16); (try clear c16b0); (try clear p2); (try clear p6); obtain ⟨kq, x42_12, rfl, HA, HJ12, HB⟩ := hcut; cases kq with
     | zero => exact absurd HA.out (by simp [convolve_Check.j1])
     | succ kj12 =>
      have H := HA.out; clear HA; simp only [convolve_Check.j1] at H
      by_cases c17 : x42_12 = true
      ·subst c17
       have H1 : (some 10) = some r := by rw [if_pos rfl] at H; exact H
       clear H; have H := H1; clear H1; obtain rfl := Option.some.inj H
       go_wp2
       go_ret
       exact ⟨q182_, q119_⟩
      ·replace c17 := Bool.eq_false_iff.mpr c17
       subst c17; have H1 : ((convolve_value.f a0).bind fun t296 => (if t296 = true then ((convolve_value.f a5).bind fun t297 => (convolve_Check.j2 kj12 a0 l3 (!t297))) else (convolve_Check.j2 kj12 a0 l3 true))) = some r := by rw [if_neg (show ¬ (false = true) by decide)] at H; exact H
       clear H; have H := H1; clear H1; have HC18 := am_ H; clear H
       go_upto_region 5 with (fail)
       go_cut [50] (fun v50 wc => ∃ (kq : Nat) (x50_17 : Bool), v50 = .bool x50_17 ∧ Aside0 (convolve_Check.j2 kq a0 l3 x50_17 = some r) ∧ Aside0 (kq ≤ kj12) ∧ Aside0 (Below w.heap.size w wc))
       case first =>
        have H := HC18.out; clear HC18; replace H := Option.bind_eq_some_iff.mp H; obtain ⟨t296, A190, H⟩ := H; replace H : (if t296 = true then ((convolve_value.f a5).bind fun t297 => (convolve_Check.j2 kj12 a0 l3 (!t297))) else (convolve_Check.j2 kj12 a0 l3 true)) = some r := H; have A19 := am_ A190; clear A190
        by_cases c20 : t296 = true
        ·subst c20
         have H1 : ((convolve_value.f a5).bind fun t297 => (convolve_Check.j2 kj12 a0 l3 (!t297))) = some r := by rw [if_pos rfl] at H; exact H
         clear H; have H := H1; clear H1; replace H := Option.bind_eq_some_iff.mp H; obtain ⟨t297, A210, H⟩ := H; replace H : (convolve_Check.j2 kj12 a0 l3 (!t297)) = some r := H; have A21 := am_ A210; clear A210; have H' := am_ H; clear H
         go_wp2_with (first | ((with_reducible refine gate_callee (f := 74) rfl ?_); refine goesL_ (some 44) rfl rfl Try.func74 (by kernel_rfl) rfl #[.int .i64 a0] rfl q115_ ?_; (with_reducible refine (convolve_value.calls a0 true _ A19.out).mono ?_); rintro e w' ⟨rfl, ⟨nd, rfl⟩⟩; refine ⟨_, rfl, ?_⟩) | (go_at_call 74; (with_reducible refine (convolve_value.calls a5 t297 _ A21.out).mono ?_); rintro e w' ⟨rfl, ⟨nd, rfl⟩⟩))
         go_meet
         case rel => exact ⟨_, (!t297), q190_, H', ⟨by have := HJ6.out; have := HJ12.out; first | omega | exact Nat.le_refl _⟩, ⟨q119_⟩⟩
        ·replace c20 := Bool.eq_false_iff.mpr c20
         subst c20; have H1 : (convolve_Check.j2 kj12 a0 l3 true) = some r := by rw [if_neg (show ¬ (false = true) by decide)] at H; exact H
         clear H; have H := H1; clear H1; have H' := am_ H; clear H
         go_wp2_with (first | ((with_reducible refine gate_callee (f := 74) rfl ?_); refine goesL_ (some 44) rfl rfl Try.func74 (by kernel_rfl) rfl #[.int .i64 a0] rfl q115_ ?_; (with_reducible refine (convolve_value.calls a0 false _ A19.out).mono ?_); rintro e w' ⟨rfl, ⟨nd, rfl⟩⟩; refine ⟨_, rfl, ?_⟩))
         go_meet
         case rel => exact ⟨_, (true), q190_, H', ⟨by have := HJ6.out; have := HJ12.out; first | omega | exact Nat.le_refl _⟩, ⟨q119_⟩⟩
       case rest =>
        clear HC18; (try clear c1); (try clear c2); (try clear p2); (try clear c3); (try clear c5); (try clear p6); (try clear c7); (try clear c9); (try clear c11); (try clear c12); (try clear c15); (try clear c15b0); (try clear c15b1); (try clear c16); (try clear c16b0); (try clear c17); (try clear c20); (try clear p2); (try clear p6); obtain ⟨kq, x50_17, rfl, HA, HJ17, HB⟩ := hcut; cases kq with
        | zero => exact absurd HA.out (by simp [convolve_Check.j2])
        | succ kj17 =>
         have H := HA.out; clear HA; simp only [convolve_Check.j2] at H
         by_cases c22 : x50_17 = true
         ·subst c22
          have H1 : (some 2) = some r := by rw [if_pos rfl] at H; exact H
          clear H; have H := H1; clear H1; obtain rfl := Option.some.inj H
          go_wp2
          go_ret
          exact ⟨q182_, q119_⟩
         ·replace c22 := Bool.eq_false_iff.mpr c22
          subst c22; have H1 : ((fixed_Bounds.f kj17 l3 0 a0).bind fun bt298 => (if bt298.2.2 = true then (some 0) else (some 11))) = some r := by rw [if_neg (show ¬ (false = true) by decide)] at H; exact H
          clear H; have H := H1; clear H1; replace H := Option.bind_eq_some_iff.mp H; obtain ⟨⟨t298, t299, t300⟩, A230, H⟩ := H; replace H : (if t300 = true then (some 0) else (some 11)) = some r := H; have A23 := am_ A230; clear A230
          by_cases c24 : t300 = true
          ·subst c24
           have H1 : (some 0) = some r := by rw [if_pos rfl] at H; exact H
           clear H; have H := H1; clear H1; obtain rfl := Option.some.inj H
           go_wp2_with (first | ((with_reducible refine gate_callee (f := 30) rfl ?_); refine goesL_ (some 54) rfl rfl Try.func30 (by kernel_rfl) rfl #[.slice A3 l3.length c3, .int .i64 0, .int .i64 a0] rfl q115_ ?_; (with_reducible refine (fixed_Bounds.calls kj17 _ _ l3 0 a0 t298 t299 true _ ?side1 ?side2 A23.out).mono ?_); (case side1 => repeat (first | exact (Kd.C_below HR3.out HB.out) | (with_reducible refine Kd.C_alloc ?_ _) | (with_reducible refine Kd.C_drewN ?_ _) | (with_reducible refine Kd.C_drew ?_))); (case side2 => exact HC3.out); rintro e w25 ⟨rfl, hb⟩; refine ⟨_, rfl, ?_⟩; have n0_ := am_ (below_step q119_ hb); clear HB; have HB := n0_; clear n0_; (try clear hb); (try clear hb2); (try clear hk); (try clear hi)))
           go_ret
           exact ⟨q182_, q119_⟩
          ·replace c24 := Bool.eq_false_iff.mpr c24
           subst c24; have H1 : (some 11) = some r := by rw [if_neg (show ¬ (false = true) by decide)] at H; exact H
           clear H; have H := H1; clear H1; obtain rfl := Option.some.inj H
           go_wp2_with (first | ((with_reducible refine gate_callee (f := 30) rfl ?_); refine goesL_ (some 54) rfl rfl Try.func30 (by kernel_rfl) rfl #[.slice A3 l3.length c3, .int .i64 0, .int .i64 a0] rfl q115_ ?_; (with_reducible refine (fixed_Bounds.calls kj17 _ _ l3 0 a0 t298 t299 false _ ?side1 ?side2 A23.out).mono ?_); (case side1 => repeat (first | exact (Kd.C_below HR3.out HB.out) | (with_reducible refine Kd.C_alloc ?_ _) | (with_reducible refine Kd.C_drewN ?_ _) | (with_reducible refine Kd.C_drew ?_))); (case side2 => exact HC3.out); rintro e w26 ⟨rfl, hb⟩; refine ⟨_, rfl, ?_⟩; have n0_ := am_ (below_step q119_ hb); clear HB; have HB := n0_; clear n0_; (try clear hb); (try clear hb2); (try clear hk); (try clear hi)))
           go_ret
           exact ⟨q182_, q119_⟩


mutual
def convolve_sum.j0 : Nat → Int → Int → List Int → Int → Int → Int → Bool → Int → Int → Int → List Int → Int → Int → Option (Int)
 | 0, _, _, _, _, _, _, _, _, _, _, _, _, _ => none
 | k + 1, x2, x3, x4, x5, x6, x15, x16, x302000, x302001, x302002, x302003, x303000, x303001 => convolve_sum.l0 k x2 x4 x5 x6 x15 x16 x3 0 x302000 x302001 x302002 x302003 x303000 x303001
def convolve_sum.l0 : Nat → Int → List Int → Int → Int → Int → Bool → Int → Int → Int → Int → Int → List Int → Int → Int → Option (Int)
 | 0, _, _, _, _, _, _, _, _, _, _, _, _, _, _ => none
 | k + 1, x2, x4, x5, x6, x15, x16, x42, x43, x302000, x302001, x302002, x302003, x303000, x303001 => if x43 < x42 then (convolve_sum.l1 k x2 x4 x5 x6 x15 x16 x43 x42 x43 x2 0 x302000 x302001 x302002 x302003 x303000 x303001) else (some x15)
def convolve_sum.l1 : Nat → Int → List Int → Int → Int → Int → Bool → Int → Int → Int → Int → Int → Int → Int → Int → List Int → Int → Int → Option (Int)
 | 0, _, _, _, _, _, _, _, _, _, _, _, _, _, _, _, _, _ => none
 | k + 1, x2, x4, x5, x6, x15, x16, x17, x42, x43, x46, x47, x302000, x302001, x302002, x302003, x303000, x303001 => if x47 < x46 then (if x16 = true then (if 0 ≤ (wrap64 ((wrap64 ((wrap64 ((wrap64 (x6 + x17)) * x302000)) + x5)) + x47)) then (if (wrap64 ((wrap64 ((wrap64 ((wrap64 (x6 + x17)) * x302000)) + x5)) + x47)) < (x302003.length : Int) then (if 0 ≤ (wrap64 ((wrap64 (x17 * x2)) + x47)) then (if (wrap64 ((wrap64 (x17 * x2)) + x47)) < (x4.length : Int) then (convolve_sum.l1 k x2 x4 x5 x6 (wrap64 (x15 + (wrap64 ((rd x4 (wrap64 ((wrap64 (x17 * x2)) + x47))) * (rd x302003 (wrap64 ((wrap64 ((wrap64 ((wrap64 (x6 + x17)) * x302000)) + x5)) + x47))))))) x16 x17 x42 x43 x46 (wrap64 (x47 + 1)) x302000 x302001 x302002 x302003 x303000 x303001) else (none)) else (none)) else (none)) else (none)) else ((plane_Pixel.f k x302000 x302001 x302002 x302003 x303000 x303001 (wrap64 (x5 + x47)) (wrap64 (x6 + x17))).bind fun t305 => (if 0 ≤ (wrap64 ((wrap64 (x17 * x2)) + x47)) then (if (wrap64 ((wrap64 (x17 * x2)) + x47)) < (x4.length : Int) then (convolve_sum.l1 k x2 x4 x5 x6 (wrap64 (x15 + (wrap64 ((rd x4 (wrap64 ((wrap64 (x17 * x2)) + x47))) * t305)))) x16 x17 x42 x43 x46 (wrap64 (x47 + 1)) x302000 x302001 x302002 x302003 x303000 x303001) else (none)) else (none)))) else (convolve_sum.l0 k x2 x4 x5 x6 x15 x16 x42 (wrap64 (x43 + 1)) x302000 x302001 x302002 x302003 x303000 x303001)
end
def convolve_sum.f (k : Nat) (a0_0 : Int) (a0_1 : Int) (a0_2 : Int) (l0_3 : List Int) (a1_0 : Int) (a1_1 : Int) (a2 : Int) (a3 : Int) (l4 : List Int) (a5 : Int) (a6 : Int) : Option (Int) := if a5 ≥ 0 then (if a6 ≥ 0 then (if (wrap64 (a5 + a2)) ≤ a0_0 then (convolve_sum.j0 k a2 a3 l4 a5 a6 0 (decide ((wrap64 (a6 + a3)) ≤ a0_1)) a0_0 a0_1 a0_2 l0_3 a1_0 a1_1) else (convolve_sum.j0 k a2 a3 l4 a5 a6 0 false a0_0 a0_1 a0_2 l0_3 a1_0 a1_1)) else (convolve_sum.j0 k a2 a3 l4 a5 a6 0 false a0_0 a0_1 a0_2 l0_3 a1_0 a1_1)) else (convolve_sum.j0 k a2 a3 l4 a5 a6 0 false a0_0 a0_1 a0_2 l0_3 a1_0 a1_1)
theorem convolve_sum.mono_l : ∀ k, (∀ y0 y1 y2 y3 y4 y5 y6 y7 y8 y9 y10 y11 y12, LeO (convolve_sum.j0 k y0 y1 y2 y3 y4 y5 y6 y7 y8 y9 y10 y11 y12) (convolve_sum.j0 (k + 1) y0 y1 y2 y3 y4 y5 y6 y7 y8 y9 y10 y11 y12)) ∧ (∀ y0 y1 y2 y3 y4 y5 y6 y7 y8 y9 y10 y11 y12 y13, LeO (convolve_sum.l0 k y0 y1 y2 y3 y4 y5 y6 y7 y8 y9 y10 y11 y12 y13) (convolve_sum.l0 (k + 1) y0 y1 y2 y3 y4 y5 y6 y7 y8 y9 y10 y11 y12 y13)) ∧ (∀ y0 y1 y2 y3 y4 y5 y6 y7 y8 y9 y10 y11 y12 y13 y14 y15 y16, LeO (convolve_sum.l1 k y0 y1 y2 y3 y4 y5 y6 y7 y8 y9 y10 y11 y12 y13 y14 y15 y16) (convolve_sum.l1 (k + 1) y0 y1 y2 y3 y4 y5 y6 y7 y8 y9 y10 y11 y12 y13 y14 y15 y16))
 | 0 => ⟨fun _ _ _ _ _ _ _ _ _ _ _ _ _ r h => by simp [convolve_sum.j0] at h, fun _ _ _ _ _ _ _ _ _ _ _ _ _ _ r h => by simp [convolve_sum.l0] at h, fun _ _ _ _ _ _ _ _ _ _ _ _ _ _ _ _ _ r h => by simp [convolve_sum.l1] at h⟩
 | k + 1 => by
  obtain ⟨ih0, ih1, ih2⟩ := convolve_sum.mono_l k; refine ⟨?_, ?_, ?_⟩
  ·intro y0 y1 y2 y3 y4 y5 y6 y7 y8 y9 y10 y11 y12
   unfold convolve_sum.j0
   repeat' first
   | (with_reducible exact ih0 _ _ _ _ _ _ _ _ _ _ _ _ _)
   | (with_reducible exact ih1 _ _ _ _ _ _ _ _ _ _ _ _ _ _)
   | (with_reducible exact ih2 _ _ _ _ _ _ _ _ _ _ _ _ _ _ _ _ _)
   | (with_reducible exact plane_Pixel.mono _ _ _ _ _ _ _ _ _)
   | (with_reducible exact LeO.refl _)
   | (with_reducible exact LeO.none _)
   | (with_reducible refine LeO.ite ?_ ?_)
   | (with_reducible refine LeO.bind ?_ (fun _ => ?_))
   | exact ih0 _ _ _ _ _ _ _ _ _ _ _ _ _
   | exact ih1 _ _ _ _ _ _ _ _ _ _ _ _ _ _
   | exact ih2 _ _ _ _ _ _ _ _ _ _ _ _ _ _ _ _ _
   | exact plane_Pixel.mono _ _ _ _ _ _ _ _ _
   | exact LeO.none _
   | refine LeO.ite ?_ ?_
   | refine LeO.bind ?_ (fun _ => ?_)
  ·intro y0 y1 y2 y3 y4 y5 y6 y7 y8 y9 y10 y11 y12 y13
   unfold convolve_sum.l0
   repeat' first
   | (with_reducible exact ih0 _ _ _ _ _ _ _ _ _ _ _ _ _)
   | (with_reducible exact ih1 _ _ _ _ _ _ _ _ _ _ _ _ _ _)
   | (with_reducible exact ih2 _ _ _ _ _ _ _ _ _ _ _ _ _ _ _ _ _)
   | (with_reducible exact plane_Pixel.mono _ _ _ _ _ _ _ _ _)
   | (with_reducible exact LeO.refl _)
   | (with_reducible exact LeO.none _)
   | (with_reducible refine LeO.ite ?_ ?_)
   | (with_reducible refine LeO.bind ?_ (fun _ => ?_))
   | exact ih0 _ _ _ _ _ _ _ _ _ _ _ _ _
   | exact ih1 _ _ _ _ _ _ _ _ _ _ _ _ _ _
   | exact ih2 _ _ _ _ _ _ _ _ _ _ _ _ _ _ _ _ _
   | exact plane_Pixel.mono _ _ _ _ _ _ _ _ _
   | exact LeO.none _
   | refine LeO.ite ?_ ?_
   | refine LeO.bind ?_ (fun _ => ?_)
  ·intro y0 y1 y2 y3 y4 y5 y6 y7 y8 y9 y10 y11 y12 y13 y14 y15 y16
   unfold convolve_sum.l1
   repeat' first
   | (with_reducible exact ih0 _ _ _ _ _ _ _ _ _ _ _ _ _)
   | (with_reducible exact ih1 _ _ _ _ _ _ _ _ _ _ _ _ _ _)
   | (with_reducible exact ih2 _ _ _ _ _ _ _ _ _ _ _ _ _ _ _ _ _)
   | (with_reducible exact plane_Pixel.mono _ _ _ _ _ _ _ _ _)
   | (with_reducible exact LeO.refl _)
   | (with_reducible exact LeO.none _)
   | (with_reducible refine LeO.ite ?_ ?_)
   | (with_reducible refine LeO.bind ?_ (fun _ => ?_))
   | exact ih0 _ _ _ _ _ _ _ _ _ _ _ _ _
   | exact ih1 _ _ _ _ _ _ _ _ _ _ _ _ _ _
   | exact ih2 _ _ _ _ _ _ _ _ _ _ _ _ _ _ _ _ _
   | exact plane_Pixel.mono _ _ _ _ _ _ _ _ _
   | exact LeO.none _
   | refine LeO.ite ?_ ?_
   | refine LeO.bind ?_ (fun _ => ?_)
theorem convolve_sum.mono : ∀ a0 a1 a2 a3 a4 a5 a6 a7 a8 a9 a10 k, LeO (convolve_sum.f k a0 a1 a2 a3 a4 a5 a6 a7 a8 a9 a10) (convolve_sum.f (k + 1) a0 a1 a2 a3 a4 a5 a6 a7 a8 a9 a10) := by
 intro a0 a1 a2 a3 a4 a5 a6 a7 a8 a9 a10 k; obtain ⟨ih0, ih1, ih2⟩ := convolve_sum.mono_l k; unfold convolve_sum.f
 repeat' first
   | (with_reducible exact ih0 _ _ _ _ _ _ _ _ _ _ _ _ _)
   | (with_reducible exact ih1 _ _ _ _ _ _ _ _ _ _ _ _ _ _)
   | (with_reducible exact ih2 _ _ _ _ _ _ _ _ _ _ _ _ _ _ _ _ _)
   | (with_reducible exact plane_Pixel.mono _ _ _ _ _ _ _ _ _)
   | (with_reducible exact LeO.refl _)
   | (with_reducible exact LeO.none _)
   | (with_reducible refine LeO.ite ?_ ?_)
   | (with_reducible refine LeO.bind ?_ (fun _ => ?_))
   | exact ih0 _ _ _ _ _ _ _ _ _ _ _ _ _
   | exact ih1 _ _ _ _ _ _ _ _ _ _ _ _ _ _
   | exact ih2 _ _ _ _ _ _ _ _ _ _ _ _ _ _ _ _ _
   | exact plane_Pixel.mono _ _ _ _ _ _ _ _ _
   | exact LeO.none _
   | refine LeO.ite ?_ ?_
   | refine LeO.bind ?_ (fun _ => ?_)
set_option maxHeartbeats 8000000 in
set_option maxRecDepth 100000 in
theorem convolve_sum.calls (k : Nat) (a0_0 : Int) (a0_1 : Int) (a0_2 : Int) (A0_3 : Option Addr) (c0_3 : Nat) (l0_3 : List Int) (a1_0 : Int) (a1_1 : Int) (a2 : Int) (a3 : Int) (A4 : Option Addr) (c4 : Nat) (l4 : List Int) (a5 : Int) (a6 : Int) (r : Int) (w : World) (hr0_3 : Kd.C (Kd.int .i64) w A0_3 l0_3.length l0_3) (hc0_3 : l0_3.length ≤ c0_3) (hr4 : Kd.C (Kd.int .i64) w A4 l4.length l4) (hc4 : l4.length ≤ c4) (h : convolve_sum.f k a0_0 a0_1 a0_2 l0_3 a1_0 a1_1 a2 a3 l4 a5 a6 = some r) :
  Calls Try.prog 59 #[.agg #[.int .i64 a0_0, .int .i64 a0_1, .int .i64 a0_2, .slice A0_3 l0_3.length c0_3], .agg #[.int .i64 a1_0, .int .i64 a1_1], .int .i64 a2, .int .i64 a3, .slice A4 l4.length c4, .int .i64 a5, .int .i64 a6] w fun e w' => e = .returned (.int .i64 r) ∧ Below w.heap.size w w' := by
 have hu35 := Try.underlying35; have hu38 := Try.underlying38; have HR0_3 := am_ hr0_3; have HC0_3 := am_ hc0_3; clear hr0_3 hc0_3; have HR4 := am_ hr4; have HC4 := am_ hc4; clear hr4 hc4; have HB := am_ (Below.refl w.heap.size w); have H : (if a5 ≥ 0 then (if a6 ≥ 0 then (if (wrap64 (a5 + a2)) ≤ a0_0 then (convolve_sum.j0 k a2 a3 l4 a5 a6 0 (decide ((wrap64 (a6 + a3)) ≤ a0_1)) a0_0 a0_1 a0_2 l0_3 a1_0 a1_1) else (convolve_sum.j0 k a2 a3 l4 a5 a6 0 false a0_0 a0_1 a0_2 l0_3 a1_0 a1_1)) else (convolve_sum.j0 k a2 a3 l4 a5 a6 0 false a0_0 a0_1 a0_2 l0_3 a1_0 a1_1)) else (convolve_sum.j0 k a2 a3 l4 a5 a6 0 false a0_0 a0_1 a0_2 l0_3 a1_0 a1_1)) = some r := h; clear h; have HC8 := am_ H; clear H
 go_enter Try.func59, Try.ntmps59
 go_upto_region 2 with (first | ((with_reducible refine gate_dst (N := 7) rfl ?_); refine box_event ?hg (N := 7) ?hd (cs := #[.int .i64 a0_0, .int .i64 a0_1, .int .i64 a0_2, .slice A0_3 l0_3.length c0_3]) (t := 35) ?hr ?_; (case hd => rfl); (case hg => rfl); (case hr => first | (go_simp; done) | (go_simp; rfl)); intro gb301 hg w9 hbox hb; have n0_ := am_ (below_step q119_ hb); have n1_ := am_ (hbox); have n2_ := am_ ((q93_ : w.heap.size ≤ gb301)); have n3_ := am_ ((q93_ : w.heap.size ≤ gb301)); clear HB; have HB := n0_; have BK301 := n1_; have GW301 := n2_; have GE301 := n3_; clear n0_ n1_ n2_ n3_; clear hb hbox hg) | ((with_reducible refine gate_dst (N := 8) rfl ?_); refine box_event ?hg (N := 8) ?hd (cs := #[.int .i64 a1_0, .int .i64 a1_1]) (t := 38) ?hr ?_; (case hd => rfl); (case hg => rfl); (case hr => first | (go_simp; done) | (go_simp; rfl)); intro gb302 hg w10 hbox hb; have n0_ := am_ (blk_below (g := gb301) (o := .cells #[.int .i64 a0_0, .int .i64 a0_1, .int .i64 a0_2, .slice A0_3 l0_3.length c0_3] 35 (0, 0)) q145_ hb); have n1_ := am_ (below_step q103_ hb); have n2_ := am_ (hbox); have n3_ := am_ ((by rw [hg]; exact (below_size q103_) : w.heap.size ≤ gb302)); have n4_ := am_ ((by rw [hg]; exact (below_size q103_) : w.heap.size ≤ gb302)); have n5_ := am_ ((by rw [hg]; exact Nat.ne_of_lt (blk_lt (g := gb301) (o := .cells #[.int .i64 a0_0, .int .i64 a0_1, .int .i64 a0_2, .slice A0_3 l0_3.length c0_3] 35 (0, 0)) q145_) : gb301 ≠ gb302)); have n6_ := am_ ((by rw [hg]; exact Nat.ne_of_gt (blk_lt (g := gb301) (o := .cells #[.int .i64 a0_0, .int .i64 a0_1, .int .i64 a0_2, .slice A0_3 l0_3.length c0_3] 35 (0, 0)) q145_) : gb302 ≠ gb301)); clear BK301 HB; have BK301 := n0_; have HB := n1_; have BK302 := n2_; have GW302 := n3_; have GE302 := n4_; have NB301_302 := n5_; have NB302_301 := n6_; clear n0_ n1_ n2_ n3_ n4_ n5_ n6_; clear hb hbox hg))
 (try simp only [Act.put, la_, lz_, ls_])
 go_cut [16] (fun v16 wc => ∃ (kq : Nat) (x16_7 : Bool), v16 = .bool x16_7 ∧ Aside0 (convolve_sum.j0 kq a2 a3 l4 a5 a6 0 x16_7 a0_0 a0_1 a0_2 l0_3 a1_0 a1_1 = some r) ∧ Aside0 (kq ≤ k) ∧ Aside0 (wc.heap[gb301]? = some (.cells #[.int .i64 a0_0, .int .i64 a0_1, .int .i64 a0_2, (.slice A0_3 l0_3.length c0_3)] 35 (0, 0))) ∧ Aside0 (wc.heap[gb302]? = some (.cells #[.int .i64 a1_0, .int .i64 a1_1] 38 (0, 0))) ∧ Aside0 (Below w.heap.size w wc))
 case first =>
  have H := HC8.out; clear HC8
  by_cases c11 : a5 ≥ 0
  ·rw [if_pos c11] at H
   have c11b0 : decide (0 ≤ a5) = true := decide_eq_true c11; clear c11; (first | rw [c11b0] | (simp only [i64_w, i32_w]; rw [c11b0]) | skip)
   by_cases c12 : a6 ≥ 0
   ·rw [if_pos c12] at H
    have c12b0 : decide (0 ≤ a6) = true := decide_eq_true c12; clear c12
    by_cases c13 : (wrap64 (a5 + a2)) ≤ a0_0
    ·rw [if_pos c13] at H
     have c13b0 : decide ((wrap64 (a5 + a2)) ≤ a0_0) = true := decide_eq_true c13; clear c13; have H' := am_ H; clear H; have hnb14 := NB301_302.out; have hnc14 := NB302_301.out; have hcz15_0 : w10.cell? ⟨gb301, 0, none⟩ = some (.int .i64 a0_0) := (blk_cell BK301.out 0).trans rfl; have hcz15_1 : w10.cell? ⟨gb301, 1, none⟩ = some (.int .i64 a0_1) := (blk_cell BK301.out 1).trans rfl; have hcz15_2 : w10.cell? ⟨gb301, 2, none⟩ = some (.int .i64 a0_2) := (blk_cell BK301.out 2).trans rfl; have hcz15_3 : w10.cell? ⟨gb301, 3, none⟩ = some (.slice A0_3 l0_3.length c0_3) := (blk_cell BK301.out 3).trans rfl; have hfz15_0 := blk_frozen BK301.out 0; have hfz15_1 := blk_frozen BK301.out 1; have hfz15_2 := blk_frozen BK301.out 2; have hfz15_3 := blk_frozen BK301.out 3
     go_wp2
     go_meet
     case rel => exact ⟨_, (decide ((wrap64 (a6 + a3)) ≤ a0_1)), q190_, H', ⟨by first | omega | exact Nat.le_refl _⟩, ⟨q145_⟩, ⟨q146_⟩, ⟨q81_⟩⟩
    ·rw [if_neg c13] at H
     have c13b0 : decide ((wrap64 (a5 + a2)) ≤ a0_0) = false := decide_eq_false c13; clear c13; have H' := am_ H; clear H; have hnb16 := NB301_302.out; have hnc16 := NB302_301.out; have hcz17_0 : w10.cell? ⟨gb301, 0, none⟩ = some (.int .i64 a0_0) := (blk_cell BK301.out 0).trans rfl; have hcz17_1 : w10.cell? ⟨gb301, 1, none⟩ = some (.int .i64 a0_1) := (blk_cell BK301.out 1).trans rfl; have hcz17_2 : w10.cell? ⟨gb301, 2, none⟩ = some (.int .i64 a0_2) := (blk_cell BK301.out 2).trans rfl; have hcz17_3 : w10.cell? ⟨gb301, 3, none⟩ = some (.slice A0_3 l0_3.length c0_3) := (blk_cell BK301.out 3).trans rfl; have hfz17_0 := blk_frozen BK301.out 0; have hfz17_1 := blk_frozen BK301.out 1; have hfz17_2 := blk_frozen BK301.out 2; have hfz17_3 := blk_frozen BK301.out 3
     go_wp2
     go_meet
     case rel => exact ⟨_, (false), q190_, H', ⟨by first | omega | exact Nat.le_refl _⟩, ⟨q145_⟩, ⟨q146_⟩, ⟨q81_⟩⟩
   ·rw [if_neg c12] at H
    have c12b0 : decide (0 ≤ a6) = false := decide_eq_false c12; clear c12; have H' := am_ H; clear H
    go_wp2
    go_meet
    case rel => exact ⟨_, (false), q190_, H', ⟨by first | omega | exact Nat.le_refl _⟩, ⟨q145_⟩, ⟨q146_⟩, ⟨q81_⟩⟩
  ·rw [if_neg c11] at H
   have c11b0 : decide (0 ≤ a5) = false := decide_eq_false c11; clear c11; (first | rw [c11b0] | (simp only [i64_w, i32_w]; rw [c11b0]) | skip); have H' := am_ H; clear H
   go_wp2
   go_meet
   case rel => exact ⟨_, (false), q190_, H', ⟨by first | omega | exact Nat.le_refl _⟩, ⟨q145_⟩, ⟨q146_⟩, ⟨q81_⟩⟩
 case rest =>
  clear HC8; (try clear c1); (try clear p2); (try clear c4); (try clear c5); (try clear p6); (try clear c11); (try clear c11b0); (try clear c12); (try clear c12b0); (try clear c13); (try clear c13b0); (try clear c14); (try clear c16); (try clear hcz15_0); (try clear hcz15_1); (try clear hcz15_2); (try clear hcz15_3); (try clear hcz17_0); (try clear hcz17_1); (try clear hcz17_2); (try clear hcz17_3); (try clear hfz15_0); (try clear hfz15_1); (try clear hfz15_2); (try clear hfz15_3); (try clear hfz17_0); (try clear hfz17_1); (try clear hfz17_2); (try clear hfz17_3); obtain ⟨kq, x16_7, rfl, HA, HJ7, BK301, BK302, HB⟩ := hcut; cases kq with
  | zero => exact absurd HA.out (by simp [convolve_sum.j0])
  | succ kj7 =>
   have H := HA.out; clear HA; simp only [convolve_sum.j0] at H; have H' := am_ H; clear H
   go_wp2
   go_loopg [15, 43] kj7 (fun kq v15 v43 w' => ∃ (x15_2 : Int) (x43_2 : Int), v15 = .int .i64 x15_2 ∧ v43 = .int .i64 x43_2 ∧ Aside0 (convolve_sum.l0 kq a2 l4 a5 a6 x15_2 x16_7 a3 x43_2 a0_0 a0_1 a0_2 l0_3 a1_0 a1_1 = some r) ∧ Aside0 (kq ≤ kj7) ∧ Aside0 (w'.heap[gb301]? = some (.cells #[.int .i64 a0_0, .int .i64 a0_1, .int .i64 a0_2, (.slice A0_3 l0_3.length c0_3)] 35 (0, 0))) ∧ Aside0 (w'.heap[gb302]? = some (.cells #[.int .i64 a1_0, .int .i64 a1_1] 38 (0, 0))) ∧ Aside0 (Below w.heap.size w w'))
   case atStart => exact ⟨(0), (0), q190_, q190_, H', ⟨Nat.le_refl _⟩, ⟨q145_⟩, ⟨q146_⟩, ⟨q81_⟩⟩
   case round =>
    clear H'; (try clear c1); (try clear p2); (try clear c4); (try clear c5); (try clear p6); (try clear c11); (try clear c11b0); (try clear c12); (try clear c12b0); (try clear c13); (try clear c13b0); (try clear c14); (try clear c16); (try clear hcz15_0); (try clear hcz15_1); (try clear hcz15_2); (try clear hcz15_3); (try clear hcz17_0); (try clear hcz17_1); (try clear hcz17_2); (try clear hcz17_3); (try clear hfz15_0); (try clear hfz15_1); (try clear hfz15_2); (try clear hfz15_3); (try clear hfz17_0); (try clear hfz17_1); (try clear hfz17_2); (try clear hfz17_3); (try clear p2); (try clear p6); obtain ⟨x15_2, x43_2, rfl, rfl, HA, HK2, BK301, BK302, HB⟩ := hrel; cases gk with
    | zero => exact absurd HA.out (by simp [convolve_sum.l0])
    | succ k2 =>
     have H := HA.out; clear HA; simp only [convolve_sum.l0] at H
     by_cases c18 : x43_2 < a3
     ·rw [if_pos c18] at H
      have c18b0 : decide (x43_2 < a3) = true := decide_eq_true c18; clear c18; have H' := am_ H; clear H
      go_wp2
      go_loopg [15, 47] k2 (fun kq v15 v47 w' => ∃ (x15_3 : Int) (x47_3 : Int), v15 = .int .i64 x15_3 ∧ v47 = .int .i64 x47_3 ∧ Aside0 (convolve_sum.l1 kq a2 l4 a5 a6 x15_3 x16_7 x43_2 a3 x43_2 a2 x47_3 a0_0 a0_1 a0_2 l0_3 a1_0 a1_1 = some r) ∧ Aside0 (kq ≤ k2) ∧ Aside0 (w'.heap[gb301]? = some (.cells #[.int .i64 a0_0, .int .i64 a0_1, .int .i64 a0_2, (.slice A0_3 l0_3.length c0_3)] 35 (0, 0))) ∧ Aside0 (w'.heap[gb302]? = some (.cells #[.int .i64 a1_0, .int .i64 a1_1] 38 (0, 0))) ∧ Aside0 (Below w.heap.size w w'))
      case atStart => exact ⟨(x15_2), (0), q190_, q190_, H', ⟨Nat.le_refl _⟩, ⟨q145_⟩, ⟨q146_⟩, ⟨q81_⟩⟩
      case round =>
       clear H'; (try clear c1); (try clear p2); (try clear c4); (try clear c5); (try clear p6); (try clear c11); (try clear c11b0); (try clear c12); (try clear c12b0); (try clear c13); (try clear c13b0); (try clear c14); (try clear c16); (try clear c18); (try clear c18b0); (try clear hcz15_0); (try clear hcz15_1); (try clear hcz15_2); (try clear hcz15_3); (try clear hcz17_0); (try clear hcz17_1); (try clear hcz17_2); (try clear hcz17_3); (try clear hfz15_0); (try clear hfz15_1); (try clear hfz15_2); (try clear hfz15_3); (try clear hfz17_0); (try clear hfz17_1); (try clear hfz17_2); (try clear hfz17_3); (try clear p2); (try clear p6); obtain ⟨x15_3, x47_3, rfl, rfl, HA, HK3, BK301, BK302, HB⟩ := hrel; cases gk with
       | zero => exact absurd HA.out (by simp [convolve_sum.l1])
       | succ k3 =>
        have H := HA.out; clear HA; simp only [convolve_sum.l1] at H
        by_cases c19 : x47_3 < a2
        ·rw [if_pos c19] at H
         have c19b0 : decide (x47_3 < a2) = true := decide_eq_true c19; clear c19
         by_cases c20 : x16_7 = true
         ·subst c20
          have H1 : (if 0 ≤ (wrap64 ((wrap64 ((wrap64 ((wrap64 (a6 + x43_2)) * a0_0)) + a5)) + x47_3)) then (if (wrap64 ((wrap64 ((wrap64 ((wrap64 (a6 + x43_2)) * a0_0)) + a5)) + x47_3)) < (l0_3.length : Int) then (if 0 ≤ (wrap64 ((wrap64 (x43_2 * a2)) + x47_3)) then (if (wrap64 ((wrap64 (x43_2 * a2)) + x47_3)) < (l4.length : Int) then (convolve_sum.l1 k3 a2 l4 a5 a6 (wrap64 (x15_3 + (wrap64 ((rd l4 (wrap64 ((wrap64 (x43_2 * a2)) + x47_3))) * (rd l0_3 (wrap64 ((wrap64 ((wrap64 ((wrap64 (a6 + x43_2)) * a0_0)) + a5)) + x47_3))))))) true x43_2 a3 x43_2 a2 (wrap64 (x47_3 + 1)) a0_0 a0_1 a0_2 l0_3 a1_0 a1_1) else (none)) else (none)) else (none)) else (none)) = some r := by rw [if_pos rfl] at H; exact H
          clear H; have H := H1; clear H1; obtain ⟨ji21, hji21⟩ : ∃ j_ : Int, (wrap64 ((wrap64 ((wrap64 ((wrap64 (a6 + x43_2)) * a0_0)) + a5)) + x47_3)) = j_ := ⟨_, rfl⟩; replace H : (if 0 ≤ (ji21) then (if (ji21) < (l0_3.length : Int) then (if 0 ≤ (wrap64 ((wrap64 (x43_2 * a2)) + x47_3)) then (if (wrap64 ((wrap64 (x43_2 * a2)) + x47_3)) < (l4.length : Int) then (convolve_sum.l1 k3 a2 l4 a5 a6 (wrap64 (x15_3 + (wrap64 ((rd l4 (wrap64 ((wrap64 (x43_2 * a2)) + x47_3))) * (rd l0_3 (ji21)))))) true x43_2 a3 x43_2 a2 (wrap64 (x47_3 + 1)) a0_0 a0_1 a0_2 l0_3 a1_0 a1_1) else (none)) else (none)) else (none)) else (none)) = some r := by first | (rw [hji21] at H; exact H) | (simp only [hji21] at H ⊢; exact H)
          have hji21w : (IntKind.i64.wrap ((wrap64 ((wrap64 ((wrap64 (a6 + x43_2)) * a0_0)) + a5)) + x47_3)) = ji21 := (i64_w _).trans hji21
          by_cases c22 : 0 ≤ (ji21)
          ·rw [if_pos c22] at H
           have c22b0 : decide (0 ≤ (ji21)) = true := decide_eq_true c22; clear c22
           by_cases c23 : (ji21) < (l0_3.length : Int)
           ·rw [if_pos c23] at H
            have c23b0 : decide ((ji21) < (l0_3.length : Int)) = true := decide_eq_true c23; clear c23; obtain ⟨ji24, hji24⟩ : ∃ j_ : Int, (wrap64 ((wrap64 (x43_2 * a2)) + x47_3)) = j_ := ⟨_, rfl⟩; replace H : (if 0 ≤ (ji24) then (if (ji24) < (l4.length : Int) then (convolve_sum.l1 k3 a2 l4 a5 a6 (wrap64 (x15_3 + (wrap64 ((rd l4 (ji24)) * (rd l0_3 (ji21)))))) true x43_2 a3 x43_2 a2 (wrap64 (x47_3 + 1)) a0_0 a0_1 a0_2 l0_3 a1_0 a1_1) else (none)) else (none)) = some r := by first | (rw [hji24] at H; exact H) | (simp only [hji24] at H ⊢; exact H)
            have hji24w : (IntKind.i64.wrap ((wrap64 (x43_2 * a2)) + x47_3)) = ji24 := (i64_w _).trans hji24
            by_cases c25 : 0 ≤ (ji24)
            ·rw [if_pos c25] at H
             have c25b0 : decide (0 ≤ (ji24)) = true := decide_eq_true c25; clear c25
             by_cases c26 : (ji24) < (l4.length : Int)
             ·rw [if_pos c26] at H
              have c26b0 : decide ((ji24) < (l4.length : Int)) = true := decide_eq_true c26; clear c26; have H' := am_ H; clear H; have hnb27 := NB301_302.out; have hnc27 := NB302_301.out; have hcz28_0 : wr.cell? ⟨gb301, 0, none⟩ = some (.int .i64 a0_0) := (blk_cell BK301.out 0).trans rfl; have hcz28_1 : wr.cell? ⟨gb301, 1, none⟩ = some (.int .i64 a0_1) := (blk_cell BK301.out 1).trans rfl; have hcz28_2 : wr.cell? ⟨gb301, 2, none⟩ = some (.int .i64 a0_2) := (blk_cell BK301.out 2).trans rfl; have hcz28_3 : wr.cell? ⟨gb301, 3, none⟩ = some (.slice A0_3 l0_3.length c0_3) := (blk_cell BK301.out 3).trans rfl; have hfz28_0 := blk_frozen BK301.out 0; have hfz28_1 := blk_frozen BK301.out 1; have hfz28_2 := blk_frozen BK301.out 2; have hfz28_3 := blk_frozen BK301.out 3; have p303 : 0 ≤ ((ji21) : Int) := of_decide_eq_true q189_; have q303 : (ji21) < (l0_3.length : Int) := of_decide_eq_true q189_; obtain ⟨ad303, e303, hx303_0⟩ := Kd.at_int HR0_3.out (ji21) p303 q303; cases e303; replace hx303_0 := (HB.out.cell (World.block_lt_of_cell? w _ hx303_0)).trans hx303_0; replace p303 := eq_true p303; replace q303 := eq_true q303; have p304 : 0 ≤ ((ji24) : Int) := of_decide_eq_true q189_; have q304 : (ji24) < (l4.length : Int) := of_decide_eq_true q189_; obtain ⟨ad304, e304, hx304_0⟩ := Kd.at_int HR4.out (ji24) p304 q304; cases e304; replace hx304_0 := (HB.out.cell (World.block_lt_of_cell? w _ hx304_0)).trans hx304_0; replace p304 := eq_true p304; replace q304 := eq_true q304
              go_wp2
              go_roundg k3
              case measure => have := HJ7.out; have := HK2.out; have := HK3.out; omega
              case rel => exact ⟨(wrap64 (x15_3 + (wrap64 ((rd l4 (ji24)) * (rd l0_3 (ji21)))))), (wrap64 (x47_3 + 1)), (by first | rfl | (simp; done) | (simp only [← hji21, ← hji24] <;> (first | rfl | simp)) | (simp [*]; done)), q190_, (by first | exact H' | ((try (rw [hji21])); (try (rw [hji24])); exact H')), ⟨q186_⟩, ⟨q145_⟩, ⟨q146_⟩, ⟨q81_⟩⟩
             ·rw [if_neg c26] at H
              exact absurd H (by simp)
            ·rw [if_neg c25] at H
             exact absurd H (by simp)
           ·rw [if_neg c23] at H
            exact absurd H (by simp)
          ·rw [if_neg c22] at H
           exact absurd H (by simp)
         ·replace c20 := Bool.eq_false_iff.mpr c20
          subst c20; have H1 : ((plane_Pixel.f k3 a0_0 a0_1 a0_2 l0_3 a1_0 a1_1 (wrap64 (a5 + x47_3)) (wrap64 (a6 + x43_2))).bind fun t305 => (if 0 ≤ (wrap64 ((wrap64 (x43_2 * a2)) + x47_3)) then (if (wrap64 ((wrap64 (x43_2 * a2)) + x47_3)) < (l4.length : Int) then (convolve_sum.l1 k3 a2 l4 a5 a6 (wrap64 (x15_3 + (wrap64 ((rd l4 (wrap64 ((wrap64 (x43_2 * a2)) + x47_3))) * t305)))) false x43_2 a3 x43_2 a2 (wrap64 (x47_3 + 1)) a0_0 a0_1 a0_2 l0_3 a1_0 a1_1) else (none)) else (none))) = some r := by rw [if_neg (show ¬ (false = true) by decide)] at H; exact H
          clear H; have H := H1; clear H1; replace H := Option.bind_eq_some_iff.mp H; obtain ⟨t305, A290, H⟩ := H; replace H : (if 0 ≤ (wrap64 ((wrap64 (x43_2 * a2)) + x47_3)) then (if (wrap64 ((wrap64 (x43_2 * a2)) + x47_3)) < (l4.length : Int) then (convolve_sum.l1 k3 a2 l4 a5 a6 (wrap64 (x15_3 + (wrap64 ((rd l4 (wrap64 ((wrap64 (x43_2 * a2)) + x47_3))) * t305)))) false x43_2 a3 x43_2 a2 (wrap64 (x47_3 + 1)) a0_0 a0_1 a0_2 l0_3 a1_0 a1_1) else (none)) else (none)) = some r := H; have A29 := am_ A290; clear A290; obtain ⟨ji30, hji30⟩ : ∃ j_ : Int, (wrap64 ((wrap64 (x43_2 * a2)) + x47_3)) = j_ := ⟨_, rfl⟩; replace H : (if 0 ≤ (ji30) then (if (ji30) < (l4.length : Int) then (convolve_sum.l1 k3 a2 l4 a5 a6 (wrap64 (x15_3 + (wrap64 ((rd l4 (ji30)) * t305)))) false x43_2 a3 x43_2 a2 (wrap64 (x47_3 + 1)) a0_0 a0_1 a0_2 l0_3 a1_0 a1_1) else (none)) else (none)) = some r := by first | (rw [hji30] at H; exact H) | (simp only [hji30] at H ⊢; exact H)
          (try rw [hji30] at A29); have hji30w : (IntKind.i64.wrap ((wrap64 (x43_2 * a2)) + x47_3)) = ji30 := (i64_w _).trans hji30
          by_cases c31 : 0 ≤ (ji30)
          ·rw [if_pos c31] at H
           have c31b0 : decide (0 ≤ (ji30)) = true := decide_eq_true c31; clear c31
           by_cases c32 : (ji30) < (l4.length : Int)
           ·rw [if_pos c32] at H
            have c32b0 : decide ((ji30) < (l4.length : Int)) = true := decide_eq_true c32; clear c32; have H' := am_ H; clear H; have hnb33 := NB301_302.out; have hnc33 := NB302_301.out; have hcz34_0 : wr.cell? ⟨gb301, 0, none⟩ = some (.int .i64 a0_0) := (blk_cell BK301.out 0).trans rfl; have hcz34_1 : wr.cell? ⟨gb301, 1, none⟩ = some (.int .i64 a0_1) := (blk_cell BK301.out 1).trans rfl; have hcz34_2 : wr.cell? ⟨gb301, 2, none⟩ = some (.int .i64 a0_2) := (blk_cell BK301.out 2).trans rfl; have hcz34_3 : wr.cell? ⟨gb301, 3, none⟩ = some (.slice A0_3 l0_3.length c0_3) := (blk_cell BK301.out 3).trans rfl; have hfz34_0 := blk_frozen BK301.out 0; have hfz34_1 := blk_frozen BK301.out 1; have hfz34_2 := blk_frozen BK301.out 2; have hfz34_3 := blk_frozen BK301.out 3; have hcz35_0 : wr.cell? ⟨gb302, 0, none⟩ = some (.int .i64 a1_0) := (blk_cell BK302.out 0).trans rfl; have hcz35_1 : wr.cell? ⟨gb302, 1, none⟩ = some (.int .i64 a1_1) := (blk_cell BK302.out 1).trans rfl; have hfz35_0 := blk_frozen BK302.out 0; have hfz35_1 := blk_frozen BK302.out 1
            go_wp2_with (first | ((with_reducible refine gate_callee (f := 44) rfl ?_); refine goesL_ (some 73) rfl rfl Try.func44 (by kernel_rfl) rfl #[.agg #[.int .i64 a0_0, .int .i64 a0_1, .int .i64 a0_2, .slice A0_3 l0_3.length c0_3], .agg #[.int .i64 a1_0, .int .i64 a1_1], .int .i64 (wrap64 (a5 + x47_3)), .int .i64 (wrap64 (a6 + x43_2))] rfl q115_ ?_; (with_reducible refine (plane_Pixel.calls k3 a0_0 a0_1 a0_2 _ _ l0_3 a1_0 a1_1 (wrap64 (a5 + x47_3)) (wrap64 (a6 + x43_2)) t305 _ ?side1 ?side2 A29.out).mono ?_); (case side1 => repeat (first | exact (Kd.C_below HR0_3.out HB.out) | (with_reducible refine Kd.C_alloc ?_ _) | (with_reducible refine Kd.C_drewN ?_ _) | (with_reducible refine Kd.C_drew ?_))); (case side2 => exact HC0_3.out); rintro e w36 ⟨rfl, hb⟩; refine ⟨_, rfl, ?_⟩; have n0_ := am_ (blk_below (g := gb301) (o := .cells #[.int .i64 a0_0, .int .i64 a0_1, .int .i64 a0_2, .slice A0_3 l0_3.length c0_3] 35 (0, 0)) q145_ hb); have n1_ := am_ (blk_below (g := gb302) (o := .cells #[.int .i64 a1_0, .int .i64 a1_1] 38 (0, 0)) q146_ hb); have n2_ := am_ (below_step q81_ hb); clear BK301 BK302 HB; have BK301 := n0_; have BK302 := n1_; have HB := n2_; clear n0_ n1_ n2_; (try clear hb); (try clear hb2); (try clear hk); (try clear hi); have p306 : 0 ≤ ((ji30) : Int) := of_decide_eq_true q189_; have q306 : (ji30) < (l4.length : Int) := of_decide_eq_true q189_; obtain ⟨ad306, e306, hx306_0⟩ := Kd.at_int HR4.out (ji30) p306 q306; cases e306; replace hx306_0 := (HB.out.cell (World.block_lt_of_cell? w _ hx306_0)).trans hx306_0; replace p306 := eq_true p306; replace q306 := eq_true q306))
            go_roundg k3
            case measure => have := HJ7.out; have := HK2.out; have := HK3.out; omega
            case rel => exact ⟨(wrap64 (x15_3 + (wrap64 ((rd l4 (ji30)) * t305)))), (wrap64 (x47_3 + 1)), (by first | rfl | (simp; done) | (simp only [← hji30] <;> (first | rfl | simp)) | (simp [*]; done)), q190_, (by first | exact H' | ((try (rw [hji21])); (try (rw [hji24])); (try (rw [hji30])); exact H')), ⟨q186_⟩, ⟨q145_⟩, ⟨q146_⟩, ⟨q81_⟩⟩
           ·rw [if_neg c32] at H
            exact absurd H (by simp)
          ·rw [if_neg c31] at H
           exact absurd H (by simp)
        ·rw [if_neg c19] at H
         have c19b0 : decide (x47_3 < a2) = false := decide_eq_false c19; clear c19; have H' := am_ H; clear H
         go_wp2
         go_roundg k3
         case measure => have := HJ7.out; have := HK2.out; have := HK3.out; omega
         case rel => exact ⟨(x15_3), (wrap64 (x43_2 + 1)), q190_, q190_, (by first | exact H' | ((try (rw [hji21])); (try (rw [hji24])); (try (rw [hji30])); exact H')), ⟨q186_⟩, ⟨q145_⟩, ⟨q146_⟩, ⟨q81_⟩⟩
     ·rw [if_neg c18] at H
      have c18b0 : decide (x43_2 < a3) = false := decide_eq_false c18; clear c18; obtain rfl := Option.some.inj H
      go_wp2
      go_ret
      exact ⟨q182_, q81_⟩

end Go.Proofs.Ytcfllciehmgikaa.PSeparableDense
