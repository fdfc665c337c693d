-- Written by a program of the session (wip/tools/pack.py): the printed texts, pruned; checked by Lean.
import Derived.Test.YtcfllciehmgikaaKSeparableCropsa
import Derived.Test.YtcfllciehmgikaaKSeparableCropsx0
import Derived.Test.YtcfllciehmgikaaKSeparableCropsx3
import Derived.Test.YtcfllciehmgikaaKSeparableCropsx5
namespace Go.Proofs.Ytcfllciehmgikaa.PSeparableCrops
open Go.RowKit Go.Proofs.YtcfllciehmgikaaW.PrintWords Go.Proofs.YtcfllciehmgikaaW.PrintLast Go.Proofs.YtcfllciehmgikaaW.PrintMore
attribute [local go_sem] max2_int min2_int max_two min_two max_three min_three max_four min_four   -- for this text's walks alone
set_option linter.unusedVariables false
set_option linter.unusedSimpArgs false
def border_Index.j0 : Nat → Int → Int → Int → Bool → Option (Int × Bool)
 | 0, _, _, _, _ => none
 | k + 1, x0, x1, x2, x14 => if x14 = true then (some (0, false)) else (if x2 = 0 then (some (mn (mx x0 0) (wrap64 (x1 - 1)), true)) else (if x2 = 1 then ((border_mod.f x0 (wrap64 (2 * x1))).bind fun t163 => (some (mn t163 (wrap64 ((wrap64 ((wrap64 (2 * x1)) - 1)) - t163)), true))) else (if x2 = 2 then ((border_mod.f x0 x1).bind fun t164 => (some (t164, true))) else (if x2 = 3 then (if x0 ≥ 0 then (if x0 < x1 then (some (x0, true)) else (some (0, false))) else (some (0, false))) else (some (0, false))))))
def border_Index.f (k : Nat) (a0 : Int) (a1 : Int) (a2 : Int) : Option (Int × Bool) := if a1 < 1 then (border_Index.j0 k a0 a1 a2 true) else (border_Index.j0 k a0 a1 a2 (decide (a1 > 128)))
theorem border_Index.mono_l : ∀ k, (∀ y0 y1 y2 y3, LeO (border_Index.j0 k y0 y1 y2 y3) (border_Index.j0 (k + 1) y0 y1 y2 y3))
 | 0 => fun _ _ _ _ r h => by simp [border_Index.j0] at h
 | k + 1 => by
  have ih0 := border_Index.mono_l k
  ·intro y0 y1 y2 y3
   unfold border_Index.j0
   repeat' first
   | (with_reducible exact ih0 _ _ _ _)
   | (with_reducible exact LeO.refl _)
   | (with_reducible exact LeO.none _)
   | (with_reducible refine LeO.ite ?_ ?_)
   | (with_reducible refine LeO.bind ?_ (fun _ => ?_))
   | exact ih0 _ _ _ _
   | exact LeO.none _
   | refine LeO.ite ?_ ?_
   | refine LeO.bind ?_ (fun _ => ?_)
theorem border_Index.mono : ∀ a0 a1 a2 k, LeO (border_Index.f k a0 a1 a2) (border_Index.f (k + 1) a0 a1 a2) := by
 intro a0 a1 a2 k; have ih0 := border_Index.mono_l k; unfold border_Index.f
 repeat' first
   | (with_reducible exact ih0 _ _ _ _)
   | (with_reducible exact LeO.refl _)
   | (with_reducible exact LeO.none _)
   | (with_reducible refine LeO.ite ?_ ?_)
   | (with_reducible refine LeO.bind ?_ (fun _ => ?_))
   | exact ih0 _ _ _ _
   | exact LeO.none _
   | refine LeO.ite ?_ ?_
   | refine LeO.bind ?_ (fun _ => ?_)
set_option maxHeartbeats 8000000 in
set_option maxRecDepth 100000 in
theorem border_Index.calls (k : Nat) (a0 : Int) (a1 : Int) (a2 : Int) (r1 : Int) (r2 : Bool) (w : World) (h : border_Index.f k a0 a1 a2 = some (r1, r2)) :
  Calls Try.prog 68 #[.int .i64 a0, .int .i64 a1, .int .i64 a2] w fun e w' => e = .returned (.tuple #[.int .i64 r1, .bool r2]) ∧ Below w.heap.size w w' := by
 have HB := am_ (Below.refl w.heap.size w); have H : (if a1 < 1 then (border_Index.j0 k a0 a1 a2 true) else (border_Index.j0 k a0 a1 a2 (decide (a1 > 128)))) = some (r1, r2) := h; clear h; have HC4 := am_ H; clear H
 go_enter Try.func68, Try.ntmps68
 go_upto_region 1 with (fail)
 go_cut [14] (fun v14 wc => ∃ (kq : Nat) (x14_3 : Bool), v14 = .bool x14_3 ∧ Aside0 (border_Index.j0 kq a0 a1 a2 x14_3 = some (r1, r2)) ∧ Aside0 (kq ≤ k) ∧ Aside0 (Below w.heap.size w wc))
 case first =>
  have H := HC4.out; clear HC4
  by_cases c5 : a1 < 1
  ·rw [if_pos c5] at H
   have c5b0 : decide (a1 < 1) = true := decide_eq_true c5; clear c5; (first | rw [c5b0] | (simp only [i64_w, i32_w]; rw [c5b0]) | skip); have H' := am_ H; clear H
   go_wp2
   go_meet
   case rel => exact ⟨_, (true), q195_, H', ⟨by first | omega | exact Nat.le_refl _⟩, ⟨q127_⟩⟩
  ·rw [if_neg c5] at H
   have c5b0 : decide (a1 < 1) = false := decide_eq_false c5; clear c5; (first | rw [c5b0] | (simp only [i64_w, i32_w]; rw [c5b0]) | skip); have H' := am_ H; clear H
   go_wp2
   go_meet
   case rel => exact ⟨_, (decide (a1 > 128)), q195_, H', ⟨by first | omega | exact Nat.le_refl _⟩, ⟨q127_⟩⟩
 case rest =>
  clear HC4; (try clear p2); (try clear c5); (try clear c5b0); obtain ⟨kq, x14_3, rfl, HA, HJ3, HB⟩ := hcut; cases kq with
  | zero => exact absurd HA.out (by simp [border_Index.j0])
  | succ kj3 =>
   have H := HA.out; clear HA; simp only [border_Index.j0] at H
   by_cases c6 : x14_3 = true
   ·subst c6
    have H1 : (some (0, false)) = some (r1, r2) := by rw [if_pos rfl] at H; exact H
    clear H; have H := H1; clear H1; simp only [Option.some.injEq, Prod.mk.injEq] at H; obtain ⟨rfl, rfl⟩ := H
    go_wp2
    go_ret2
    exact ⟨q189_, q127_⟩
   ·replace c6 := Bool.eq_false_iff.mpr c6
    subst c6; have H1 : (if a2 = 0 then (some (mn (mx a0 0) (wrap64 (a1 - 1)), true)) else (if a2 = 1 then ((border_mod.f a0 (wrap64 (2 * a1))).bind fun t163 => (some (mn t163 (wrap64 ((wrap64 ((wrap64 (2 * a1)) - 1)) - t163)), true))) else (if a2 = 2 then ((border_mod.f a0 a1).bind fun t164 => (some (t164, true))) else (if a2 = 3 then (if a0 ≥ 0 then (if a0 < a1 then (some (a0, true)) else (some (0, false))) else (some (0, false))) else (some (0, false)))))) = some (r1, r2) := by rw [if_neg (show ¬ (false = true) by decide)] at H; exact H
    clear H; have H := H1; clear H1
    by_cases c7 : a2 = 0
    ·rw [if_pos c7] at H
     have c7b0 : (a2 == 0) = true := beq_iff_eq.mpr c7; have c7b1 : (a2 != 0) = false := bne_eq_false_iff_eq.mpr c7; clear c7; obtain ⟨ji8, hji8⟩ : ∃ j_ : Int, (mx a0 0) = j_ := ⟨_, rfl⟩; replace H : (some (mn (ji8) (wrap64 (a1 - 1)), true)) = some (r1, r2) := by first | (rw [hji8] at H; exact H) | (simp only [hji8] at H ⊢; exact H)
     have hji8_ : (if a0 < 0 then 0 else a0) = ji8 := hji8; obtain ⟨ji9, hji9⟩ : ∃ j_ : Int, (mn (ji8) (wrap64 (a1 - 1))) = j_ := ⟨_, rfl⟩; replace H : (some (ji9, true)) = some (r1, r2) := by first | (rw [hji9] at H; exact H) | (simp only [hji9] at H ⊢; exact H)
     have hji9_ : (if (wrap64 (a1 - 1)) < (ji8) then (wrap64 (a1 - 1)) else (ji8)) = ji9 := hji9; simp only [Option.some.injEq, Prod.mk.injEq] at H; obtain ⟨rfl, rfl⟩ := H
     go_wp2
     go_ret2
     exact ⟨by first | rfl | (simp [errW_none, errW_some] <;> rfl) | (simp only [← hji8, ← hji9]; first | rfl | (simp [errW_none, errW_some] <;> rfl)) | (simp [*, errW_none, errW_some] <;> rfl), q127_⟩
    ·rw [if_neg c7] at H
     have c7b0 : (a2 == 0) = false := beq_eq_false_iff_ne.mpr c7; have c7b1 : (a2 != 0) = true := bne_iff_ne.mpr c7
     by_cases c10 : a2 = 1
     ·rw [if_pos c10] at H
      have c10b0 : (a2 == 1) = true := beq_iff_eq.mpr c10; have c10b1 : (a2 != 1) = false := bne_eq_false_iff_eq.mpr c10; clear c10; replace H := Option.bind_eq_some_iff.mp H; obtain ⟨t163, A110, H⟩ := H; replace H : (some (mn t163 (wrap64 ((wrap64 ((wrap64 (2 * a1)) - 1)) - t163)), true)) = some (r1, r2) := H; have A11 := am_ A110; clear A110; obtain ⟨ji12, hji12⟩ : ∃ j_ : Int, (mn t163 (wrap64 ((wrap64 ((wrap64 (2 * a1)) - 1)) - t163))) = j_ := ⟨_, rfl⟩; replace H : (some (ji12, true)) = some (r1, r2) := by first | (rw [hji12] at H; exact H) | (simp only [hji12] at H ⊢; exact H)
      (try rw [hji12] at A11); have hji12_ : (if (wrap64 ((wrap64 ((wrap64 (2 * a1)) - 1)) - t163)) < t163 then (wrap64 ((wrap64 ((wrap64 (2 * a1)) - 1)) - t163)) else t163) = ji12 := hji12; simp only [Option.some.injEq, Prod.mk.injEq] at H; obtain ⟨rfl, rfl⟩ := H
      go_wp2_with (first | ((with_reducible refine gate_callee (f := 77) rfl ?_); refine goesL_ (some 28) rfl rfl Try.func77 (by kernel_rfl) rfl #[.int .i64 a0, .int .i64 (wrap64 (2 * a1))] rfl q123_ ?_; (with_reducible refine (border_mod.calls a0 (wrap64 (2 * a1)) t163 _ A11.out).mono ?_); rintro e w' ⟨rfl, ⟨nd, rfl⟩⟩; refine ⟨_, rfl, ?_⟩))
      go_ret2
      exact ⟨by first | rfl | (simp [errW_none, errW_some] <;> rfl) | (simp only [← hji12]; first | rfl | (simp [errW_none, errW_some] <;> rfl)) | (simp [*, errW_none, errW_some] <;> rfl), q127_⟩
     ·rw [if_neg c10] at H
      have c10b0 : (a2 == 1) = false := beq_eq_false_iff_ne.mpr c10; have c10b1 : (a2 != 1) = true := bne_iff_ne.mpr c10
      by_cases c13 : a2 = 2
      ·rw [if_pos c13] at H
       have c13b0 : (a2 == 2) = true := beq_iff_eq.mpr c13; have c13b1 : (a2 != 2) = false := bne_eq_false_iff_eq.mpr c13; clear c13; replace H := Option.bind_eq_some_iff.mp H; obtain ⟨t164, A140, H⟩ := H; replace H : (some (t164, true)) = some (r1, r2) := H; have A14 := am_ A140; clear A140; simp only [Option.some.injEq, Prod.mk.injEq] at H; obtain ⟨rfl, rfl⟩ := H
       go_wp2_with (first | ((with_reducible refine gate_callee (f := 77) rfl ?_); refine goesL_ (some 40) rfl rfl Try.func77 (by kernel_rfl) rfl #[.int .i64 a0, .int .i64 a1] rfl q123_ ?_; (with_reducible refine (border_mod.calls a0 a1 t164 _ A14.out).mono ?_); rintro e w' ⟨rfl, ⟨nd, rfl⟩⟩; refine ⟨_, rfl, ?_⟩))
       go_ret2
       exact ⟨q189_, q127_⟩
      ·rw [if_neg c13] at H
       have c13b0 : (a2 == 2) = false := beq_eq_false_iff_ne.mpr c13; have c13b1 : (a2 != 2) = true := bne_iff_ne.mpr c13
       by_cases c15 : a2 = 3
       ·rw [if_pos c15] at H
        have c15b0 : (a2 == 3) = true := beq_iff_eq.mpr c15; have c15b1 : (a2 != 3) = false := bne_eq_false_iff_eq.mpr c15; clear c15
        by_cases c16 : a0 ≥ 0
        ·rw [if_pos c16] at H
         have c16b0 : decide (0 ≤ a0) = true := decide_eq_true c16; clear c16
         by_cases c17 : a0 < a1
         ·rw [if_pos c17] at H
          have c17b0 : decide (a0 < a1) = true := decide_eq_true c17; clear c17; simp only [Option.some.injEq, Prod.mk.injEq] at H; obtain ⟨rfl, rfl⟩ := H
          go_wp2
          go_ret2
          exact ⟨q189_, q127_⟩
         ·rw [if_neg c17] at H
          have c17b0 : decide (a0 < a1) = false := decide_eq_false c17; clear c17; simp only [Option.some.injEq, Prod.mk.injEq] at H; obtain ⟨rfl, rfl⟩ := H
          go_wp2
          go_ret2
          exact ⟨q189_, q127_⟩
        ·rw [if_neg c16] at H
         have c16b0 : decide (0 ≤ a0) = false := decide_eq_false c16; clear c16; simp only [Option.some.injEq, Prod.mk.injEq] at H; obtain ⟨rfl, rfl⟩ := H
         go_wp2
         go_ret2
         exact ⟨q189_, q127_⟩
       ·rw [if_neg c15] at H
        have c15b0 : (a2 == 3) = false := beq_eq_false_iff_ne.mpr c15; have c15b1 : (a2 != 3) = true := bne_iff_ne.mpr c15; simp only [Option.some.injEq, Prod.mk.injEq] at H; obtain ⟨rfl, rfl⟩ := H
        go_wp2
        go_ret2
        exact ⟨q189_, q127_⟩


def plane_Pixel.f (k : Nat) (a0_0 : Int) (a0_1 : Int) (a0_2 : Int) (l0_3 : List Int) (a1_0 : Int) (a1_1 : Int) (a2 : Int) (a3 : Int) : Option (Int) := (border_Index.f k a2 a0_0 a1_0).bind fun bt167 => ((border_Index.f k a3 a0_1 a1_0).bind fun bt169 => (if bt167.2 = true then (if bt169.2 = true then (if 0 ≤ (wrap64 ((wrap64 (bt169.1 * a0_0)) + bt167.1)) then (if (wrap64 ((wrap64 (bt169.1 * a0_0)) + bt167.1)) < (l0_3.length : Int) then (some (rd l0_3 (wrap64 ((wrap64 (bt169.1 * a0_0)) + bt167.1)))) else (none)) else (none)) else (some a1_1)) else (some a1_1)))
theorem plane_Pixel.mono : ∀ a0 a1 a2 a3 a4 a5 a6 a7 k, LeO (plane_Pixel.f k a0 a1 a2 a3 a4 a5 a6 a7) (plane_Pixel.f (k + 1) a0 a1 a2 a3 a4 a5 a6 a7) := by
 intro a0 a1 a2 a3 a4 a5 a6 a7 k; unfold plane_Pixel.f
 repeat' first
   | (with_reducible exact border_Index.mono _ _ _ _)
   | (with_reducible exact LeO.refl _)
   | (with_reducible exact LeO.none _)
   | (with_reducible refine LeO.ite ?_ ?_)
   | (with_reducible refine LeO.bind ?_ (fun _ => ?_))
   | exact border_Index.mono _ _ _ _
   | exact LeO.none _
   | refine LeO.ite ?_ ?_
   | refine LeO.bind ?_ (fun _ => ?_)
set_option maxHeartbeats 8000000 in
set_option maxRecDepth 100000 in
theorem plane_Pixel.calls (k : Nat) (a0_0 : Int) (a0_1 : Int) (a0_2 : Int) (A0_3 : Option Addr) (c0_3 : Nat) (l0_3 : List Int) (a1_0 : Int) (a1_1 : Int) (a2 : Int) (a3 : Int) (r : Int) (w : World) (hr0_3 : Kd.C (Kd.int .i64) w A0_3 l0_3.length l0_3) (hc0_3 : l0_3.length ≤ c0_3) (h : plane_Pixel.f k a0_0 a0_1 a0_2 l0_3 a1_0 a1_1 a2 a3 = some r) :
  Calls Try.prog 44 #[.agg #[.int .i64 a0_0, .int .i64 a0_1, .int .i64 a0_2, .slice A0_3 l0_3.length c0_3], .agg #[.int .i64 a1_0, .int .i64 a1_1], .int .i64 a2, .int .i64 a3] w fun e w' => e = .returned (.int .i64 r) ∧ Below w.heap.size w w' := by
 have hu35 := Try.underlying35; have hu38 := Try.underlying38; have HR0_3 := am_ hr0_3; have HC0_3 := am_ hc0_3; clear hr0_3 hc0_3; have HB := am_ (Below.refl w.heap.size w); have H : ((border_Index.f k a2 a0_0 a1_0).bind fun bt167 => ((border_Index.f k a3 a0_1 a1_0).bind fun bt169 => (if bt167.2 = true then (if bt169.2 = true then (if 0 ≤ (wrap64 ((wrap64 (bt169.1 * a0_0)) + bt167.1)) then (if (wrap64 ((wrap64 (bt169.1 * a0_0)) + bt167.1)) < (l0_3.length : Int) then (some (rd l0_3 (wrap64 ((wrap64 (bt169.1 * a0_0)) + bt167.1)))) else (none)) else (none)) else (some a1_1)) else (some a1_1)))) = some r := h; clear h; replace H := Option.bind_eq_some_iff.mp H; obtain ⟨⟨t167, t168⟩, A50, H⟩ := H; replace H : ((border_Index.f k a3 a0_1 a1_0).bind fun bt169 => (if t168 = true then (if bt169.2 = true then (if 0 ≤ (wrap64 ((wrap64 (bt169.1 * a0_0)) + t167)) then (if (wrap64 ((wrap64 (bt169.1 * a0_0)) + t167)) < (l0_3.length : Int) then (some (rd l0_3 (wrap64 ((wrap64 (bt169.1 * a0_0)) + t167)))) else (none)) else (none)) else (some a1_1)) else (some a1_1))) = some r := H; have A5 := am_ A50; clear A50; replace H := Option.bind_eq_some_iff.mp H; obtain ⟨⟨t169, t170⟩, A60, H⟩ := H; replace H : (if t168 = true then (if t170 = true then (if 0 ≤ (wrap64 ((wrap64 (t169 * a0_0)) + t167)) then (if (wrap64 ((wrap64 (t169 * a0_0)) + t167)) < (l0_3.length : Int) then (some (rd l0_3 (wrap64 ((wrap64 (t169 * a0_0)) + t167)))) else (none)) else (none)) else (some a1_1)) else (some a1_1)) = some r := H; have A6 := am_ A60; clear A60
 by_cases c7 : t168 = true
 ·subst c7
  have H1 : (if t170 = true then (if 0 ≤ (wrap64 ((wrap64 (t169 * a0_0)) + t167)) then (if (wrap64 ((wrap64 (t169 * a0_0)) + t167)) < (l0_3.length : Int) then (some (rd l0_3 (wrap64 ((wrap64 (t169 * a0_0)) + t167)))) else (none)) else (none)) else (some a1_1)) = some r := by rw [if_pos rfl] at H; exact H
  clear H; have H := H1; clear H1
  by_cases c8 : t170 = true
  ·subst c8
   have H1 : (if 0 ≤ (wrap64 ((wrap64 (t169 * a0_0)) + t167)) then (if (wrap64 ((wrap64 (t169 * a0_0)) + t167)) < (l0_3.length : Int) then (some (rd l0_3 (wrap64 ((wrap64 (t169 * a0_0)) + t167)))) else (none)) else (none)) = some r := by rw [if_pos rfl] at H; exact H
   clear H; have H := H1; clear H1; obtain ⟨ji9, hji9⟩ : ∃ j_ : Int, (wrap64 ((wrap64 (t169 * a0_0)) + t167)) = j_ := ⟨_, rfl⟩; replace H : (if 0 ≤ (ji9) then (if (ji9) < (l0_3.length : Int) then (some (rd l0_3 (ji9))) else (none)) else (none)) = some r := by first | (rw [hji9] at H; exact H) | (simp only [hji9] at H ⊢; exact H)
   (try rw [hji9] at A5); (try rw [hji9] at A6); have hji9w : (IntKind.i64.wrap ((wrap64 (t169 * a0_0)) + t167)) = ji9 := (i64_w _).trans hji9
   by_cases c10 : 0 ≤ (ji9)
   ·rw [if_pos c10] at H
    have c10b0 : decide (0 ≤ (ji9)) = true := decide_eq_true c10; clear c10
    by_cases c11 : (ji9) < (l0_3.length : Int)
    ·rw [if_pos c11] at H
     have c11b0 : decide ((ji9) < (l0_3.length : Int)) = true := decide_eq_true c11; clear c11; obtain rfl := Option.some.inj H
     go_enter Try.func44, Try.ntmps44
     go_wp2_with (first | ((with_reducible refine gate_dst (N := 4) rfl ?_); refine box_event ?hg (N := 4) ?hd (cs := #[.int .i64 a0_0, .int .i64 a0_1, .int .i64 a0_2, .slice A0_3 l0_3.length c0_3]) (t := 35) ?hr ?_; (case hd => rfl); (case hg => rfl); (case hr => first | (go_simp; done) | (go_simp; rfl)); intro gb165 hg w12 hbox hb; have n0_ := am_ (below_step q127_ hb); have n1_ := am_ (hbox); have n2_ := am_ ((q97_ : w.heap.size ≤ gb165)); have n3_ := am_ ((q97_ : w.heap.size ≤ gb165)); clear HB; have HB := n0_; have BK165 := n1_; have GW165 := n2_; have GE165 := n3_; clear n0_ n1_ n2_ n3_; clear hb hbox hg) | ((with_reducible refine gate_dst (N := 5) rfl ?_); refine box_event ?hg (N := 5) ?hd (cs := #[.int .i64 a1_0, .int .i64 a1_1]) (t := 38) ?hr ?_; (case hd => rfl); (case hg => rfl); (case hr => first | (go_simp; done) | (go_simp; rfl)); intro gb166 hg w13 hbox hb; have n0_ := am_ (blk_below (g := gb165) (o := .cells #[.int .i64 a0_0, .int .i64 a0_1, .int .i64 a0_2, .slice A0_3 l0_3.length c0_3] 35 (0, 0)) q137_ hb); have n1_ := am_ (below_step q103_ hb); have n2_ := am_ (hbox); have n3_ := am_ ((q76_ : w.heap.size ≤ gb166)); have n4_ := am_ ((q76_ : w.heap.size ≤ gb166)); have n5_ := am_ ((q15_ : gb165 ≠ gb166)); have n6_ := am_ ((q16_ : gb166 ≠ gb165)); clear BK165 HB; have BK165 := n0_; have HB := n1_; have BK166 := n2_; have GW166 := n3_; have GE166 := n4_; have NB165_166 := n5_; have NB166_165 := n6_; clear n0_ n1_ n2_ n3_ n4_ n5_ n6_; clear hb hbox hg; have hnb14 := NB165_166.out; have hnc14 := NB166_165.out; have hcz15_0 : w13.cell? ⟨gb165, 0, none⟩ = some (.int .i64 a0_0) := (blk_cell BK165.out 0).trans rfl; have hcz15_1 : w13.cell? ⟨gb165, 1, none⟩ = some (.int .i64 a0_1) := (blk_cell BK165.out 1).trans rfl; have hcz15_2 : w13.cell? ⟨gb165, 2, none⟩ = some (.int .i64 a0_2) := (blk_cell BK165.out 2).trans rfl; have hcz15_3 : w13.cell? ⟨gb165, 3, none⟩ = some (.slice A0_3 l0_3.length c0_3) := (blk_cell BK165.out 3).trans rfl; have hfz15_0 := blk_frozen BK165.out 0; have hfz15_1 := blk_frozen BK165.out 1; have hfz15_2 := blk_frozen BK165.out 2; have hfz15_3 := blk_frozen BK165.out 3; have hcz16_0 : w13.cell? ⟨gb166, 0, none⟩ = some (.int .i64 a1_0) := (blk_cell BK166.out 0).trans rfl; have hcz16_1 : w13.cell? ⟨gb166, 1, none⟩ = some (.int .i64 a1_1) := (blk_cell BK166.out 1).trans rfl; have hfz16_0 := blk_frozen BK166.out 0; have hfz16_1 := blk_frozen BK166.out 1) | ((with_reducible refine gate_callee (f := 68) rfl ?_); refine goesL_ (some 19) rfl rfl Try.func68 (by kernel_rfl) rfl #[.int .i64 a2, .int .i64 a0_0, .int .i64 a1_0] rfl q123_ ?_; (with_reducible refine (border_Index.calls k a2 a0_0 a1_0 t167 true _ A5.out).mono ?_); rintro e w17 ⟨rfl, hb⟩; refine ⟨_, rfl, ?_⟩; have n0_ := am_ (blk_below (g := gb165) (o := .cells #[.int .i64 a0_0, .int .i64 a0_1, .int .i64 a0_2, .slice A0_3 l0_3.length c0_3] 35 (0, 0)) q137_ hb); have n1_ := am_ (blk_below (g := gb166) (o := .cells #[.int .i64 a1_0, .int .i64 a1_1] 38 (0, 0)) q138_ hb); have n2_ := am_ (below_step q81_ hb); clear BK165 BK166 HB; have BK165 := n0_; have BK166 := n1_; have HB := n2_; clear n0_ n1_ n2_; (try clear hb); (try clear hb2); (try clear hk); (try clear hi); have hcz18_0 : w17.cell? ⟨gb165, 0, none⟩ = some (.int .i64 a0_0) := (blk_cell BK165.out 0).trans rfl; have hcz18_1 : w17.cell? ⟨gb165, 1, none⟩ = some (.int .i64 a0_1) := (blk_cell BK165.out 1).trans rfl; have hcz18_2 : w17.cell? ⟨gb165, 2, none⟩ = some (.int .i64 a0_2) := (blk_cell BK165.out 2).trans rfl; have hcz18_3 : w17.cell? ⟨gb165, 3, none⟩ = some (.slice A0_3 l0_3.length c0_3) := (blk_cell BK165.out 3).trans rfl; have hfz18_0 := blk_frozen BK165.out 0; have hfz18_1 := blk_frozen BK165.out 1; have hfz18_2 := blk_frozen BK165.out 2; have hfz18_3 := blk_frozen BK165.out 3; have hcz19_0 : w17.cell? ⟨gb166, 0, none⟩ = some (.int .i64 a1_0) := (blk_cell BK166.out 0).trans rfl; have hcz19_1 : w17.cell? ⟨gb166, 1, none⟩ = some (.int .i64 a1_1) := (blk_cell BK166.out 1).trans rfl; have hfz19_0 := blk_frozen BK166.out 0; have hfz19_1 := blk_frozen BK166.out 1) | ((with_reducible refine gate_callee (f := 68) rfl ?_); refine goesL_ (some 28) rfl rfl Try.func68 (by kernel_rfl) rfl #[.int .i64 a3, .int .i64 a0_1, .int .i64 a1_0] rfl q123_ ?_; (with_reducible refine (border_Index.calls k a3 a0_1 a1_0 t169 true _ A6.out).mono ?_); rintro e w20 ⟨rfl, hb⟩; refine ⟨_, rfl, ?_⟩; have n0_ := am_ (blk_below (g := gb165) (o := .cells #[.int .i64 a0_0, .int .i64 a0_1, .int .i64 a0_2, .slice A0_3 l0_3.length c0_3] 35 (0, 0)) q137_ hb); have n1_ := am_ (blk_below (g := gb166) (o := .cells #[.int .i64 a1_0, .int .i64 a1_1] 38 (0, 0)) q138_ hb); have n2_ := am_ (below_step q81_ hb); clear BK165 BK166 HB; have BK165 := n0_; have BK166 := n1_; have HB := n2_; clear n0_ n1_ n2_; (try clear hb); (try clear hb2); (try clear hk); (try clear hi); have hcz21_0 : w20.cell? ⟨gb165, 0, none⟩ = some (.int .i64 a0_0) := (blk_cell BK165.out 0).trans rfl; have hcz21_1 : w20.cell? ⟨gb165, 1, none⟩ = some (.int .i64 a0_1) := (blk_cell BK165.out 1).trans rfl; have hcz21_2 : w20.cell? ⟨gb165, 2, none⟩ = some (.int .i64 a0_2) := (blk_cell BK165.out 2).trans rfl; have hcz21_3 : w20.cell? ⟨gb165, 3, none⟩ = some (.slice A0_3 l0_3.length c0_3) := (blk_cell BK165.out 3).trans rfl; have hfz21_0 := blk_frozen BK165.out 0; have hfz21_1 := blk_frozen BK165.out 1; have hfz21_2 := blk_frozen BK165.out 2; have hfz21_3 := blk_frozen BK165.out 3; have p171 : 0 ≤ ((ji9) : Int) := of_decide_eq_true q194_; have q171 : (ji9) < (l0_3.length : Int) := of_decide_eq_true q194_; obtain ⟨ad171, e171, hx171_0⟩ := Kd.at_int HR0_3.out (ji9) p171 q171; cases e171; replace hx171_0 := (HB.out.cell (World.block_lt_of_cell? w _ hx171_0)).trans hx171_0; replace p171 := eq_true p171; replace q171 := eq_true q171))
     go_ret
     exact ⟨by first | rfl | (simp [errW_none, errW_some] <;> rfl) | (simp only [← hji9]; first | rfl | (simp [errW_none, errW_some] <;> rfl)) | (simp [*, errW_none, errW_some] <;> rfl), q81_⟩
    ·rw [if_neg c11] at H
     exact absurd H (by simp)
   ·rw [if_neg c10] at H
    exact absurd H (by simp)
  ·replace c8 := Bool.eq_false_iff.mpr c8
   subst c8; have H1 : (some a1_1) = some r := by rw [if_neg (show ¬ (false = true) by decide)] at H; exact H
   clear H; have H := H1; clear H1; obtain rfl := Option.some.inj H
   go_enter Try.func44, Try.ntmps44
   go_wp2_with (first | ((with_reducible refine gate_dst (N := 4) rfl ?_); refine box_event ?hg (N := 4) ?hd (cs := #[.int .i64 a0_0, .int .i64 a0_1, .int .i64 a0_2, .slice A0_3 l0_3.length c0_3]) (t := 35) ?hr ?_; (case hd => rfl); (case hg => rfl); (case hr => first | (go_simp; done) | (go_simp; rfl)); intro gb165 hg w22 hbox hb; have n0_ := am_ (below_step q127_ hb); have n1_ := am_ (hbox); have n2_ := am_ ((q97_ : w.heap.size ≤ gb165)); have n3_ := am_ ((q97_ : w.heap.size ≤ gb165)); clear HB; have HB := n0_; have BK165 := n1_; have GW165 := n2_; have GE165 := n3_; clear n0_ n1_ n2_ n3_; clear hb hbox hg) | ((with_reducible refine gate_dst (N := 5) rfl ?_); refine box_event ?hg (N := 5) ?hd (cs := #[.int .i64 a1_0, .int .i64 a1_1]) (t := 38) ?hr ?_; (case hd => rfl); (case hg => rfl); (case hr => first | (go_simp; done) | (go_simp; rfl)); intro gb166 hg w23 hbox hb; have n0_ := am_ (blk_below (g := gb165) (o := .cells #[.int .i64 a0_0, .int .i64 a0_1, .int .i64 a0_2, .slice A0_3 l0_3.length c0_3] 35 (0, 0)) q137_ hb); have n1_ := am_ (below_step q103_ hb); have n2_ := am_ (hbox); have n3_ := am_ ((q76_ : w.heap.size ≤ gb166)); have n4_ := am_ ((q76_ : w.heap.size ≤ gb166)); have n5_ := am_ ((q15_ : gb165 ≠ gb166)); have n6_ := am_ ((q16_ : gb166 ≠ gb165)); clear BK165 HB; have BK165 := n0_; have HB := n1_; have BK166 := n2_; have GW166 := n3_; have GE166 := n4_; have NB165_166 := n5_; have NB166_165 := n6_; clear n0_ n1_ n2_ n3_ n4_ n5_ n6_; clear hb hbox hg; have hnb24 := NB165_166.out; have hnc24 := NB166_165.out; have hcz25_0 : w23.cell? ⟨gb165, 0, none⟩ = some (.int .i64 a0_0) := (blk_cell BK165.out 0).trans rfl; have hcz25_1 : w23.cell? ⟨gb165, 1, none⟩ = some (.int .i64 a0_1) := (blk_cell BK165.out 1).trans rfl; have hcz25_2 : w23.cell? ⟨gb165, 2, none⟩ = some (.int .i64 a0_2) := (blk_cell BK165.out 2).trans rfl; have hcz25_3 : w23.cell? ⟨gb165, 3, none⟩ = some (.slice A0_3 l0_3.length c0_3) := (blk_cell BK165.out 3).trans rfl; have hfz25_0 := blk_frozen BK165.out 0; have hfz25_1 := blk_frozen BK165.out 1; have hfz25_2 := blk_frozen BK165.out 2; have hfz25_3 := blk_frozen BK165.out 3; have hcz26_0 : w23.cell? ⟨gb166, 0, none⟩ = some (.int .i64 a1_0) := (blk_cell BK166.out 0).trans rfl; have hcz26_1 : w23.cell? ⟨gb166, 1, none⟩ = some (.int .i64 a1_1) := (blk_cell BK166.out 1).trans rfl; have hfz26_0 := blk_frozen BK166.out 0; have hfz26_1 := blk_frozen BK166.out 1) | ((with_reducible refine gate_callee (f := 68) rfl ?_); refine goesL_ (some 19) rfl rfl Try.func68 (by kernel_rfl) rfl #[.int .i64 a2, .int .i64 a0_0, .int .i64 a1_0] rfl q123_ ?_; (with_reducible refine (border_Index.calls k a2 a0_0 a1_0 t167 true _ A5.out).mono ?_); rintro e w27 ⟨rfl, hb⟩; refine ⟨_, rfl, ?_⟩; have n0_ := am_ (blk_below (g := gb165) (o := .cells #[.int .i64 a0_0, .int .i64 a0_1, .int .i64 a0_2, .slice A0_3 l0_3.length c0_3] 35 (0, 0)) q137_ hb); have n1_ := am_ (blk_below (g := gb166) (o := .cells #[.int .i64 a1_0, .int .i64 a1_1] 38 (0, 0)) q138_ hb); have n2_ := am_ (below_step q81_ hb); clear BK165 BK166 HB; have BK165 := n0_; have BK166 := n1_; have HB := n2_; clear n0_ n1_ n2_; (try clear hb); (try clear hb2); (try clear hk); (try clear hi); have hcz28_0 : w27.cell? ⟨gb165, 0, none⟩ = some (.int .i64 a0_0) := (blk_cell BK165.out 0).trans rfl; have hcz28_1 : w27.cell? ⟨gb165, 1, none⟩ = some (.int .i64 a0_1) := (blk_cell BK165.out 1).trans rfl; have hcz28_2 : w27.cell? ⟨gb165, 2, none⟩ = some (.int .i64 a0_2) := (blk_cell BK165.out 2).trans rfl; have hcz28_3 : w27.cell? ⟨gb165, 3, none⟩ = some (.slice A0_3 l0_3.length c0_3) := (blk_cell BK165.out 3).trans rfl; have hfz28_0 := blk_frozen BK165.out 0; have hfz28_1 := blk_frozen BK165.out 1; have hfz28_2 := blk_frozen BK165.out 2; have hfz28_3 := blk_frozen BK165.out 3; have hcz29_0 : w27.cell? ⟨gb166, 0, none⟩ = some (.int .i64 a1_0) := (blk_cell BK166.out 0).trans rfl; have hcz29_1 : w27.cell? ⟨gb166, 1, none⟩ = some (.int .i64 a1_1) := (blk_cell BK166.out 1).trans rfl; have hfz29_0 := blk_frozen BK166.out 0; have hfz29_1 := blk_frozen BK166.out 1) | ((with_reducible refine gate_callee (f := 68) rfl ?_); refine goesL_ (some 28) rfl rfl Try.func68 (by kernel_rfl) rfl #[.int .i64 a3, .int .i64 a0_1, .int .i64 a1_0] rfl q123_ ?_; (with_reducible refine (border_Index.calls k a3 a0_1 a1_0 t169 false _ A6.out).mono ?_); rintro e w30 ⟨rfl, hb⟩; refine ⟨_, rfl, ?_⟩; have n0_ := am_ (blk_below (g := gb165) (o := .cells #[.int .i64 a0_0, .int .i64 a0_1, .int .i64 a0_2, .slice A0_3 l0_3.length c0_3] 35 (0, 0)) q137_ hb); have n1_ := am_ (blk_below (g := gb166) (o := .cells #[.int .i64 a1_0, .int .i64 a1_1] 38 (0, 0)) q138_ hb); have n2_ := am_ (below_step q81_ hb); clear BK165 BK166 HB; have BK165 := n0_; have BK166 := n1_; have HB := n2_; clear n0_ n1_ n2_; (try clear hb); (try clear hb2); (try clear hk); (try clear hi); have hcz31_0 : w30.cell? ⟨gb166, 0, none⟩ = some (.int .i64 a1_0) := (blk_cell BK166.out 0).trans rfl; have hcz31_1 : w30.cell? ⟨gb166, 1, none⟩ = some (.int .i64 a1_1) := (blk_cell BK166.out 1).trans rfl; have hfz31_0 := blk_frozen BK166.out 0; have hfz31_1 := blk_frozen BK166.out 1))
   go_ret
   exact ⟨q189_, q81_⟩
 ·replace c7 := Bool.eq_false_iff.mpr c7
  subst c7; have H1 : (some a1_1) = some r := by rw [if_neg (show ¬ (false = true) by decide)] at H; exact H
  clear H; have H := H1; clear H1; obtain rfl := Option.some.inj H
  go_enter Try.func44, Try.ntmps44
  go_wp2_with (first | ((with_reducible refine gate_dst (N := 4) rfl ?_); refine box_event ?hg (N := 4) ?hd (cs := #[.int .i64 a0_0, .int .i64 a0_1, .int .i64 a0_2, .slice A0_3 l0_3.length c0_3]) (t := 35) ?hr ?_; (case hd => rfl); (case hg => rfl); (case hr => first | (go_simp; done) | (go_simp; rfl)); intro gb165 hg w32 hbox hb; have n0_ := am_ (below_step q127_ hb); have n1_ := am_ (hbox); have n2_ := am_ ((q97_ : w.heap.size ≤ gb165)); have n3_ := am_ ((q97_ : w.heap.size ≤ gb165)); clear HB; have HB := n0_; have BK165 := n1_; have GW165 := n2_; have GE165 := n3_; clear n0_ n1_ n2_ n3_; clear hb hbox hg) | ((with_reducible refine gate_dst (N := 5) rfl ?_); refine box_event ?hg (N := 5) ?hd (cs := #[.int .i64 a1_0, .int .i64 a1_1]) (t := 38) ?hr ?_; (case hd => rfl); (case hg => rfl); (case hr => first | (go_simp; done) | (go_simp; rfl)); intro gb166 hg w33 hbox hb; have n0_ := am_ (blk_below (g := gb165) (o := .cells #[.int .i64 a0_0, .int .i64 a0_1, .int .i64 a0_2, .slice A0_3 l0_3.length c0_3] 35 (0, 0)) q137_ hb); have n1_ := am_ (below_step q103_ hb); have n2_ := am_ (hbox); have n3_ := am_ ((q76_ : w.heap.size ≤ gb166)); have n4_ := am_ ((q76_ : w.heap.size ≤ gb166)); have n5_ := am_ ((q15_ : gb165 ≠ gb166)); have n6_ := am_ ((q16_ : gb166 ≠ gb165)); clear BK165 HB; have BK165 := n0_; have HB := n1_; have BK166 := n2_; have GW166 := n3_; have GE166 := n4_; have NB165_166 := n5_; have NB166_165 := n6_; clear n0_ n1_ n2_ n3_ n4_ n5_ n6_; clear hb hbox hg; have hnb34 := NB165_166.out; have hnc34 := NB166_165.out; have hcz35_0 : w33.cell? ⟨gb165, 0, none⟩ = some (.int .i64 a0_0) := (blk_cell BK165.out 0).trans rfl; have hcz35_1 : w33.cell? ⟨gb165, 1, none⟩ = some (.int .i64 a0_1) := (blk_cell BK165.out 1).trans rfl; have hcz35_2 : w33.cell? ⟨gb165, 2, none⟩ = some (.int .i64 a0_2) := (blk_cell BK165.out 2).trans rfl; have hcz35_3 : w33.cell? ⟨gb165, 3, none⟩ = some (.slice A0_3 l0_3.length c0_3) := (blk_cell BK165.out 3).trans rfl; have hfz35_0 := blk_frozen BK165.out 0; have hfz35_1 := blk_frozen BK165.out 1; have hfz35_2 := blk_frozen BK165.out 2; have hfz35_3 := blk_frozen BK165.out 3; have hcz36_0 : w33.cell? ⟨gb166, 0, none⟩ = some (.int .i64 a1_0) := (blk_cell BK166.out 0).trans rfl; have hcz36_1 : w33.cell? ⟨gb166, 1, none⟩ = some (.int .i64 a1_1) := (blk_cell BK166.out 1).trans rfl; have hfz36_0 := blk_frozen BK166.out 0; have hfz36_1 := blk_frozen BK166.out 1) | ((with_reducible refine gate_callee (f := 68) rfl ?_); refine goesL_ (some 19) rfl rfl Try.func68 (by kernel_rfl) rfl #[.int .i64 a2, .int .i64 a0_0, .int .i64 a1_0] rfl q123_ ?_; (with_reducible refine (border_Index.calls k a2 a0_0 a1_0 t167 false _ A5.out).mono ?_); rintro e w37 ⟨rfl, hb⟩; refine ⟨_, rfl, ?_⟩; have n0_ := am_ (blk_below (g := gb165) (o := .cells #[.int .i64 a0_0, .int .i64 a0_1, .int .i64 a0_2, .slice A0_3 l0_3.length c0_3] 35 (0, 0)) q137_ hb); have n1_ := am_ (blk_below (g := gb166) (o := .cells #[.int .i64 a1_0, .int .i64 a1_1] 38 (0, 0)) q138_ hb); have n2_ := am_ (below_step q81_ hb); clear BK165 BK166 HB; have BK165 := n0_; have BK166 := n1_; have HB := n2_; clear n0_ n1_ n2_; (try clear hb); (try clear hb2); (try clear hk); (try clear hi); have hcz38_0 : w37.cell? ⟨gb165, 0, none⟩ = some (.int .i64 a0_0) := (blk_cell BK165.out 0).trans rfl; have hcz38_1 : w37.cell? ⟨gb165, 1, none⟩ = some (.int .i64 a0_1) := (blk_cell BK165.out 1).trans rfl; have hcz38_2 : w37.cell? ⟨gb165, 2, none⟩ = some (.int .i64 a0_2) := (blk_cell BK165.out 2).trans rfl; have hcz38_3 : w37.cell? ⟨gb165, 3, none⟩ = some (.slice A0_3 l0_3.length c0_3) := (blk_cell BK165.out 3).trans rfl; have hfz38_0 := blk_frozen BK165.out 0; have hfz38_1 := blk_frozen BK165.out 1; have hfz38_2 := blk_frozen BK165.out 2; have hfz38_3 := blk_frozen BK165.out 3; have hcz39_0 : w37.cell? ⟨gb166, 0, none⟩ = some (.int .i64 a1_0) := (blk_cell BK166.out 0).trans rfl; have hcz39_1 : w37.cell? ⟨gb166, 1, none⟩ = some (.int .i64 a1_1) := (blk_cell BK166.out 1).trans rfl; have hfz39_0 := blk_frozen BK166.out 0; have hfz39_1 := blk_frozen BK166.out 1) | ((with_reducible refine gate_callee (f := 68) rfl ?_); refine goesL_ (some 28) rfl rfl Try.func68 (by kernel_rfl) rfl #[.int .i64 a3, .int .i64 a0_1, .int .i64 a1_0] rfl q123_ ?_; (with_reducible refine (border_Index.calls k a3 a0_1 a1_0 t169 t170 _ A6.out).mono ?_); rintro e w40 ⟨rfl, hb⟩; refine ⟨_, rfl, ?_⟩; have n0_ := am_ (blk_below (g := gb165) (o := .cells #[.int .i64 a0_0, .int .i64 a0_1, .int .i64 a0_2, .slice A0_3 l0_3.length c0_3] 35 (0, 0)) q137_ hb); have n1_ := am_ (blk_below (g := gb166) (o := .cells #[.int .i64 a1_0, .int .i64 a1_1] 38 (0, 0)) q138_ hb); have n2_ := am_ (below_step q81_ hb); clear BK165 BK166 HB; have BK165 := n0_; have BK166 := n1_; have HB := n2_; clear n0_ n1_ n2_; (try clear hb); (try clear hb2); (try clear hk); (try clear hi); have hcz41_0 : w40.cell? ⟨gb166, 0, none⟩ = some (.int .i64 a1_0) := (blk_cell BK166.out 0).trans rfl; have hcz41_1 : w40.cell? ⟨gb166, 1, none⟩ = some (.int .i64 a1_1) := (blk_cell BK166.out 1).trans rfl; have hfz41_0 := blk_frozen BK166.out 0; have hfz41_1 := blk_frozen BK166.out 1))
  go_ret
  exact ⟨q189_, q81_⟩


mutual
def separable_Tile_1.l0 : Nat → Int → List Int → Int → Int → Int → Int → Int → List Int → Int → Int → Int → List Int → Int → Int → Int → Option (List Int)
 | 0, _, _, _, _, _, _, _, _, _, _, _, _, _, _, _ => none
 | k + 1, x0, x8, x9, x2000, x2001, x2002, x2003, x3000, x4000, x4001, x4002, x4003, x5000, x5001, x6000 => if x9 < x2002 then (separable_Tile_1.l1 k x0 x8 x9 0 x3000 (x3000.length : Int) 0 x2000 x2001 x2002 x2003 x3000 x4000 x4001 x4002 x4003 x5000 x5001 x6000) else (some x8)
def separable_Tile_1.l1 : Nat → Int → List Int → Int → Int → List Int → Int → Int → Int → Int → Int → Int → List Int → Int → Int → Int → List Int → Int → Int → Int → Option (List Int)
 | 0, _, _, _, _, _, _, _, _, _, _, _, _, _, _, _, _, _, _, _ => none
 | k + 1, x0, x8, x9, x10, x21, x22, x23, x2000, x2001, x2002, x2003, x3000, x4000, x4001, x4002, x4003, x5000, x5001, x6000 => if x23 < x22 then (if 0 ≤ x23 then (if x23 < (x21.length : Int) then ((plane_Pixel.f k x4000 x4001 x4002 x4003 x5000 x5001 (wrap64 ((wrap64 (x9 + x23)) - (wrap64 ((x3000.length : Int) / 2)))) x0).bind fun t173 => (separable_Tile_1.l1 k x0 x8 x9 (wrap64 (x10 + (wrap64 ((rd x21 x23) * t173)))) x21 x22 (wrap64 (x23 + 1)) x2000 x2001 x2002 x2003 x3000 x4000 x4001 x4002 x4003 x5000 x5001 x6000)) else (none)) else (none)) else ((fixed_Shift.f k x10 x6000).bind fun t174 => (if x8.length < 17592186044416 then (separable_Tile_1.l0 k x0 (x8 ++ [t174]) (wrap64 (x9 + 1)) x2000 x2001 x2002 x2003 x3000 x4000 x4001 x4002 x4003 x5000 x5001 x6000) else (none)))
end
def separable_Tile_1.f (k : Nat) (a0 : Int) (a1_0 : Int) (a1_1 : Int) (a1_2 : Int) (a1_3 : Int) (l2_0 : List Int) (a3_0 : Int) (a3_1 : Int) (a3_2 : Int) (l3_3 : List Int) (a4_0 : Int) (a4_1 : Int) (a5_0 : Int) : Option (List Int) := separable_Tile_1.l0 k a0 ([] : List Int) a1_0 a1_0 a1_1 a1_2 a1_3 l2_0 a3_0 a3_1 a3_2 l3_3 a4_0 a4_1 a5_0
theorem separable_Tile_1.mono_l : ∀ k, (∀ y0 y1 y2 y3 y4 y5 y6 y7 y8 y9 y10 y11 y12 y13 y14, LeO (separable_Tile_1.l0 k y0 y1 y2 y3 y4 y5 y6 y7 y8 y9 y10 y11 y12 y13 y14) (separable_Tile_1.l0 (k + 1) y0 y1 y2 y3 y4 y5 y6 y7 y8 y9 y10 y11 y12 y13 y14)) ∧ (∀ y0 y1 y2 y3 y4 y5 y6 y7 y8 y9 y10 y11 y12 y13 y14 y15 y16 y17 y18, LeO (separable_Tile_1.l1 k y0 y1 y2 y3 y4 y5 y6 y7 y8 y9 y10 y11 y12 y13 y14 y15 y16 y17 y18) (separable_Tile_1.l1 (k + 1) y0 y1 y2 y3 y4 y5 y6 y7 y8 y9 y10 y11 y12 y13 y14 y15 y16 y17 y18))
 | 0 => ⟨fun _ _ _ _ _ _ _ _ _ _ _ _ _ _ _ r h => by simp [separable_Tile_1.l0] at h, fun _ _ _ _ _ _ _ _ _ _ _ _ _ _ _ _ _ _ _ r h => by simp [separable_Tile_1.l1] at h⟩
 | k + 1 => by
  obtain ⟨ih0, ih1⟩ := separable_Tile_1.mono_l k; refine ⟨?_, ?_⟩
  ·intro y0 y1 y2 y3 y4 y5 y6 y7 y8 y9 y10 y11 y12 y13 y14
   unfold separable_Tile_1.l0
   repeat' first
   | (with_reducible exact ih0 _ _ _ _ _ _ _ _ _ _ _ _ _ _ _)
   | (with_reducible exact ih1 _ _ _ _ _ _ _ _ _ _ _ _ _ _ _ _ _ _ _)
   | (with_reducible exact fixed_Shift.mono _ _ _)
   | (with_reducible exact plane_Pixel.mono _ _ _ _ _ _ _ _ _)
   | (with_reducible exact LeO.refl _)
   | (with_reducible exact LeO.none _)
   | (with_reducible refine LeO.ite ?_ ?_)
   | (with_reducible refine LeO.bind ?_ (fun _ => ?_))
   | exact ih0 _ _ _ _ _ _ _ _ _ _ _ _ _ _ _
   | exact ih1 _ _ _ _ _ _ _ _ _ _ _ _ _ _ _ _ _ _ _
   | exact fixed_Shift.mono _ _ _
   | exact plane_Pixel.mono _ _ _ _ _ _ _ _ _
   | exact LeO.none _
   | refine LeO.ite ?_ ?_
   | refine LeO.bind ?_ (fun _ => ?_)
  ·intro y0 y1 y2 y3 y4 y5 y6 y7 y8 y9 y10 y11 y12 y13 y14 y15 y16 y17 y18
   unfold separable_Tile_1.l1
   repeat' first
   | (with_reducible exact ih0 _ _ _ _ _ _ _ _ _ _ _ _ _ _ _)
   | (with_reducible exact ih1 _ _ _ _ _ _ _ _ _ _ _ _ _ _ _ _ _ _ _)
   | (with_reducible exact fixed_Shift.mono _ _ _)
   | (with_reducible exact plane_Pixel.mono _ _ _ _ _ _ _ _ _)
   | (with_reducible exact LeO.refl _)
   | (with_reducible exact LeO.none _)
   | (with_reducible refine LeO.ite ?_ ?_)
   | (with_reducible refine LeO.bind ?_ (fun _ => ?_))
   | exact ih0 _ _ _ _ _ _ _ _ _ _ _ _ _ _ _
   | exact ih1 _ _ _ _ _ _ _ _ _ _ _ _ _ _ _ _ _ _ _
   | exact fixed_Shift.mono _ _ _
   | exact plane_Pixel.mono _ _ _ _ _ _ _ _ _
   | exact LeO.none _
   | refine LeO.ite ?_ ?_
   | refine LeO.bind ?_ (fun _ => ?_)
theorem separable_Tile_1.mono : ∀ a0 a1 a2 a3 a4 a5 a6 a7 a8 a9 a10 a11 a12 k, LeO (separable_Tile_1.f k a0 a1 a2 a3 a4 a5 a6 a7 a8 a9 a10 a11 a12) (separable_Tile_1.f (k + 1) a0 a1 a2 a3 a4 a5 a6 a7 a8 a9 a10 a11 a12) := by
 intro a0 a1 a2 a3 a4 a5 a6 a7 a8 a9 a10 a11 a12 k; obtain ⟨ih0, ih1⟩ := separable_Tile_1.mono_l k; unfold separable_Tile_1.f
 repeat' first
   | (with_reducible exact ih0 _ _ _ _ _ _ _ _ _ _ _ _ _ _ _)
   | (with_reducible exact ih1 _ _ _ _ _ _ _ _ _ _ _ _ _ _ _ _ _ _ _)
   | (with_reducible exact fixed_Shift.mono _ _ _)
   | (with_reducible exact plane_Pixel.mono _ _ _ _ _ _ _ _ _)
   | (with_reducible exact LeO.refl _)
   | (with_reducible exact LeO.none _)
   | (with_reducible refine LeO.ite ?_ ?_)
   | (with_reducible refine LeO.bind ?_ (fun _ => ?_))
   | exact ih0 _ _ _ _ _ _ _ _ _ _ _ _ _ _ _
   | exact ih1 _ _ _ _ _ _ _ _ _ _ _ _ _ _ _ _ _ _ _
   | exact fixed_Shift.mono _ _ _
   | exact plane_Pixel.mono _ _ _ _ _ _ _ _ _
   | exact LeO.none _
   | refine LeO.ite ?_ ?_
   | refine LeO.bind ?_ (fun _ => ?_)
set_option maxHeartbeats 8000000 in
set_option maxRecDepth 100000 in
theorem separable_Tile_1.calls (k : Nat) (a0 : Int) (B1 : Nat) (a1_0 : Int) (a1_1 : Int) (a1_2 : Int) (a1_3 : Int) (B2 : Nat) (A2_0 : Option Addr) (c2_0 : Nat) (l2_0 : List Int) (B3 : Nat) (a3_0 : Int) (a3_1 : Int) (a3_2 : Int) (A3_3 : Option Addr) (c3_3 : Nat) (l3_3 : List Int) (B4 : Nat) (a4_0 : Int) (a4_1 : Int) (B5 : Nat) (a5_0 : Int) (r : List Int) (w : World) (hb1 : w.heap[B1]? = some (.cells #[.int .i64 a1_0, .int .i64 a1_1, .int .i64 a1_2, .int .i64 a1_3] 33 (0, 0))) (hr2_0 : Kd.C (Kd.int .i64) w A2_0 l2_0.length l2_0) (hc2_0 : l2_0.length ≤ c2_0) (hb2 : w.heap[B2]? = some (.cells #[.slice A2_0 l2_0.length c2_0] 22 (0, 0))) (hn1_2 : B1 ≠ B2) (hr3_3 : Kd.C (Kd.int .i64) w A3_3 l3_3.length l3_3) (hc3_3 : l3_3.length ≤ c3_3) (hb3 : w.heap[B3]? = some (.cells #[.int .i64 a3_0, .int .i64 a3_1, .int .i64 a3_2, .slice A3_3 l3_3.length c3_3] 35 (0, 0))) (hn1_3 : B1 ≠ B3) (hn2_3 : B2 ≠ B3) (hb4 : w.heap[B4]? = some (.cells #[.int .i64 a4_0, .int .i64 a4_1] 38 (0, 0))) (hn1_4 : B1 ≠ B4) (hn2_4 : B2 ≠ B4) (hn3_4 : B3 ≠ B4) (hb5 : w.heap[B5]? = some (.cells #[.int .i64 a5_0] 3 (0, 0))) (hn1_5 : B1 ≠ B5) (hn2_5 : B2 ≠ B5) (hn3_5 : B3 ≠ B5) (hn4_5 : B4 ≠ B5) (h : separable_Tile_1.f k a0 a1_0 a1_1 a1_2 a1_3 l2_0 a3_0 a3_1 a3_2 l3_3 a4_0 a4_1 a5_0 = some r) :
  Calls Try.prog 43 #[.int .i64 a0, .pointer (some ⟨B1, 0, none⟩), .pointer (some ⟨B2, 0, none⟩), .pointer (some ⟨B3, 0, none⟩), .pointer (some ⟨B4, 0, none⟩), .pointer (some ⟨B5, 0, none⟩)] w fun e w' => ∃ v0_ : Value, e = .returned (v0_) ∧ Kd.R (Kd.int .i64) 3 w' w.heap.size (fun _ => True) v0_ r ∧ Below w.heap.size w w' := by
 have hu35 := Try.underlying35; have hu38 := Try.underlying38; have HR2_0 := am_ hr2_0; have HC2_0 := am_ hc2_0; clear hr2_0 hc2_0; have HR3_3 := am_ hr3_3; have HC3_3 := am_ hc3_3; clear hr3_3 hc3_3; have BK1 := am_ hb1; clear hb1; have BK2 := am_ hb2; clear hb2; have NB1_2 := am_ hn1_2; have NB2_1 := am_ (Ne.symm hn1_2); clear hn1_2; have BK3 := am_ hb3; clear hb3; have NB1_3 := am_ hn1_3; have NB3_1 := am_ (Ne.symm hn1_3); clear hn1_3; have NB2_3 := am_ hn2_3; have NB3_2 := am_ (Ne.symm hn2_3); clear hn2_3; have BK4 := am_ hb4; clear hb4; have NB1_4 := am_ hn1_4; have NB4_1 := am_ (Ne.symm hn1_4); clear hn1_4; have NB2_4 := am_ hn2_4; have NB4_2 := am_ (Ne.symm hn2_4); clear hn2_4; have NB3_4 := am_ hn3_4; have NB4_3 := am_ (Ne.symm hn3_4); clear hn3_4; have BK5 := am_ hb5; clear hb5; have NB1_5 := am_ hn1_5; have NB5_1 := am_ (Ne.symm hn1_5); clear hn1_5; have NB2_5 := am_ hn2_5; have NB5_2 := am_ (Ne.symm hn2_5); clear hn2_5; have NB3_5 := am_ hn3_5; have NB5_3 := am_ (Ne.symm hn3_5); clear hn3_5; have NB4_5 := am_ hn4_5; have NB5_4 := am_ (Ne.symm hn4_5); clear hn4_5; have HB := am_ (Below.refl w.heap.size w); have H : (separable_Tile_1.l0 k a0 ([] : List Int) a1_0 a1_0 a1_1 a1_2 a1_3 l2_0 a3_0 a3_1 a3_2 l3_3 a4_0 a4_1 a5_0) = some r := h; clear h; have H' := am_ H; clear H; have hnb7 := NB1_2.out; have hnc7 := NB2_1.out; have hnb8 := NB1_3.out; have hnc8 := NB3_1.out; have hnb9 := NB1_4.out; have hnc9 := NB4_1.out; have hnb10 := NB1_5.out; have hnc10 := NB5_1.out; have hcz11_0 : w.cell? ⟨B1, 0, none⟩ = some (.int .i64 a1_0) := (blk_cell BK1.out 0).trans rfl; have hcz11_1 : w.cell? ⟨B1, 1, none⟩ = some (.int .i64 a1_1) := (blk_cell BK1.out 1).trans rfl; have hcz11_2 : w.cell? ⟨B1, 2, none⟩ = some (.int .i64 a1_2) := (blk_cell BK1.out 2).trans rfl; have hcz11_3 : w.cell? ⟨B1, 3, none⟩ = some (.int .i64 a1_3) := (blk_cell BK1.out 3).trans rfl; have hfz11_0 := blk_frozen BK1.out 0; have hfz11_1 := blk_frozen BK1.out 1; have hfz11_2 := blk_frozen BK1.out 2; have hfz11_3 := blk_frozen BK1.out 3
 go_enter Try.func43, Try.ntmps43
 go_wp2
 go_loopg [8, 9] k (fun kq v8 v9 w' => ∃ (x8_1 : List Int) (x9_1 : Int), v9 = .int .i64 x9_1 ∧ Aside0 (separable_Tile_1.l0 kq a0 x8_1 x9_1 a1_0 a1_1 a1_2 a1_3 l2_0 a3_0 a3_1 a3_2 l3_3 a4_0 a4_1 a5_0 = some r) ∧ Aside0 (kq ≤ k) ∧ Aside0 (Kd.R (Kd.int .i64) 3 w' w.heap.size (fun k_ => k_ ≠ B5) v8 x8_1) ∧ Aside0 (w'.heap[B1]? = some (.cells #[.int .i64 a1_0, .int .i64 a1_1, .int .i64 a1_2, .int .i64 a1_3] 33 (0, 0))) ∧ Aside0 (w'.heap[B2]? = some (.cells #[(.slice A2_0 l2_0.length c2_0)] 22 (0, 0))) ∧ Aside0 (w'.heap[B3]? = some (.cells #[.int .i64 a3_0, .int .i64 a3_1, .int .i64 a3_2, (.slice A3_3 l3_3.length c3_3)] 35 (0, 0))) ∧ Aside0 (w'.heap[B4]? = some (.cells #[.int .i64 a4_0, .int .i64 a4_1] 38 (0, 0))) ∧ Aside0 (w'.heap[B5]? = some (.cells #[.int .i64 a5_0] 3 (0, 0))) ∧ Aside0 (Below w.heap.size w w'))
 case atStart => exact ⟨(([] : List Int)), (a1_0), q195_, H', ⟨Nat.le_refl _⟩, ⟨q122_⟩, ⟨q166_⟩, ⟨q167_⟩, ⟨q168_⟩, ⟨q169_⟩, ⟨q170_⟩, ⟨q14_⟩⟩
 case round =>
  clear H'; (try clear c1); (try clear c2); (try clear p2); (try clear c3); (try clear c4); (try clear c7); (try clear c8); (try clear c9); (try clear c10); (try clear hcz11_0); (try clear hcz11_1); (try clear hcz11_2); (try clear hcz11_3); (try clear hfz11_0); (try clear hfz11_1); (try clear hfz11_2); (try clear hfz11_3); obtain ⟨x8_1, x9_1, rfl, HA, HK1, HO_8, BK1, BK2, BK3, BK4, BK5, HB⟩ := hrel; cases gk with
  | zero => exact absurd HA.out (by simp [separable_Tile_1.l0])
  | succ k1 =>
   have H := HA.out; clear HA; simp only [separable_Tile_1.l0] at H
   by_cases c12 : x9_1 < a1_2
   ·rw [if_pos c12] at H
    have c12b0 : decide (x9_1 < a1_2) = true := decide_eq_true c12; clear c12; have H' := am_ H; clear H; have hnb13 := NB1_2.out; have hnc13 := NB2_1.out; have hnb14 := NB1_3.out; have hnc14 := NB3_1.out; have hnb15 := NB1_4.out; have hnc15 := NB4_1.out; have hnb16 := NB1_5.out; have hnc16 := NB5_1.out; have hcz17_0 : wr.cell? ⟨B1, 0, none⟩ = some (.int .i64 a1_0) := (blk_cell BK1.out 0).trans rfl; have hcz17_1 : wr.cell? ⟨B1, 1, none⟩ = some (.int .i64 a1_1) := (blk_cell BK1.out 1).trans rfl; have hcz17_2 : wr.cell? ⟨B1, 2, none⟩ = some (.int .i64 a1_2) := (blk_cell BK1.out 2).trans rfl; have hcz17_3 : wr.cell? ⟨B1, 3, none⟩ = some (.int .i64 a1_3) := (blk_cell BK1.out 3).trans rfl; have hfz17_0 := blk_frozen BK1.out 0; have hfz17_1 := blk_frozen BK1.out 1; have hfz17_2 := blk_frozen BK1.out 2; have hfz17_3 := blk_frozen BK1.out 3; have hnb18 := NB2_3.out; have hnc18 := NB3_2.out; have hnb19 := NB2_4.out; have hnc19 := NB4_2.out; have hnb20 := NB2_5.out; have hnc20 := NB5_2.out; have hcz21_0 : wr.cell? ⟨B2, 0, none⟩ = some (.slice A2_0 l2_0.length c2_0) := (blk_cell BK2.out 0).trans rfl; have hfz21_0 := blk_frozen BK2.out 0
    go_wp2
    go_loopg [10, 23] k1 (fun kq v10 v23 w' => ∃ (x10_2 : Int) (x23_2 : Int), v10 = .int .i64 x10_2 ∧ v23 = .int .i64 x23_2 ∧ Aside0 (separable_Tile_1.l1 kq a0 x8_1 x9_1 x10_2 l2_0 (l2_0.length : Int) x23_2 a1_0 a1_1 a1_2 a1_3 l2_0 a3_0 a3_1 a3_2 l3_3 a4_0 a4_1 a5_0 = some r) ∧ Aside0 (kq ≤ k1) ∧ Aside0 (Kd.R (Kd.int .i64) 3 w' w.heap.size (fun k_ => k_ ≠ B5) u8 x8_1) ∧ Aside0 (w'.heap[B1]? = some (.cells #[.int .i64 a1_0, .int .i64 a1_1, .int .i64 a1_2, .int .i64 a1_3] 33 (0, 0))) ∧ Aside0 (w'.heap[B2]? = some (.cells #[(.slice A2_0 l2_0.length c2_0)] 22 (0, 0))) ∧ Aside0 (w'.heap[B3]? = some (.cells #[.int .i64 a3_0, .int .i64 a3_1, .int .i64 a3_2, (.slice A3_3 l3_3.length c3_3)] 35 (0, 0))) ∧ Aside0 (w'.heap[B4]? = some (.cells #[.int .i64 a4_0, .int .i64 a4_1] 38 (0, 0))) ∧ Aside0 (w'.heap[B5]? = some (.cells #[.int .i64 a5_0] 3 (0, 0))) ∧ Aside0 (Below w.heap.size w w'))
    case atStart => exact ⟨(0), (0), q195_, q195_, H', ⟨Nat.le_refl _⟩, ⟨q188_⟩, ⟨q166_⟩, ⟨q167_⟩, ⟨q168_⟩, ⟨q169_⟩, ⟨q170_⟩, ⟨q14_⟩⟩
    case round =>
     clear H'; (try clear c1); (try clear c2); (try clear p2); (try clear c3); (try clear c4); (try clear c7); (try clear c8); (try clear c9); (try clear c10); (try clear c12); (try clear c12b0); (try clear c13); (try clear c14); (try clear c15); (try clear c16); (try clear c18); (try clear c19); (try clear c20); (try clear hcz11_0); (try clear hcz11_1); (try clear hcz11_2); (try clear hcz11_3); (try clear hcz17_0); (try clear hcz17_1); (try clear hcz17_2); (try clear hcz17_3); (try clear hcz21_0); (try clear hfz11_0); (try clear hfz11_1); (try clear hfz11_2); (try clear hfz11_3); (try clear hfz17_0); (try clear hfz17_1); (try clear hfz17_2); (try clear hfz17_3); (try clear hfz21_0); (try clear p2); obtain ⟨x10_2, x23_2, rfl, rfl, HA, HK2, HO_8, BK1, BK2, BK3, BK4, BK5, HB⟩ := hrel; cases gk with
     | zero => exact absurd HA.out (by simp [separable_Tile_1.l1])
     | succ k2 =>
      have H := HA.out; clear HA; simp only [separable_Tile_1.l1] at H
      by_cases c22 : x23_2 < (l2_0.length : Int)
      ·rw [if_pos c22] at H
       have c22b0 : decide (x23_2 < (l2_0.length : Int)) = true := decide_eq_true c22; clear c22
       by_cases c23 : 0 ≤ x23_2
       ·rw [if_pos c23] at H
        have c23b0 : decide (0 ≤ x23_2) = true := decide_eq_true c23; clear c23
        by_cases c24 : x23_2 < (l2_0.length : Int)
        ·rw [if_pos c24] at H
         have c24b0 : decide (x23_2 < (l2_0.length : Int)) = true := decide_eq_true c24; clear c24; replace H := Option.bind_eq_some_iff.mp H; obtain ⟨t173, A250, H⟩ := H; replace H : (separable_Tile_1.l1 k2 a0 x8_1 x9_1 (wrap64 (x10_2 + (wrap64 ((rd l2_0 x23_2) * t173)))) l2_0 (l2_0.length : Int) (wrap64 (x23_2 + 1)) a1_0 a1_1 a1_2 a1_3 l2_0 a3_0 a3_1 a3_2 l3_3 a4_0 a4_1 a5_0) = some r := H; have A25 := am_ A250; clear A250; have H' := am_ H; clear H; have p172 : 0 ≤ (x23_2 : Int) := of_decide_eq_true q194_; have q172 : x23_2 < (l2_0.length : Int) := of_decide_eq_true q194_; obtain ⟨ad172, e172, hx172_0⟩ := Kd.at_int HR2_0.out x23_2 p172 q172; cases e172; replace hx172_0 := (HB.out.cell (World.block_lt_of_cell? w _ hx172_0)).trans hx172_0; replace p172 := eq_true p172; replace q172 := eq_true q172; have hnb26 := NB3_1.out; have hnc26 := NB1_3.out; have hnb27 := NB3_2.out; have hnc27 := NB2_3.out; have hnb28 := NB3_4.out; have hnc28 := NB4_3.out; have hnb29 := NB3_5.out; have hnc29 := NB5_3.out; have hcz30_0 : wr.cell? ⟨B3, 0, none⟩ = some (.int .i64 a3_0) := (blk_cell BK3.out 0).trans rfl; have hcz30_1 : wr.cell? ⟨B3, 1, none⟩ = some (.int .i64 a3_1) := (blk_cell BK3.out 1).trans rfl; have hcz30_2 : wr.cell? ⟨B3, 2, none⟩ = some (.int .i64 a3_2) := (blk_cell BK3.out 2).trans rfl; have hcz30_3 : wr.cell? ⟨B3, 3, none⟩ = some (.slice A3_3 l3_3.length c3_3) := (blk_cell BK3.out 3).trans rfl; have hfz30_0 := blk_frozen BK3.out 0; have hfz30_1 := blk_frozen BK3.out 1; have hfz30_2 := blk_frozen BK3.out 2; have hfz30_3 := blk_frozen BK3.out 3; have hnb31 := NB4_1.out; have hnc31 := NB1_4.out; have hnb32 := NB4_2.out; have hnc32 := NB2_4.out; have hnb33 := NB4_5.out; have hnc33 := NB5_4.out; have hcz34_0 : wr.cell? ⟨B4, 0, none⟩ = some (.int .i64 a4_0) := (blk_cell BK4.out 0).trans rfl; have hcz34_1 : wr.cell? ⟨B4, 1, none⟩ = some (.int .i64 a4_1) := (blk_cell BK4.out 1).trans rfl; have hfz34_0 := blk_frozen BK4.out 0; have hfz34_1 := blk_frozen BK4.out 1; have hnb35 := NB2_1.out; have hnc35 := NB1_2.out; have hnb36 := NB2_5.out; have hnc36 := NB5_2.out; have hcz37_0 : wr.cell? ⟨B2, 0, none⟩ = some (.slice (some ad172) l2_0.length c2_0) := (blk_cell BK2.out 0).trans rfl; have hfz37_0 := blk_frozen BK2.out 0
         go_wp2_with (first | ((with_reducible refine gate_callee (f := 44) rfl ?_); refine goesL_ (some 40) rfl rfl Try.func44 (by kernel_rfl) rfl #[.agg #[.int .i64 a3_0, .int .i64 a3_1, .int .i64 a3_2, .slice A3_3 l3_3.length c3_3], .agg #[.int .i64 a4_0, .int .i64 a4_1], .int .i64 (wrap64 ((wrap64 (x9_1 + x23_2)) - (wrap64 ((l2_0.length : Int) / 2)))), .int .i64 a0] rfl q123_ ?_; (with_reducible refine (plane_Pixel.calls k2 a3_0 a3_1 a3_2 _ _ l3_3 a4_0 a4_1 (wrap64 ((wrap64 (x9_1 + x23_2)) - (wrap64 ((l2_0.length : Int) / 2)))) a0 t173 _ ?side1 ?side2 A25.out).mono ?_); (case side1 => repeat (first | exact (Kd.C_below HR3_3.out HB.out) | (with_reducible refine Kd.C_alloc ?_ _) | (with_reducible refine Kd.C_drewN ?_ _) | (with_reducible refine Kd.C_drew ?_))); (case side2 => exact HC3_3.out); rintro e w38 ⟨rfl, hb⟩; refine ⟨_, rfl, ?_⟩; have n0_ := am_ (Kd.R_below q188_ hb); have n1_ := am_ (blk_below (g := B1) (o := .cells #[.int .i64 a1_0, .int .i64 a1_1, .int .i64 a1_2, .int .i64 a1_3] 33 (0, 0)) q166_ hb); have n2_ := am_ (blk_below (g := B2) (o := .cells #[.slice (some ad172) l2_0.length c2_0] 22 (0, 0)) q167_ hb); have n3_ := am_ (blk_below (g := B3) (o := .cells #[.int .i64 a3_0, .int .i64 a3_1, .int .i64 a3_2, .slice A3_3 l3_3.length c3_3] 35 (0, 0)) q168_ hb); have n4_ := am_ (blk_below (g := B4) (o := .cells #[.int .i64 a4_0, .int .i64 a4_1] 38 (0, 0)) q169_ hb); have n5_ := am_ (blk_below (g := B5) (o := .cells #[.int .i64 a5_0] 3 (0, 0)) q170_ hb); have n6_ := am_ (below_step q14_ hb); clear HO_8 BK1 BK2 BK3 BK4 BK5 HB; have HO_8 := n0_; have BK1 := n1_; have BK2 := n2_; have BK3 := n3_; have BK4 := n4_; have BK5 := n5_; have HB := n6_; clear n0_ n1_ n2_ n3_ n4_ n5_ n6_; (try clear hb); (try clear hb2); (try clear hk); (try clear hi)))
         go_roundg k2
         case measure => have := HK1.out; have := HK2.out; omega
         case rel => exact ⟨(wrap64 (x10_2 + (wrap64 ((rd l2_0 x23_2) * t173)))), (wrap64 (x23_2 + 1)), q195_, q195_, H', ⟨by have := HK1.out; have := HK2.out; omega⟩, ⟨q188_⟩, ⟨q166_⟩, ⟨q167_⟩, ⟨q168_⟩, ⟨q169_⟩, ⟨q170_⟩, ⟨q14_⟩⟩
        ·rw [if_neg c24] at H
         exact absurd H (by simp)
       ·rw [if_neg c23] at H
        exact absurd H (by simp)
      ·rw [if_neg c22] at H
       have c22b0 : decide (x23_2 < (l2_0.length : Int)) = false := decide_eq_false c22; clear c22; replace H := Option.bind_eq_some_iff.mp H; obtain ⟨t174, A390, H⟩ := H; replace H : (if x8_1.length < 17592186044416 then (separable_Tile_1.l0 k2 a0 (x8_1 ++ [t174]) (wrap64 (x9_1 + 1)) a1_0 a1_1 a1_2 a1_3 l2_0 a3_0 a3_1 a3_2 l3_3 a4_0 a4_1 a5_0) else (none)) = some r := H; have A39 := am_ A390; clear A390
       by_cases c40 : x8_1.length < 17592186044416
       ·rw [if_pos c40] at H
        have LMc40 := am_ c40; clear c40; obtain ⟨y175, hy175⟩ : ∃ y_ : List Int, y_ = (x8_1 ++ [t174]) := ⟨_, rfl⟩; replace H : (separable_Tile_1.l0 k2 a0 y175 (wrap64 (x9_1 + 1)) a1_0 a1_1 a1_2 a1_3 l2_0 a3_0 a3_1 a3_2 l3_3 a4_0 a4_1 a5_0) = some r := by first | (rw [hy175]; with_reducible exact H) | (have H2_ := (Option.bind_some _ _).symm.trans H; rw [hy175]; with_reducible exact H2_) | (have H2_ := (Option.bind_some _ _).symm.trans H; with_reducible exact H2_) | with_reducible exact H | (rw [hy175]; exact H) | exact H
        have Ny175 := am_ hy175; clear hy175; have H' := am_ H; clear H; have hnb41 := NB5_1.out; have hnc41 := NB1_5.out; have hnb42 := NB5_2.out; have hnc42 := NB2_5.out; have hnb43 := NB5_3.out; have hnc43 := NB3_5.out; have hnb44 := NB5_4.out; have hnc44 := NB4_5.out; have hcz45_0 : wr.cell? ⟨B5, 0, none⟩ = some (.int .i64 a5_0) := (blk_cell BK5.out 0).trans rfl; have hfz45_0 := blk_frozen BK5.out 0
        go_wp2_with (first | ((with_reducible refine gate_callee (f := 45) rfl ?_); refine goesL_ (some 47) rfl rfl Try.func45 (by kernel_rfl) rfl #[.int .i64 x10_2, .int .i64 a5_0] rfl q123_ ?_; (with_reducible refine (fixed_Shift.calls k2 x10_2 a5_0 t174 _ A39.out).mono ?_); rintro e w' ⟨rfl, ⟨nd, rfl⟩⟩; refine ⟨_, rfl, ?_⟩) | ((with_reducible refine gate_builtin (b := .append) (xs := #[.tmp 44, .tmp 48]) rfl ?_); at_builtin; refine Kd.R_append (Kd.int .i64) (w0 := w) w.heap.size rfl (.tmp 44) (.tmp 48) 22 3 (.int .i64 0) 8 rfl Try.underlying22 info3 rfl (by decide) (by omega) u8 x8_1 t174 [.int .i64 t174] (fun k_ => k_ ≠ B5) (fun _ => False) rfl rfl ?aP (fun _ hk => hk.elim) ?aF ?aO ?aB ?aS ?aL ?_; (case aP => exact rfl); (case aB => exact q14_); (case aF => exact (fun k_ hk => Kd.freshB (g := B5) (o := .cells #[.int .i64 a5_0] 3 (0, 0)) q170_ k_ hk)); (case aO => exact q188_); (case aS => exact (below_size q14_)); (case aL => have := LMc40.out; omega); intro v176 w46 ho hb hg hat; rw [← Ny175.out] at ho; have n0_ := am_ (blk_grown (g := B1) (o := .cells #[.int .i64 a1_0, .int .i64 a1_1, .int .i64 a1_2, .int .i64 a1_3] 33 (0, 0)) q166_ hg (Kd.R_ne HO_8.out BK1.out (by decide))); have n1_ := am_ (blk_grown (g := B2) (o := .cells #[.slice A2_0 l2_0.length c2_0] 22 (0, 0)) q167_ hg (Kd.R_ne HO_8.out BK2.out (by decide))); have n2_ := am_ (blk_grown (g := B3) (o := .cells #[.int .i64 a3_0, .int .i64 a3_1, .int .i64 a3_2, .slice A3_3 l3_3.length c3_3] 35 (0, 0)) q168_ hg (Kd.R_ne HO_8.out BK3.out (by decide))); have n3_ := am_ (blk_grown (g := B4) (o := .cells #[.int .i64 a4_0, .int .i64 a4_1] 38 (0, 0)) q169_ hg (Kd.R_ne HO_8.out BK4.out (by decide))); have n4_ := am_ (blk_grown (g := B5) (o := .cells #[.int .i64 a5_0] 3 (0, 0)) q170_ hg (Kd.R_away HO_8.out (fun _ hk => hk))); have n5_ := am_ (hb); have n6_ := am_ (ho); clear BK1 BK2 BK3 BK4 BK5 HB HO_8; have BK1 := n0_; have BK2 := n1_; have BK3 := n2_; have BK4 := n3_; have BK5 := n4_; have HB := n5_; have HO177 := n6_; clear n0_ n1_ n2_ n3_ n4_ n5_ n6_; clear ho hb hg hat))
        go_roundg k2
        case measure => have := HK1.out; have := HK2.out; omega
        case rel => exact ⟨(y175), (wrap64 (x9_1 + 1)), q195_, H', ⟨by have := HK1.out; have := HK2.out; omega⟩, ⟨by (with_reducible repeat (first | apply Kd.R_alloc | apply Kd.R_drewN | apply Kd.R_drew)); exact HO177.out⟩, ⟨q166_⟩, ⟨q167_⟩, ⟨q168_⟩, ⟨q169_⟩, ⟨q170_⟩, ⟨q14_⟩⟩
       ·rw [if_neg c40] at H
        exact absurd H (by simp)
   ·rw [if_neg c12] at H
    have c12b0 : decide (x9_1 < a1_2) = false := decide_eq_false c12; clear c12; obtain rfl := Option.some.inj H; have hnb47 := NB1_2.out; have hnc47 := NB2_1.out; have hnb48 := NB1_3.out; have hnc48 := NB3_1.out; have hnb49 := NB1_4.out; have hnc49 := NB4_1.out; have hnb50 := NB1_5.out; have hnc50 := NB5_1.out; have hcz51_0 : wr.cell? ⟨B1, 0, none⟩ = some (.int .i64 a1_0) := (blk_cell BK1.out 0).trans rfl; have hcz51_1 : wr.cell? ⟨B1, 1, none⟩ = some (.int .i64 a1_1) := (blk_cell BK1.out 1).trans rfl; have hcz51_2 : wr.cell? ⟨B1, 2, none⟩ = some (.int .i64 a1_2) := (blk_cell BK1.out 2).trans rfl; have hcz51_3 : wr.cell? ⟨B1, 3, none⟩ = some (.int .i64 a1_3) := (blk_cell BK1.out 3).trans rfl; have hfz51_0 := blk_frozen BK1.out 0; have hfz51_1 := blk_frozen BK1.out 1; have hfz51_2 := blk_frozen BK1.out 2; have hfz51_3 := blk_frozen BK1.out 3
    go_wp2
    go_ret
    exact ⟨_, q189_, by (with_reducible repeat (first | apply Kd.R_alloc | apply Kd.R_drewN | apply Kd.R_drew)); exact Kd.R_mono HO_8.out (fun _ hk => trivial), q14_⟩


def fixed_Clamp.f (a0 : Int) (a1 : Int) : Option (Int) := some (mx (mn a0 a1) 0)
set_option maxHeartbeats 8000000 in
set_option maxRecDepth 100000 in
theorem fixed_Clamp.calls (a0 : Int) (a1 : Int) (r : Int) (w : World) (h : fixed_Clamp.f a0 a1 = some r) :
  Calls Try.prog 46 #[.int .i64 a0, .int .i64 a1] w fun e w' => e = .returned (.int .i64 r) ∧ Below w.heap.size w w' := by
 have HB := am_ (Below.refl w.heap.size w); have H : (some (mx (mn a0 a1) 0)) = some r := h; clear h; obtain ⟨ji3, hji3⟩ : ∃ j_ : Int, (mn a0 a1) = j_ := ⟨_, rfl⟩; replace H : (some (mx (ji3) 0)) = some r := by first | (rw [hji3] at H; exact H) | (simp only [hji3] at H ⊢; exact H)
 have hji3_ : (if a1 < a0 then a1 else a0) = ji3 := hji3; obtain ⟨ji4, hji4⟩ : ∃ j_ : Int, (mx (ji3) 0) = j_ := ⟨_, rfl⟩; replace H : (some ji4) = some r := by first | (rw [hji4] at H; exact H) | (simp only [hji4] at H ⊢; exact H)
 have hji4_ : (if (ji3) < 0 then 0 else (ji3)) = ji4 := hji4; obtain rfl := Option.some.inj H
 go_enter Try.func46, Try.ntmps46
 go_wp2
 go_ret
 exact ⟨by first | rfl | (simp [errW_none, errW_some] <;> rfl) | (simp only [← hji3, ← hji4]; first | rfl | (simp [errW_none, errW_some] <;> rfl)) | (simp [*, errW_none, errW_some] <;> rfl), q127_⟩

end Go.Proofs.Ytcfllciehmgikaa.PSeparableCrops
