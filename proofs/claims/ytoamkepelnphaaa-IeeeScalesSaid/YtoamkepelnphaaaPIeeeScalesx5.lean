-- Written by a program of the session (wip/tools/myprint.py) over the kit's printer; checked by Lean.
import Derived.Test.YtoamkepelnphaaaPIeeeScalesx0
import Derived.Test.YtoamkepelnphaaaPIeeeScalesx1
import Derived.Test.YtoamkepelnphaaaPIeeeScalesx2
import Derived.Test.YtoamkepelnphaaaPIeeeScalesx3
import Derived.Test.YtoamkepelnphaaaPIeeeScalesx4
namespace Go.Proofs.Ytoamkepelnphaaa.PIeeeScales
open Go.RowKit Go.Proofs.YtoamkepelnphaaaW.PrintWords Go.Proofs.YtoamkepelnphaaaW.PrintLast Go.Proofs.YtoamkepelnphaaaW.PrintMore
attribute [local go_sem] max2_int min2_int max_two min_two max_three min_three max_four min_four   -- for this text's walks alone
set_option linter.unusedVariables false
set_option linter.unusedSimpArgs false

/-! ### tilefarmlaw6_IeeeScales: function 3 -/
mutual
def tilefarmlaw6_IeeeScales.l0 : Nat → Int → Int → Int → List Int → Int → Option (Bool)
  | 0, _, _, _, _, _ => none
  | k + 1, x1, x2, x8, x188000, x188001 => if x8 < 8 then ((tilefarmgen_Tape_Bits.f x188000 x188001).bind fun bt189 => ((tilefarmgen_Tape_Next.f x188000 bt189.2 26).bind fun bt191 => (if x8 > 5 then ((tilefarmgen_Mod.f x2 25).bind fun t193 => ((some (([x2, t193] : List Int) : List Int)).bind fun y194 => (if 0 ≤ (wrap64 (x8 - 6)) then (if (wrap64 (x8 - 6)) < (y194.length : Int) then (tilefarmlaw6_IeeeScales.j1 k x1 x2 x8 x1 (rd y194 (wrap64 (x8 - 6))) x188000 bt191.2) else (none)) else (none)))) else (tilefarmlaw6_IeeeScales.j1 k x1 x2 x8 bt189.1 (wrap64 (bt191.1 - 1)) x188000 bt191.2)))) else ((tilefarmlaw6_sane.f k).bind fun t188 => (some t188))
def tilefarmlaw6_IeeeScales.j1 : Nat → Int → Int → Int → Int → Int → List Int → Int → Option (Bool)
  | 0, _, _, _, _, _, _, _ => none
  | k + 1, x1, x2, x8, x9, x10, x188000, x188001 => (ieee_Scale.f k x9 x10).bind fun bt198 => ((tilefarmref6_Scale.f k x9 x10).bind fun bt200 => (if bt198.1 = bt200.1 then (if bt198.2 = bt200.2 then (tilefarmlaw6_IeeeScales.l0 k x1 x2 (wrap64 (x8 + 1)) x188000 x188001) else (some false)) else (some false)))
end
def tilefarmlaw6_IeeeScales.f (k : Nat) (l0 : List Int) (a1 : Int) (a2 : Int) : Option (Bool) := (tilefarmgen_New.f l0).bind fun bt185 => (tilefarmlaw6_IeeeScales.l0 k a1 a2 0 bt185.1 bt185.2)
theorem tilefarmlaw6_IeeeScales.mono_l : ∀ k, (∀ y0 y1 y2 y3 y4, LeO (tilefarmlaw6_IeeeScales.l0 k y0 y1 y2 y3 y4) (tilefarmlaw6_IeeeScales.l0 (k + 1) y0 y1 y2 y3 y4)) ∧ (∀ y0 y1 y2 y3 y4 y5 y6, LeO (tilefarmlaw6_IeeeScales.j1 k y0 y1 y2 y3 y4 y5 y6) (tilefarmlaw6_IeeeScales.j1 (k + 1) y0 y1 y2 y3 y4 y5 y6))
  | 0 => ⟨fun _ _ _ _ _ r h => by simp [tilefarmlaw6_IeeeScales.l0] at h, fun _ _ _ _ _ _ _ r h => by simp [tilefarmlaw6_IeeeScales.j1] at h⟩
  | k + 1 => by
    obtain ⟨ih0, ih1⟩ := tilefarmlaw6_IeeeScales.mono_l k
    refine ⟨?_, ?_⟩
    · intro y0 y1 y2 y3 y4
      unfold tilefarmlaw6_IeeeScales.l0
      repeat' first
      | (with_reducible exact ih0 _ _ _ _ _)
      | (with_reducible exact ih1 _ _ _ _ _ _ _)
      | (with_reducible exact ieee_Scale.mono _ _ _)
      | (with_reducible exact tilefarmlaw6_sane.mono _)
      | (with_reducible exact tilefarmref6_Scale.mono _ _ _)
      | (with_reducible exact LeO.refl _)
      | (with_reducible exact LeO.none _)
      | (with_reducible refine LeO.ite ?_ ?_)
      | (with_reducible refine LeO.bind ?_ (fun _ => ?_))
      | exact ih0 _ _ _ _ _
      | exact ih1 _ _ _ _ _ _ _
      | exact ieee_Scale.mono _ _ _
      | exact tilefarmlaw6_sane.mono _
      | exact tilefarmref6_Scale.mono _ _ _
      | exact LeO.none _
      | refine LeO.ite ?_ ?_
      | refine LeO.bind ?_ (fun _ => ?_)
    · intro y0 y1 y2 y3 y4 y5 y6
      unfold tilefarmlaw6_IeeeScales.j1
      repeat' first
      | (with_reducible exact ih0 _ _ _ _ _)
      | (with_reducible exact ih1 _ _ _ _ _ _ _)
      | (with_reducible exact ieee_Scale.mono _ _ _)
      | (with_reducible exact tilefarmlaw6_sane.mono _)
      | (with_reducible exact tilefarmref6_Scale.mono _ _ _)
      | (with_reducible exact LeO.refl _)
      | (with_reducible exact LeO.none _)
      | (with_reducible refine LeO.ite ?_ ?_)
      | (with_reducible refine LeO.bind ?_ (fun _ => ?_))
      | exact ih0 _ _ _ _ _
      | exact ih1 _ _ _ _ _ _ _
      | exact ieee_Scale.mono _ _ _
      | exact tilefarmlaw6_sane.mono _
      | exact tilefarmref6_Scale.mono _ _ _
      | exact LeO.none _
      | refine LeO.ite ?_ ?_
      | refine LeO.bind ?_ (fun _ => ?_)
theorem tilefarmlaw6_IeeeScales.mono : ∀ a0 a1 a2 k, LeO (tilefarmlaw6_IeeeScales.f k a0 a1 a2) (tilefarmlaw6_IeeeScales.f (k + 1) a0 a1 a2) := by
  intro a0 a1 a2 k
  obtain ⟨ih0, ih1⟩ := tilefarmlaw6_IeeeScales.mono_l k
  unfold tilefarmlaw6_IeeeScales.f
  repeat' first
      | (with_reducible exact ih0 _ _ _ _ _)
      | (with_reducible exact ih1 _ _ _ _ _ _ _)
      | (with_reducible exact ieee_Scale.mono _ _ _)
      | (with_reducible exact tilefarmlaw6_sane.mono _)
      | (with_reducible exact tilefarmref6_Scale.mono _ _ _)
      | (with_reducible exact LeO.refl _)
      | (with_reducible exact LeO.none _)
      | (with_reducible refine LeO.ite ?_ ?_)
      | (with_reducible refine LeO.bind ?_ (fun _ => ?_))
      | exact ih0 _ _ _ _ _
      | exact ih1 _ _ _ _ _ _ _
      | exact ieee_Scale.mono _ _ _
      | exact tilefarmlaw6_sane.mono _
      | exact tilefarmref6_Scale.mono _ _ _
      | exact LeO.none _
      | refine LeO.ite ?_ ?_
      | refine LeO.bind ?_ (fun _ => ?_)
def tilefarmlaw6_IeeeScales.T7 : Bool × List (List Nat × List Nat) := (true, [([], []), ([], []), ([], []), ([2], [2]), ([1, 3], [1, 3]), ([], []), ([5], [5]), ([4, 6], [4, 6]), ([7], [7]), ([0, 3, 0], [0]), ([8, 9, 0, 1, 2, 3, 4, 5, 6, 7, 8, 9], [8])])
def tilefarmlaw6_IeeeScales.B7 : List Nat := [0, 0, 0, 4, 14, 0, 32, 126, 254, 13, 1023]
theorem tilefarmlaw6_IeeeScales.tab7 : rtab .any (opsOf Try.f3 7) = tilefarmlaw6_IeeeScales.T7 := by kernel_rfl
theorem tilefarmlaw6_IeeeScales.bits7 : waitsOk tilefarmlaw6_IeeeScales.T7.2 tilefarmlaw6_IeeeScales.B7 = true := by kernel_rfl
set_option maxHeartbeats 8000000 in
set_option maxRecDepth 100000 in
theorem tilefarmlaw6_IeeeScales.calls (k : Nat) (A0 : Option Addr) (c0 : Nat) (l0 : List Int) (a1 : Int) (a2 : Int) (r : Bool) (w : World) (hr0 : Kd.C (Kd.int .i64) w A0 l0.length l0) (hc0 : l0.length ≤ c0) (h : tilefarmlaw6_IeeeScales.f k l0 a1 a2 = some r) (hT : r = true := by first | rfl | assumption | exact HT.out) :
    Calls Try.prog 3 #[.slice A0 l0.length c0, .int .u64 a1, .int .i64 a2] w fun e w' => e = .returned (.bool r) ∧ Below w.heap.size w w' := by
  have HT := Aside0.mk hT
  clear hT
  have HR0 := Aside0.mk hr0
  have HC0 := Aside0.mk hc0
  clear hr0 hc0
  have HB := Aside0.mk (Below.refl w.heap.size w)
  have H : ((tilefarmgen_New.f l0).bind fun bt185 => (tilefarmlaw6_IeeeScales.l0 k a1 a2 0 bt185.1 bt185.2)) = some r := h
  clear h
  replace H := Option.bind_eq_some_iff.mp H
  obtain ⟨⟨t185, t186⟩, A40, H⟩ := H
  replace H : (tilefarmlaw6_IeeeScales.l0 k a1 a2 0 t185 t186) = some r := H
  have A4 := Aside0.mk A40
  clear A40
  have H' := Aside0.mk H
  clear H
  go_enter Try.func3, Try.ntmps3
  go_wp2_with (first | ((with_reducible refine gate_callee (f := 8) rfl ?_); refine goesL_ (some 16) rfl rfl Try.func8 (by kernel_rfl) rfl #[.slice A0 l0.length c0] rfl (by (try simp only [List.map_toArray, List.map_cons, List.map_nil]); first | done | rfl | (simp only [List.length_drop, List.length_take]; rfl)) ?_; (with_reducible refine (tilefarmgen_New.calls _ _ l0 t185 t186 w _ ?side1 ?side2 ?side3 A4.out).mono ?_); (case side1 => repeat (first | (with_reducible first | exact HB.out | apply below_alloc | apply pw_below_drewN | apply below_drew1) | exact HB.out)); (case side2 => exact HR0.out); (case side3 => exact HC0.out); rintro e w5 ⟨g187, rfl, hi, hb, hb2⟩; refine ⟨_, rfl, ?_⟩; have n0_ := Aside0.mk (hb); have n1_ := Aside0.mk (hi); clear HB; have HB := n0_; have HI187 := n1_; clear n0_ n1_; (try clear hb); (try clear hb2); (try clear hk); (try clear hi)))
  go_loopg [8] k (fun kq v8 w' => ∃ (x8_1 : Int) (x188001_1 : Int), v8 = .int .i64 x8_1 ∧ Aside0 (tilefarmlaw6_IeeeScales.l0 kq a1 a2 x8_1 t185 x188001_1 = some r) ∧ Aside0 (kq ≤ k) ∧ Aside0 (IsS49 w w' g187 t185 x188001_1) ∧ Aside0 (Below w.heap.size w w'))
  case atStart => exact ⟨(0), (t186), (by first | rfl | (simp; done) | (simp [*]; done)), H', ⟨Nat.le_refl _⟩, ⟨by repeat (first | (with_reducible first | exact HI187.out | apply IsS49.alloc | apply IsS49.drewN | apply IsS49.drew | apply IsS49.set_1) | exact HI187.out)⟩, ⟨by repeat (first | (with_reducible first | exact HB.out | apply below_alloc | apply pw_below_drewN | apply below_drew1 | refine below_set ?_ (IsS49.ge HI187.out)) | exact HB.out)⟩⟩
  case round =>
    clear H'
    try clear p2
    try clear c3
    obtain ⟨x8_1, x188001_1, rfl, HA, HK1, HI187, HB⟩ := hrel
    cases gk with
    | zero => exact absurd HA.out (by simp [tilefarmlaw6_IeeeScales.l0])
    | succ k1 =>
      have H := HA.out
      clear HA
      simp only [tilefarmlaw6_IeeeScales.l0] at H
      by_cases c6 : x8_1 < 8
      · rw [if_pos c6] at H
        have c6b0 : decide (x8_1 < 8) = true := decide_eq_true c6
        clear c6
        replace H := Option.bind_eq_some_iff.mp H
        obtain ⟨⟨t189, t190⟩, A70, H⟩ := H
        replace H : ((tilefarmgen_Tape_Next.f t185 t190 26).bind fun bt191 => (if x8_1 > 5 then ((tilefarmgen_Mod.f a2 25).bind fun t193 => ((some (([a2, t193] : List Int) : List Int)).bind fun y194 => (if 0 ≤ (wrap64 (x8_1 - 6)) then (if (wrap64 (x8_1 - 6)) < (y194.length : Int) then (tilefarmlaw6_IeeeScales.j1 k1 a1 a2 x8_1 a1 (rd y194 (wrap64 (x8_1 - 6))) t185 bt191.2) else (none)) else (none)))) else (tilefarmlaw6_IeeeScales.j1 k1 a1 a2 x8_1 t189 (wrap64 (bt191.1 - 1)) t185 bt191.2))) = some r := H
        have A7 := Aside0.mk A70
        clear A70
        replace H := Option.bind_eq_some_iff.mp H
        obtain ⟨⟨t191, t192⟩, A80, H⟩ := H
        replace H : (if x8_1 > 5 then ((tilefarmgen_Mod.f a2 25).bind fun t193 => ((some (([a2, t193] : List Int) : List Int)).bind fun y194 => (if 0 ≤ (wrap64 (x8_1 - 6)) then (if (wrap64 (x8_1 - 6)) < (y194.length : Int) then (tilefarmlaw6_IeeeScales.j1 k1 a1 a2 x8_1 a1 (rd y194 (wrap64 (x8_1 - 6))) t185 t192) else (none)) else (none)))) else (tilefarmlaw6_IeeeScales.j1 k1 a1 a2 x8_1 t189 (wrap64 (t191 - 1)) t185 t192)) = some r := H
        have A8 := Aside0.mk A80
        clear A80
        have HC9 := Aside0.mk H
        clear H
        go_upto_if 27 with (first | ((with_reducible refine gate_callee (f := 9) rfl ?_); refine goesL_ (some 22) rfl rfl Try.func9 (by kernel_rfl) rfl #[.pointer (some ⟨g187, 0, none⟩)] rfl (by (try simp only [List.map_toArray, List.map_cons, List.map_nil]); first | done | rfl | (simp only [List.length_drop, List.length_take]; rfl)) ?_; (with_reducible refine (tilefarmgen_Tape_Bits.calls g187 t185 x188001_1 t189 t190 w _ ?side1 ?side2 A7.out).mono ?_); (case side1 => repeat (first | (with_reducible first | exact HI187.out | apply IsS49.alloc | apply IsS49.drewN | apply IsS49.drew | apply IsS49.set_1) | exact HI187.out)); (case side2 => repeat (first | (with_reducible first | exact HB.out | apply below_alloc | apply pw_below_drewN | apply below_drew1 | refine below_set ?_ (IsS49.ge HI187.out)) | exact HB.out)); rintro e w10 ⟨rfl, hi, hb, hk⟩; refine ⟨_, rfl, ?_⟩; have n0_ := Aside0.mk (hb); have n1_ := Aside0.mk (hi); clear HB; clear HI187; have HB := n0_; have HI187 := n1_; clear n0_ n1_; (try clear hb); (try clear hb2); (try clear hk); (try clear hi)) | ((with_reducible refine gate_callee (f := 10) rfl ?_); refine goesL_ (some 24) rfl rfl Try.func10 (by kernel_rfl) rfl #[.pointer (some ⟨g187, 0, none⟩), .int .i64 26] rfl (by (try simp only [List.map_toArray, List.map_cons, List.map_nil]); first | done | rfl | (simp only [List.length_drop, List.length_take]; rfl)) ?_; (with_reducible refine (tilefarmgen_Tape_Next.calls g187 t185 t190 26 t191 t192 w _ ?side1 ?side2 A8.out).mono ?_); (case side1 => repeat (first | (with_reducible first | exact HI187.out | apply IsS49.alloc | apply IsS49.drewN | apply IsS49.drew | apply IsS49.set_1) | exact HI187.out)); (case side2 => repeat (first | (with_reducible first | exact HB.out | apply below_alloc | apply pw_below_drewN | apply below_drew1 | refine below_set ?_ (IsS49.ge HI187.out)) | exact HB.out)); rintro e w11 ⟨rfl, hi, hb, hk⟩; refine ⟨_, rfl, ?_⟩; have n0_ := Aside0.mk (hb); have n1_ := Aside0.mk (hi); clear HB; clear HI187; have HB := n0_; have HI187 := n1_; clear n0_ n1_; (try clear hb); (try clear hb2); (try clear hk); (try clear hi)))
        (try simp only [Act.put, List.setIfInBounds_toArray, List.set_cons_zero, List.set_cons_succ])
        go_cut [9, 10] (fun v9 v10 wc => ∃ (kq : Nat) (x9_8 : Int) (x10_8 : Int), v9 = .int .u64 x9_8 ∧ v10 = .int .i64 x10_8 ∧ Aside0 (tilefarmlaw6_IeeeScales.j1 kq a1 a2 x8_1 x9_8 x10_8 t185 t192 = some r) ∧ Aside0 (kq ≤ k1) ∧ Aside0 (IsS49 w wc g187 t185 t192) ∧ Aside0 (Below w.heap.size w wc))
        case first =>
          have H := HC9.out
          clear HC9
          by_cases c12 : x8_1 > 5
          · rw [if_pos c12] at H
            have c12b0 : decide (5 < x8_1) = true := decide_eq_true c12
            clear c12
            (first | rw [c12b0] | (simp only [i64_w, i32_w]; rw [c12b0]) | skip)
            replace H := Option.bind_eq_some_iff.mp H
            obtain ⟨t193, A130, H⟩ := H
            replace H : ((some (([a2, t193] : List Int) : List Int)).bind fun y194 => (if 0 ≤ (wrap64 (x8_1 - 6)) then (if (wrap64 (x8_1 - 6)) < (y194.length : Int) then (tilefarmlaw6_IeeeScales.j1 k1 a1 a2 x8_1 a1 (rd y194 (wrap64 (x8_1 - 6))) t185 t192) else (none)) else (none))) = some r := H
            have A13 := Aside0.mk A130
            clear A130
            obtain ⟨y194, hy194⟩ : ∃ y_ : List Int, y_ = (([a2, t193] : List Int)) := ⟨_, rfl⟩
            replace H : (if 0 ≤ (wrap64 (x8_1 - 6)) then (if (wrap64 (x8_1 - 6)) < (y194.length : Int) then (tilefarmlaw6_IeeeScales.j1 k1 a1 a2 x8_1 a1 (rd y194 (wrap64 (x8_1 - 6))) t185 t192) else (none)) else (none)) = some r := by first | (rw [hy194]; with_reducible exact H) | (have H2_ := (Option.bind_some _ _).symm.trans H; rw [hy194]; with_reducible exact H2_) | (have H2_ := (Option.bind_some _ _).symm.trans H; with_reducible exact H2_) | with_reducible exact H | (rw [hy194]; exact H) | exact H
            have Ny194 := Aside0.mk hy194
            clear hy194
            obtain ⟨ji14, hji14⟩ : ∃ j_ : Int, (wrap64 (x8_1 - 6)) = j_ := ⟨_, rfl⟩
            replace H : (if 0 ≤ (ji14) then (if (ji14) < (y194.length : Int) then (tilefarmlaw6_IeeeScales.j1 k1 a1 a2 x8_1 a1 (rd y194 (ji14)) t185 t192) else (none)) else (none)) = some r := by first | (rw [hji14] at H; exact H) | (simp only [hji14] at H ⊢; exact H)
            (try rw [hji14] at A13)
            have hji14w : (IntKind.i64.wrap (x8_1 - 6)) = ji14 := (i64_w _).trans hji14
            by_cases c15 : 0 ≤ (ji14)
            · rw [if_pos c15] at H
              have c15b0 : decide (0 ≤ (ji14)) = true := decide_eq_true c15
              clear c15
              by_cases c16 : (ji14) < (y194.length : Int)
              · rw [if_pos c16] at H
                have c16b0 : decide ((ji14) < (y194.length : Int)) = true := decide_eq_true c16
                clear c16
                have H' := Aside0.mk H
                clear H
                try go_wp2
                have pi197 : (0 ≤ ((ji14) : Int)) = True := eq_true (of_decide_eq_true (by first | (with_reducible assumption) | assumption))
                have qi197 : ((ji14) < (y194.length : Int)) = True := eq_true (of_decide_eq_true (by first | (with_reducible assumption) | assumption))
                have n0_ := Aside0.mk (IsS49.drew HI187.out)
                have n1_ := Aside0.mk (below_drew1 HB.out)
                clear HI187
                clear HB
                have HI187 := n0_
                have HB := n1_
                clear n0_ n1_
                refine start_ (n := 11) (S := fun w' => True) (ds := []) #[false, false, false, false, false, false, false, false, false, false, false] (by kernel_rfl) rfl rfl trivial (fun hHeld => ?_); refine with_tabW tilefarmlaw6_IeeeScales.tab7 tilefarmlaw6_IeeeScales.bits7 (fun HT_ HW_ => ?_)
                generalize w11.drew = w17 at HI187 HB hHeld ⊢
                refine pure_ (i := 0) (N := some 28) (v := ?_) (a' := ?_) #[true, false, false, false, false, false, false, false, false, false, false] rfl rfl (any_of HT_.out (by kernel_rfl)) (fun _ _ _ h => h) (Or.inl ⟨by rfl, ?_⟩) ?_ ?_
                rotate_left
                · intro w'
                  go_simp
                  with_reducible rfl
                rotate_left
                · simp only [Act.put, List.setIfInBounds_toArray, List.set_cons_zero, List.set_cons_succ, i64_w, i32_w]
                  rfl
                refine pure_ (i := 1) (N := some 29) (v := ?_) (a' := ?_) #[true, true, false, false, false, false, false, false, false, false, false] rfl rfl (any_of HT_.out (by kernel_rfl)) (fun _ _ _ h => h) (Or.inl ⟨by rfl, ?_⟩) ?_ ?_
                rotate_left
                · intro w'
                  go_simp
                  with_reducible rfl
                rotate_left
                · simp only [Act.put, List.setIfInBounds_toArray, List.set_cons_zero, List.set_cons_succ, i64_w, i32_w]
                  rfl
                refine pure_ (i := 2) (N := some 30) (v := ?_) (a' := ?_) #[true, true, true, false, false, false, false, false, false, false, false] rfl rfl (any_of HT_.out (by kernel_rfl)) (fun _ _ _ h => h) (Or.inl ⟨by rfl, ?_⟩) ?_ ?_
                rotate_left
                · intro w'
                  go_simp
                  with_reducible rfl
                rotate_left
                · simp only [Act.put, List.setIfInBounds_toArray, List.set_cons_zero, List.set_cons_succ, i64_w, i32_w]
                  rfl
                refine pure_ (i := 5) (N := some 33) (v := ?_) (a' := ?_) #[true, true, true, false, false, true, false, false, false, false, false] rfl rfl (any_of HT_.out (by kernel_rfl)) (fun _ _ _ h => h) (Or.inl ⟨by rfl, ?_⟩) ?_ ?_
                rotate_left
                · intro w'
                  go_simp
                  with_reducible rfl
                rotate_left
                · simp only [Act.put, List.setIfInBounds_toArray, List.set_cons_zero, List.set_cons_succ, i64_w, i32_w]
                  rfl
                refine pure_ (i := 6) (N := some 34) (v := ?_) (a' := ?_) #[true, true, true, false, false, true, true, false, false, false, false] rfl rfl (any_of HT_.out (by kernel_rfl)) (fun _ _ _ h => h) (Or.inl ⟨by rfl, ?_⟩) ?_ ?_
                rotate_left
                · intro w'
                  go_simp
                  with_reducible rfl
                rotate_left
                · simp only [Act.put, List.setIfInBounds_toArray, List.set_cons_zero, List.set_cons_succ, i64_w, i32_w]
                  rfl
                refine one_ (i := 3) (N := some 31) #[true, true, true, true, false, true, true, false, false, false, false] rfl rfl (one_of HT_.out (by kernel_rfl)) (by decide) (fun K hK => ?_)
                refine goes_ Try.func11 (by kernel_rfl) rfl #[.int .i64 a2, .int .i64 25] (by rfl) rfl rfl (by (try simp only [List.map_toArray, List.map_cons, List.map_nil]); first | done | rfl | (simp only [List.length_drop, List.length_take]; rfl)) ?_
                with_reducible refine (tilefarmgen_Mod.calls a2 25 t193 _ A13.out).mono ?_
                rintro e w' ⟨rfl, ⟨nd, rfl⟩⟩
                refine ⟨_, rfl, ?_⟩
                refine hK.out _ _ trivial (fun hHeld => ?_)
                clear hK K
                refine norm_ (a' := ?_) ?_ ?_
                rotate_left
                · show Act.put _ (some 31) _ = _
                  simp only [Act.put, List.setIfInBounds_toArray, List.set_cons_zero, List.set_cons_succ, i64_w, i32_w]
                  rfl
                refine pure_ (i := 9) (N := some 9) (v := ?_) (a' := ?_) #[true, true, true, true, false, true, true, false, false, true, false] rfl rfl (any_of HT_.out (by kernel_rfl)) (fun _ _ _ h => h) (Or.inl ⟨by rfl, ?_⟩) ?_ ?_
                rotate_left
                · intro w'
                  go_simp
                  with_reducible rfl
                rotate_left
                · simp only [Act.put, List.setIfInBounds_toArray, List.set_cons_zero, List.set_cons_succ, i64_w, i32_w]
                  rfl
                refine one_ (i := 4) (N := some 32) #[true, true, true, true, true, true, true, false, false, true, false] rfl rfl (one_of HT_.out (by kernel_rfl)) (by decide) (fun K hK => ?_)
                refine Kd.R_lit_step (Kd.int .i64) _ 3 ?hg (N := 32) ?hd (xs := ([a2, t193] : List Int)) (inner := [.int .i64 a2, .int .i64 t193]) (ok := fun _ => True) (okp := fun _ => True) ?hr ?hp (fun _ hk => hk) trivial (Below.refl _ _) (Nat.le_refl _) (by simp) ?_; (case hd => rfl); (case hg => rfl); (case hr => first | (go_simp; done) | (go_simp; rfl)); (case hp => exact (Reps.one (show Kd.M (Kd.int .i64) _ _ _ a2 [.int .i64 a2] from rfl) (Reps.one (show Kd.M (Kd.int .i64) _ _ _ t193 [.int .i64 t193] from rfl) (Reps.none _ _))))
                intro v195 w18 ho19 hb hg_ hnew_
                clear hg_ hnew_
                (first | rw [← Ny194.out] at ho19 | (simp only [Int.reduceToNat] at ho19; rw [← Ny194.out] at ho19))
                have n0_ := Aside0.mk (Kd.R_lower ho19 (below_size (by repeat (first | (with_reducible first | exact HB.out | apply below_alloc | apply pw_below_drewN | apply below_drew1 | refine below_set ?_ (IsS49.ge HI187.out)) | exact HB.out))))
                have n1_ := Aside0.mk (IsS49.below (by repeat (first | (with_reducible first | exact HI187.out | apply IsS49.alloc | apply IsS49.drewN | apply IsS49.drew | apply IsS49.set_1) | exact HI187.out)) hb)
                have n2_ := Aside0.mk (below_step (by repeat (first | (with_reducible first | exact HB.out | apply below_alloc | apply pw_below_drewN | apply below_drew1 | refine below_set ?_ (IsS49.ge HI187.out)) | exact HB.out)) hb)
                clear HI187
                clear HB
                have HO196 := n0_
                have HI187 := n1_
                have HB := n2_
                clear n0_ n1_ n2_
                clear hb ho19
                obtain ⟨Ao20, co20, eo20⟩ := Kd.R_slice HO196.out
                subst eo20
                obtain ⟨ado20, fo20, _⟩ := Kd.at_int (Kd.R_reads' HO196.out).2.2 0 (by decide) (by rw [Ny194.out]; simp)
                cases fo20
                refine hK.out _ _ trivial (fun hHeld => ?_)
                clear hK K
                refine norm_ (a' := ?_) ?_ ?_
                rotate_left
                · show Act.put _ (some 32) _ = _
                  simp only [Act.put, List.setIfInBounds_toArray, List.set_cons_zero, List.set_cons_succ, i64_w, i32_w]
                  rfl
                refine pure_ (i := 7) (N := some 35) (v := ?_) (a' := ?_) #[true, true, true, true, true, true, true, true, false, true, false] rfl rfl (any_of HT_.out (by kernel_rfl)) (fun _ _ _ h => h) (Or.inl ⟨by rfl, ?_⟩) ?_ ?_
                rotate_left
                · intro w'
                  go_simp
                  with_reducible rfl
                rotate_left
                · simp only [Act.put, List.setIfInBounds_toArray, List.set_cons_zero, List.set_cons_succ, i64_w, i32_w]
                  rfl
                refine one_ (i := 8) (N := some 36) #[true, true, true, true, true, true, true, true, true, true, false] rfl rfl (one_of HT_.out (by kernel_rfl)) (by decide) (fun K hK => ?_)
                (have p197 : 0 ≤ ((ji14) : Int) := of_decide_eq_true (by first | (with_reducible assumption) | assumption); have q197 : (ji14) < (y194.length : Int) := of_decide_eq_true (by first | (with_reducible assumption) | assumption); obtain ⟨ad197, e197, hx197_0⟩ := Kd.at_int (Kd.R_reads' HO196.out).2.2 (ji14) p197 q197; obtain rfl : ado20 = ad197 := (by injection e197))
                refine value_ (w1 := ?_) (v := ?_) (by rfl) rfl ?_ ?_
                rotate_left 2
                · go_simp
                  constructor
                  · rfl
                  · rfl
                clear hx197_0
                refine hK.out _ _ trivial (fun hHeld => ?_)
                clear hK K
                refine norm_ (a' := ?_) ?_ ?_
                rotate_left
                · show Act.put _ (some 36) _ = _
                  simp only [Act.put, List.setIfInBounds_toArray, List.set_cons_zero, List.set_cons_succ, i64_w, i32_w]
                  rfl
                refine pure_ (i := 10) (N := some 10) (v := ?_) (a' := ?_) #[true, true, true, true, true, true, true, true, true, true, true] rfl rfl (any_of HT_.out (by kernel_rfl)) (fun _ _ _ h => h) (Or.inl ⟨by rfl, ?_⟩) ?_ ?_
                rotate_left
                · intro w'
                  go_simp
                  with_reducible rfl
                rotate_left
                · simp only [Act.put, List.setIfInBounds_toArray, List.set_cons_zero, List.set_cons_succ, i64_w, i32_w]
                  rfl
                refine done_ (done_of HT_.out (by kernel_rfl)) ?_
                try go_wp2
                go_meet
                case rel => exact ⟨_, (a1), (rd y194 (ji14)), (by first | rfl | (simp; done) | (simp [*]; done)), (by first | rfl | (simp; done) | (simp only [← hji14] <;> (first | rfl | simp)) | (simp [*]; done)), (by first | exact H' | ((try (rw [hji14])); exact H')), ⟨by have := HK1.out; first | omega | exact Nat.le_refl _⟩, ⟨by repeat (first | (with_reducible first | exact HI187.out | apply IsS49.alloc | apply IsS49.drewN | apply IsS49.drew | apply IsS49.set_1) | exact HI187.out)⟩, ⟨by repeat (first | (with_reducible first | exact HB.out | apply below_alloc | apply pw_below_drewN | apply below_drew1 | refine below_set ?_ (IsS49.ge HI187.out)) | exact HB.out)⟩⟩
              · rw [if_neg c16] at H
                exact absurd H (by simp)
            · rw [if_neg c15] at H
              exact absurd H (by simp)
          · rw [if_neg c12] at H
            have c12b0 : decide (5 < x8_1) = false := decide_eq_false c12
            clear c12
            (first | rw [c12b0] | (simp only [i64_w, i32_w]; rw [c12b0]) | skip)
            have H' := Aside0.mk H
            clear H
            go_wp2
            go_meet
            case rel => exact ⟨_, (t189), (wrap64 (t191 - 1)), (by first | rfl | (simp; done) | (simp [*]; done)), (by first | rfl | (simp; done) | (simp [*]; done)), (by first | exact H' | ((try (rw [hji14])); exact H')), ⟨by have := HK1.out; first | omega | exact Nat.le_refl _⟩, ⟨by repeat (first | (with_reducible first | exact HI187.out | apply IsS49.alloc | apply IsS49.drewN | apply IsS49.drew | apply IsS49.set_1) | exact HI187.out)⟩, ⟨by repeat (first | (with_reducible first | exact HB.out | apply below_alloc | apply pw_below_drewN | apply below_drew1 | refine below_set ?_ (IsS49.ge HI187.out)) | exact HB.out)⟩⟩
        case rest =>
          clear HC9
          try clear c1
          try clear p1
          try clear q1
          try clear hx1
          try clear qi1
          try clear p2
          try clear c3
          try clear c6
          try clear c6b0
          try clear p6
          try clear c8
          try clear c9
          try clear c10
          try clear c11
          try clear c12
          try clear c12b0
          try clear c15
          try clear c15b0
          try clear c16
          try clear c16b0
          try clear p19
          try clear q19
          try clear hx19
          try clear qi19
          try clear hx197_0
          try clear p197
          try clear p2
          try clear q197
          obtain ⟨kq, x9_8, x10_8, rfl, rfl, HA, HJ8, HI187, HB⟩ := hcut
          cases kq with
          | zero => exact absurd HA.out (by simp [tilefarmlaw6_IeeeScales.j1])
          | succ kj8 =>
            have H := HA.out
            clear HA
            simp only [tilefarmlaw6_IeeeScales.j1] at H
            replace H := Option.bind_eq_some_iff.mp H
            obtain ⟨⟨t198, t199⟩, A210, H⟩ := H
            replace H : ((tilefarmref6_Scale.f kj8 x9_8 x10_8).bind fun bt200 => (if t198 = bt200.1 then (if t199 = bt200.2 then (tilefarmlaw6_IeeeScales.l0 kj8 a1 a2 (wrap64 (x8_1 + 1)) t185 t192) else (some false)) else (some false))) = some r := H
            have A21 := Aside0.mk A210
            clear A210
            replace H := Option.bind_eq_some_iff.mp H
            obtain ⟨⟨t200, t201⟩, A220, H⟩ := H
            replace H : (if t198 = t200 then (if t199 = t201 then (tilefarmlaw6_IeeeScales.l0 kj8 a1 a2 (wrap64 (x8_1 + 1)) t185 t192) else (some false)) else (some false)) = some r := H
            have A22 := Aside0.mk A220
            clear A220
            by_cases c23 : t198 = t200
            · rw [if_pos c23] at H
              have c23b0 : (t198 == t200) = true := beq_iff_eq.mpr c23
              have c23b1 : (t198 != t200) = false := bne_eq_false_iff_eq.mpr c23
              clear c23
              by_cases c24 : t199 = t201
              · rw [if_pos c24] at H
                have c24b0 : (t199 == t201) = true := beq_iff_eq.mpr c24
                have c24b1 : (t199 != t201) = false := bne_eq_false_iff_eq.mpr c24
                clear c24
                have H' := Aside0.mk H
                clear H
                go_wp2_with (first | ((with_reducible refine gate_callee (f := 12) rfl ?_); refine goesL_ (some 40) rfl rfl Try.func12 (by kernel_rfl) rfl #[.int .u64 x9_8, .int .i64 x10_8] rfl (by (try simp only [List.map_toArray, List.map_cons, List.map_nil]); first | done | rfl | (simp only [List.length_drop, List.length_take]; rfl)) ?_; (with_reducible refine (ieee_Scale.calls kj8 x9_8 x10_8 t198 t199 _ A21.out).mono ?_); rintro e w25 ⟨rfl, hb⟩; refine ⟨_, rfl, ?_⟩; have n0_ := Aside0.mk (IsS49.below (by repeat (first | (with_reducible first | exact HI187.out | apply IsS49.alloc | apply IsS49.drewN | apply IsS49.drew | apply IsS49.set_1) | exact HI187.out)) hb); have n1_ := Aside0.mk (below_step (by repeat (first | (with_reducible first | exact HB.out | apply below_alloc | apply pw_below_drewN | apply below_drew1 | refine below_set ?_ (IsS49.ge HI187.out)) | exact HB.out)) hb); clear HI187; clear HB; have HI187 := n0_; have HB := n1_; clear n0_ n1_; (try clear hb); (try clear hb2); (try clear hk); (try clear hi)) | ((with_reducible refine gate_callee (f := 13) rfl ?_); refine goesL_ (some 46) rfl rfl Try.func13 (by kernel_rfl) rfl #[.int .u64 x9_8, .int .i64 x10_8] rfl (by (try simp only [List.map_toArray, List.map_cons, List.map_nil]); first | done | rfl | (simp only [List.length_drop, List.length_take]; rfl)) ?_; (with_reducible refine (tilefarmref6_Scale.calls kj8 x9_8 x10_8 t200 t201 _ A22.out).mono ?_); rintro e w' ⟨rfl, ⟨nd, rfl⟩⟩; refine ⟨_, rfl, ?_⟩))
                go_roundg kj8
                case measure => have := HK1.out; have := HJ8.out; omega
                case rel => exact ⟨(wrap64 (x8_1 + 1)), (t192), (by first | rfl | (simp; done) | (simp [*]; done)), (by first | exact H' | ((try (rw [hji14])); exact H')), ⟨by have := HK1.out; have := HJ8.out; omega⟩, ⟨by repeat (first | (with_reducible first | exact HI187.out | apply IsS49.alloc | apply IsS49.drewN | apply IsS49.drew | apply IsS49.set_1) | exact HI187.out)⟩, ⟨by repeat (first | (with_reducible first | exact HB.out | apply below_alloc | apply pw_below_drewN | apply below_drew1 | refine below_set ?_ (IsS49.ge HI187.out)) | exact HB.out)⟩⟩
              · rw [if_neg c24] at H
                have c24b0 : (t199 == t201) = false := beq_eq_false_iff_ne.mpr c24
                have c24b1 : (t199 != t201) = true := bne_iff_ne.mpr c24
                exact absurd ((Option.some.inj H).trans HT.out) (by decide)
            · rw [if_neg c23] at H
              have c23b0 : (t198 == t200) = false := beq_eq_false_iff_ne.mpr c23
              have c23b1 : (t198 != t200) = true := bne_iff_ne.mpr c23
              exact absurd ((Option.some.inj H).trans HT.out) (by decide)
      · rw [if_neg c6] at H
        have c6b0 : decide (x8_1 < 8) = false := decide_eq_false c6
        clear c6
        replace H := Option.bind_eq_some_iff.mp H
        obtain ⟨t188, A260, H⟩ := H
        replace H : (some t188) = some r := H
        have A26 := Aside0.mk A260
        clear A260
        obtain rfl := Option.some.inj H
        go_wp2_with (first | ((with_reducible refine gate_callee (f := 14) rfl ?_); refine goesL_ (some 57) rfl rfl Try.func14 (by kernel_rfl) rfl #[] rfl (by (try simp only [List.map_toArray, List.map_cons, List.map_nil]); first | done | rfl | (simp only [List.length_drop, List.length_take]; rfl)) ?_; (with_reducible refine (tilefarmlaw6_sane.calls k1  t188 _ A26.out).mono ?_); rintro e w27 ⟨rfl, hb⟩; refine ⟨_, rfl, ?_⟩; have n0_ := Aside0.mk (IsS49.below (by repeat (first | (with_reducible first | exact HI187.out | apply IsS49.alloc | apply IsS49.drewN | apply IsS49.drew | apply IsS49.set_1) | exact HI187.out)) hb); have n1_ := Aside0.mk (below_step (by repeat (first | (with_reducible first | exact HB.out | apply below_alloc | apply pw_below_drewN | apply below_drew1 | refine below_set ?_ (IsS49.ge HI187.out)) | exact HB.out)) hb); clear HI187; clear HB; have HI187 := n0_; have HB := n1_; clear n0_ n1_; (try clear hb); (try clear hb2); (try clear hk); (try clear hi)))
        go_ret
        exact ⟨by first | rfl | (simp [errW_none, errW_some] <;> rfl) | (simp [*, errW_none, errW_some] <;> rfl), by repeat (first | (with_reducible first | exact HB.out | apply below_alloc | apply pw_below_drewN | apply below_drew1 | refine below_set ?_ (IsS49.ge HI187.out)) | exact HB.out)⟩

/-- THE ONE PURE STATEMENT of tilefarmlaw6_IeeeScales: yours. -/
def tilefarmlaw6_IeeeScales.Pure : Prop := ∀ (l0 : List Int) (a1 : Int) (a2 : Int), l0.length ≤ maxLen → l0.length * 8 ≤ 140737488351232 → (∀ x ∈ l0, (Lit.int .i64 x).wf = true) → (Lit.int .u64 a1).wf = true → (Lit.int .i64 a2).wf = true → ∃ k, tilefarmlaw6_IeeeScales.f k l0 a1 a2 = some true
theorem tilefarmlaw6_IeeeScales.walk (P : tilefarmlaw6_IeeeScales.Pure) (a0 : Option Addr) (len0 cap0 : Nat) (z0 : List Int) (a1 : Int) (a2 : Int) (w : World) (w0 : (a0 = none ∧ len0 = 0 ∧ cap0 = 0 ∧ z0 = []) ∨ ∃ x, a0 = some x ∧ len0 ≤ cap0 ∧ cap0 ≤ maxLen ∧ z0.length = cap0 ∧ (∀ i, i < z0.length → w.cell? (x.add i) = some (.int .i64 (z0.getD i 0))) ∧ ∀ n ∈ z0, (Lit.int .i64 n).wf = true) (y0 : len0 * 8 ≤ 140737488351232) (w1 : (Lit.int .u64 a1).wf = true) (w2 : (Lit.int .i64 a2).wf = true) :
    Calls Try.prog 3 #[.slice a0 len0 cap0, .int .u64 a1, .int .i64 a2] w fun e w' => e = .returned (.bool true) ∧ Below w.heap.size w w' := by
  obtain ⟨l0, rfl, hr0, hm0, hw0, hc0⟩ := ReadsInt.ofRowC w0
  obtain ⟨k, h⟩ := P l0 a1 a2 hm0 y0 hw0 w1 w2
  refine (tilefarmlaw6_IeeeScales.calls k _ _ l0 a1 a2 true w (Kd.C_of_reads (d := (0 : Int)) (h1 := fun _ => rfl) hr0) hc0 h).mono ?_
  rintro e w' ⟨rfl, hd⟩
  exact ⟨rfl, hd⟩

end Go.Proofs.Ytoamkepelnphaaa.PIeeeScales
