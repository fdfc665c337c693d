-- Written by a program of the session (wip/tools/pack.py): the printed texts, pruned; checked by Lean.
import Derived.Test.YthgmndomnibefaaKConvolveCropsa
import Derived.Test.YthgmndomnibefaaKConvolveCropsx0
import Derived.Test.YthgmndomnibefaaKConvolveCropsx2
import Derived.Test.YthgmndomnibefaaKConvolveCropsx8
import Derived.Test.YthgmndomnibefaaKConvolveCropsx9
import Derived.Test.YthgmndomnibefaaKConvolveCropsx11
import Derived.Test.YthgmndomnibefaaKConvolveCropsx13
namespace Go.Proofs.Ythgmndomnibefaa.PConvolveCrops
open Go.RowKit Go.Proofs.YthgmndomnibefaaW.PrintWords Go.Proofs.YthgmndomnibefaaW.PrintLast Go.Proofs.YthgmndomnibefaaW.PrintMore
attribute [local go_sem] max2_int min2_int max_two min_two max_three min_three max_four min_four   -- for this text's walks alone
set_option linter.unusedVariables false
set_option linter.unusedSimpArgs false
def tilefarmlaw9_ConvolveCrops.f (k : Nat) (l0 : List Int) : Option (Bool) := (tilefarmgen_New.f l0).bind fun bt305 => ((tilefarmgen_Tape_Plane.f k bt305.1 bt305.2).bind fun bt308 => ((tilefarmgen_Tape_Weights.f k bt305.1 bt308.2.2.2.2 9).bind fun bt316 => ((tilefarmgen_Tape_Edge.f bt305.1 bt316.2 bt308.2.2.1).bind fun bt320 => ((tilefarmgen_Tape_Next.f bt305.1 bt320.2.2 4).bind fun bt323 => ((tilefarmgen_Tape_Within.f bt305.1 bt323.2 bt308.1 bt308.2.1).bind fun bt326 => ((convolve_Tile.f k bt308.1 bt308.2.1 bt308.2.2.1 bt308.2.2.2.1 bt320.1 bt320.2.1 3 3 bt316.1 bt323.1 255 0 0 bt308.1 bt308.2.1).bind fun bt332 => ((convolve_Tile.f k bt308.1 bt308.2.1 bt308.2.2.1 bt308.2.2.2.1 bt320.1 bt320.2.1 3 3 bt316.1 bt323.1 255 bt326.1 bt326.2.1 bt326.2.2.1 bt326.2.2.2.1).bind fun bt340 => ((tilefarmref4_Crop.f k bt332.1 bt332.2.1 bt332.2.2.1 bt332.2.2.2.1 bt326.1 bt326.2.1 bt326.2.2.1 bt326.2.2.2.1).bind fun bt348 => (if bt332.2.2.2.2 = 0 then (if bt340.2.2.2.2 = 0 then (if bt348.2.2.2.2 = true then ((tilefarmref4_Equal.f k bt340.1 bt340.2.1 bt340.2.2.1 bt340.2.2.2.1 bt348.1 bt348.2.1 bt348.2.2.1 bt348.2.2.2.1).bind fun t356 => (if t356 = true then ((tilefarmlaw9_sane.f k).bind fun t357 => (some t357)) else (some false))) else (some false)) else (some false)) else (some false))))))))))
theorem tilefarmlaw9_ConvolveCrops.mono : ∀ a0 k, LeO (tilefarmlaw9_ConvolveCrops.f k a0) (tilefarmlaw9_ConvolveCrops.f (k + 1) a0) := by
  intro a0 k
  unfold tilefarmlaw9_ConvolveCrops.f
  repeat' first
      | (with_reducible exact convolve_Tile.mono _ _ _ _ _ _ _ _ _ _ _ _ _ _ _ _)
      | (with_reducible exact tilefarmgen_Tape_Plane.mono _ _ _)
      | (with_reducible exact tilefarmgen_Tape_Weights.mono _ _ _ _)
      | (with_reducible exact tilefarmlaw9_sane.mono _)
      | (with_reducible exact tilefarmref4_Crop.mono _ _ _ _ _ _ _ _ _)
      | (with_reducible exact tilefarmref4_Equal.mono _ _ _ _ _ _ _ _ _)
      | (with_reducible exact LeO.refl _)
      | (with_reducible exact LeO.none _)
      | (with_reducible refine LeO.ite ?_ ?_)
      | (with_reducible refine LeO.bind ?_ (fun _ => ?_))
      | exact convolve_Tile.mono _ _ _ _ _ _ _ _ _ _ _ _ _ _ _ _
      | exact tilefarmgen_Tape_Plane.mono _ _ _
      | exact tilefarmgen_Tape_Weights.mono _ _ _ _
      | exact tilefarmlaw9_sane.mono _
      | exact tilefarmref4_Crop.mono _ _ _ _ _ _ _ _ _
      | exact tilefarmref4_Equal.mono _ _ _ _ _ _ _ _ _
      | exact LeO.none _
      | refine LeO.ite ?_ ?_
      | refine LeO.bind ?_ (fun _ => ?_)
def tilefarmlaw9_ConvolveCrops.T3 : Bool × List (List Nat × List Nat) := (true, [([], []), ([0], [0]), ([], []), ([], []), ([3], [3]), ([2, 4, 1], [2, 4]), ([], []), ([6, 5], [6]), ([], []), ([1, 7, 0, 1, 8], [1]), ([8, 5, 9, 0, 1, 2, 3, 4, 5, 8, 9], [5, 8]), ([7, 10, 0, 1, 2, 3, 4, 5, 6, 7, 8, 9, 10], [7])])
def tilefarmlaw9_ConvolveCrops.B3 : List Nat := [0, 1, 0, 0, 8, 31, 0, 127, 0, 511, 1023, 2047]
theorem tilefarmlaw9_ConvolveCrops.tab3 : rtab .any (opsOf Try.f5 3) = tilefarmlaw9_ConvolveCrops.T3 := by kernel_rfl
theorem tilefarmlaw9_ConvolveCrops.bits3 : waitsOk tilefarmlaw9_ConvolveCrops.T3.2 tilefarmlaw9_ConvolveCrops.B3 = true := by kernel_rfl
set_option maxHeartbeats 8000000 in
set_option maxRecDepth 100000 in
theorem tilefarmlaw9_ConvolveCrops.calls (k : Nat) (A0 : Option Addr) (c0 : Nat) (l0 : List Int) (r : Bool) (w : World) (hr0 : Kd.C (Kd.int .i64) w A0 l0.length l0) (hc0 : l0.length ≤ c0) (h : tilefarmlaw9_ConvolveCrops.f k l0 = some r) (hT : r = true := by first | rfl | assumption | exact HT.out) :
    Calls Try.prog 5 #[.slice A0 l0.length c0] w fun e w' => e = .returned (.bool r) ∧ Below w.heap.size w w' := by
  have HT := Aside0.mk hT
  clear hT
  have hu35 := Try.underlying35
  have hu38 := Try.underlying38
  have hu33 := Try.underlying33
  have HR0 := Aside0.mk hr0
  have HC0 := Aside0.mk hc0
  clear hr0 hc0
  have HB := Aside0.mk (Below.refl w.heap.size w)
  have H : ((tilefarmgen_New.f l0).bind fun bt305 => ((tilefarmgen_Tape_Plane.f k bt305.1 bt305.2).bind fun bt308 => ((tilefarmgen_Tape_Weights.f k bt305.1 bt308.2.2.2.2 9).bind fun bt316 => ((tilefarmgen_Tape_Edge.f bt305.1 bt316.2 bt308.2.2.1).bind fun bt320 => ((tilefarmgen_Tape_Next.f bt305.1 bt320.2.2 4).bind fun bt323 => ((tilefarmgen_Tape_Within.f bt305.1 bt323.2 bt308.1 bt308.2.1).bind fun bt326 => ((convolve_Tile.f k bt308.1 bt308.2.1 bt308.2.2.1 bt308.2.2.2.1 bt320.1 bt320.2.1 3 3 bt316.1 bt323.1 255 0 0 bt308.1 bt308.2.1).bind fun bt332 => ((convolve_Tile.f k bt308.1 bt308.2.1 bt308.2.2.1 bt308.2.2.2.1 bt320.1 bt320.2.1 3 3 bt316.1 bt323.1 255 bt326.1 bt326.2.1 bt326.2.2.1 bt326.2.2.2.1).bind fun bt340 => ((tilefarmref4_Crop.f k bt332.1 bt332.2.1 bt332.2.2.1 bt332.2.2.2.1 bt326.1 bt326.2.1 bt326.2.2.1 bt326.2.2.2.1).bind fun bt348 => (if bt332.2.2.2.2 = 0 then (if bt340.2.2.2.2 = 0 then (if bt348.2.2.2.2 = true then ((tilefarmref4_Equal.f k bt340.1 bt340.2.1 bt340.2.2.1 bt340.2.2.2.1 bt348.1 bt348.2.1 bt348.2.2.1 bt348.2.2.2.1).bind fun t356 => (if t356 = true then ((tilefarmlaw9_sane.f k).bind fun t357 => (some t357)) else (some false))) else (some false)) else (some false)) else (some false))))))))))) = some r := h
  clear h
  replace H := Option.bind_eq_some_iff.mp H
  obtain ⟨⟨t305, t306⟩, A20, H⟩ := H
  replace H : ((tilefarmgen_Tape_Plane.f k t305 t306).bind fun bt308 => ((tilefarmgen_Tape_Weights.f k t305 bt308.2.2.2.2 9).bind fun bt316 => ((tilefarmgen_Tape_Edge.f t305 bt316.2 bt308.2.2.1).bind fun bt320 => ((tilefarmgen_Tape_Next.f t305 bt320.2.2 4).bind fun bt323 => ((tilefarmgen_Tape_Within.f t305 bt323.2 bt308.1 bt308.2.1).bind fun bt326 => ((convolve_Tile.f k bt308.1 bt308.2.1 bt308.2.2.1 bt308.2.2.2.1 bt320.1 bt320.2.1 3 3 bt316.1 bt323.1 255 0 0 bt308.1 bt308.2.1).bind fun bt332 => ((convolve_Tile.f k bt308.1 bt308.2.1 bt308.2.2.1 bt308.2.2.2.1 bt320.1 bt320.2.1 3 3 bt316.1 bt323.1 255 bt326.1 bt326.2.1 bt326.2.2.1 bt326.2.2.2.1).bind fun bt340 => ((tilefarmref4_Crop.f k bt332.1 bt332.2.1 bt332.2.2.1 bt332.2.2.2.1 bt326.1 bt326.2.1 bt326.2.2.1 bt326.2.2.2.1).bind fun bt348 => (if bt332.2.2.2.2 = 0 then (if bt340.2.2.2.2 = 0 then (if bt348.2.2.2.2 = true then ((tilefarmref4_Equal.f k bt340.1 bt340.2.1 bt340.2.2.1 bt340.2.2.2.1 bt348.1 bt348.2.1 bt348.2.2.1 bt348.2.2.2.1).bind fun t356 => (if t356 = true then ((tilefarmlaw9_sane.f k).bind fun t357 => (some t357)) else (some false))) else (some false)) else (some false)) else (some false)))))))))) = some r := H
  have A2 := Aside0.mk A20
  clear A20
  replace H := Option.bind_eq_some_iff.mp H
  obtain ⟨⟨t308, t309, t310, t311, t314⟩, A30, H⟩ := H
  replace H : ((tilefarmgen_Tape_Weights.f k t305 t314 9).bind fun bt316 => ((tilefarmgen_Tape_Edge.f t305 bt316.2 t310).bind fun bt320 => ((tilefarmgen_Tape_Next.f t305 bt320.2.2 4).bind fun bt323 => ((tilefarmgen_Tape_Within.f t305 bt323.2 t308 t309).bind fun bt326 => ((convolve_Tile.f k t308 t309 t310 t311 bt320.1 bt320.2.1 3 3 bt316.1 bt323.1 255 0 0 t308 t309).bind fun bt332 => ((convolve_Tile.f k t308 t309 t310 t311 bt320.1 bt320.2.1 3 3 bt316.1 bt323.1 255 bt326.1 bt326.2.1 bt326.2.2.1 bt326.2.2.2.1).bind fun bt340 => ((tilefarmref4_Crop.f k bt332.1 bt332.2.1 bt332.2.2.1 bt332.2.2.2.1 bt326.1 bt326.2.1 bt326.2.2.1 bt326.2.2.2.1).bind fun bt348 => (if bt332.2.2.2.2 = 0 then (if bt340.2.2.2.2 = 0 then (if bt348.2.2.2.2 = true then ((tilefarmref4_Equal.f k bt340.1 bt340.2.1 bt340.2.2.1 bt340.2.2.2.1 bt348.1 bt348.2.1 bt348.2.2.1 bt348.2.2.2.1).bind fun t356 => (if t356 = true then ((tilefarmlaw9_sane.f k).bind fun t357 => (some t357)) else (some false))) else (some false)) else (some false)) else (some false))))))))) = some r := H
  have A3 := Aside0.mk A30
  clear A30
  replace H := Option.bind_eq_some_iff.mp H
  obtain ⟨⟨t316, t319⟩, A40, H⟩ := H
  replace H : ((tilefarmgen_Tape_Edge.f t305 t319 t310).bind fun bt320 => ((tilefarmgen_Tape_Next.f t305 bt320.2.2 4).bind fun bt323 => ((tilefarmgen_Tape_Within.f t305 bt323.2 t308 t309).bind fun bt326 => ((convolve_Tile.f k t308 t309 t310 t311 bt320.1 bt320.2.1 3 3 t316 bt323.1 255 0 0 t308 t309).bind fun bt332 => ((convolve_Tile.f k t308 t309 t310 t311 bt320.1 bt320.2.1 3 3 t316 bt323.1 255 bt326.1 bt326.2.1 bt326.2.2.1 bt326.2.2.2.1).bind fun bt340 => ((tilefarmref4_Crop.f k bt332.1 bt332.2.1 bt332.2.2.1 bt332.2.2.2.1 bt326.1 bt326.2.1 bt326.2.2.1 bt326.2.2.2.1).bind fun bt348 => (if bt332.2.2.2.2 = 0 then (if bt340.2.2.2.2 = 0 then (if bt348.2.2.2.2 = true then ((tilefarmref4_Equal.f k bt340.1 bt340.2.1 bt340.2.2.1 bt340.2.2.2.1 bt348.1 bt348.2.1 bt348.2.2.1 bt348.2.2.2.1).bind fun t356 => (if t356 = true then ((tilefarmlaw9_sane.f k).bind fun t357 => (some t357)) else (some false))) else (some false)) else (some false)) else (some false)))))))) = some r := H
  have A4 := Aside0.mk A40
  clear A40
  replace H := Option.bind_eq_some_iff.mp H
  obtain ⟨⟨t320, t321, t322⟩, A50, H⟩ := H
  replace H : ((tilefarmgen_Tape_Next.f t305 t322 4).bind fun bt323 => ((tilefarmgen_Tape_Within.f t305 bt323.2 t308 t309).bind fun bt326 => ((convolve_Tile.f k t308 t309 t310 t311 t320 t321 3 3 t316 bt323.1 255 0 0 t308 t309).bind fun bt332 => ((convolve_Tile.f k t308 t309 t310 t311 t320 t321 3 3 t316 bt323.1 255 bt326.1 bt326.2.1 bt326.2.2.1 bt326.2.2.2.1).bind fun bt340 => ((tilefarmref4_Crop.f k bt332.1 bt332.2.1 bt332.2.2.1 bt332.2.2.2.1 bt326.1 bt326.2.1 bt326.2.2.1 bt326.2.2.2.1).bind fun bt348 => (if bt332.2.2.2.2 = 0 then (if bt340.2.2.2.2 = 0 then (if bt348.2.2.2.2 = true then ((tilefarmref4_Equal.f k bt340.1 bt340.2.1 bt340.2.2.1 bt340.2.2.2.1 bt348.1 bt348.2.1 bt348.2.2.1 bt348.2.2.2.1).bind fun t356 => (if t356 = true then ((tilefarmlaw9_sane.f k).bind fun t357 => (some t357)) else (some false))) else (some false)) else (some false)) else (some false))))))) = some r := H
  have A5 := Aside0.mk A50
  clear A50
  replace H := Option.bind_eq_some_iff.mp H
  obtain ⟨⟨t323, t324⟩, A60, H⟩ := H
  replace H : ((tilefarmgen_Tape_Within.f t305 t324 t308 t309).bind fun bt326 => ((convolve_Tile.f k t308 t309 t310 t311 t320 t321 3 3 t316 t323 255 0 0 t308 t309).bind fun bt332 => ((convolve_Tile.f k t308 t309 t310 t311 t320 t321 3 3 t316 t323 255 bt326.1 bt326.2.1 bt326.2.2.1 bt326.2.2.2.1).bind fun bt340 => ((tilefarmref4_Crop.f k bt332.1 bt332.2.1 bt332.2.2.1 bt332.2.2.2.1 bt326.1 bt326.2.1 bt326.2.2.1 bt326.2.2.2.1).bind fun bt348 => (if bt332.2.2.2.2 = 0 then (if bt340.2.2.2.2 = 0 then (if bt348.2.2.2.2 = true then ((tilefarmref4_Equal.f k bt340.1 bt340.2.1 bt340.2.2.1 bt340.2.2.2.1 bt348.1 bt348.2.1 bt348.2.2.1 bt348.2.2.2.1).bind fun t356 => (if t356 = true then ((tilefarmlaw9_sane.f k).bind fun t357 => (some t357)) else (some false))) else (some false)) else (some false)) else (some false)))))) = some r := H
  have A6 := Aside0.mk A60
  clear A60
  replace H := Option.bind_eq_some_iff.mp H
  obtain ⟨⟨t326, t327, t328, t329, t330⟩, A70, H⟩ := H
  replace H : ((convolve_Tile.f k t308 t309 t310 t311 t320 t321 3 3 t316 t323 255 0 0 t308 t309).bind fun bt332 => ((convolve_Tile.f k t308 t309 t310 t311 t320 t321 3 3 t316 t323 255 t326 t327 t328 t329).bind fun bt340 => ((tilefarmref4_Crop.f k bt332.1 bt332.2.1 bt332.2.2.1 bt332.2.2.2.1 t326 t327 t328 t329).bind fun bt348 => (if bt332.2.2.2.2 = 0 then (if bt340.2.2.2.2 = 0 then (if bt348.2.2.2.2 = true then ((tilefarmref4_Equal.f k bt340.1 bt340.2.1 bt340.2.2.1 bt340.2.2.2.1 bt348.1 bt348.2.1 bt348.2.2.1 bt348.2.2.2.1).bind fun t356 => (if t356 = true then ((tilefarmlaw9_sane.f k).bind fun t357 => (some t357)) else (some false))) else (some false)) else (some false)) else (some false))))) = some r := H
  have A7 := Aside0.mk A70
  clear A70
  replace H := Option.bind_eq_some_iff.mp H
  obtain ⟨⟨t332, t333, t334, t335, t338⟩, A80, H⟩ := H
  replace H : ((convolve_Tile.f k t308 t309 t310 t311 t320 t321 3 3 t316 t323 255 t326 t327 t328 t329).bind fun bt340 => ((tilefarmref4_Crop.f k t332 t333 t334 t335 t326 t327 t328 t329).bind fun bt348 => (if t338 = 0 then (if bt340.2.2.2.2 = 0 then (if bt348.2.2.2.2 = true then ((tilefarmref4_Equal.f k bt340.1 bt340.2.1 bt340.2.2.1 bt340.2.2.2.1 bt348.1 bt348.2.1 bt348.2.2.1 bt348.2.2.2.1).bind fun t356 => (if t356 = true then ((tilefarmlaw9_sane.f k).bind fun t357 => (some t357)) else (some false))) else (some false)) else (some false)) else (some false)))) = some r := H
  have A8 := Aside0.mk A80
  clear A80
  replace H := Option.bind_eq_some_iff.mp H
  obtain ⟨⟨t340, t341, t342, t343, t346⟩, A90, H⟩ := H
  replace H : ((tilefarmref4_Crop.f k t332 t333 t334 t335 t326 t327 t328 t329).bind fun bt348 => (if t338 = 0 then (if t346 = 0 then (if bt348.2.2.2.2 = true then ((tilefarmref4_Equal.f k t340 t341 t342 t343 bt348.1 bt348.2.1 bt348.2.2.1 bt348.2.2.2.1).bind fun t356 => (if t356 = true then ((tilefarmlaw9_sane.f k).bind fun t357 => (some t357)) else (some false))) else (some false)) else (some false)) else (some false))) = some r := H
  have A9 := Aside0.mk A90
  clear A90
  replace H := Option.bind_eq_some_iff.mp H
  obtain ⟨⟨t348, t349, t350, t351, t354⟩, A100, H⟩ := H
  replace H : (if t338 = 0 then (if t346 = 0 then (if t354 = true then ((tilefarmref4_Equal.f k t340 t341 t342 t343 t348 t349 t350 t351).bind fun t356 => (if t356 = true then ((tilefarmlaw9_sane.f k).bind fun t357 => (some t357)) else (some false))) else (some false)) else (some false)) else (some false)) = some r := H
  have A10 := Aside0.mk A100
  clear A100
  by_cases c11 : t338 = 0
  · rw [if_pos c11] at H
    have c11b0 : (t338 == 0) = true := beq_iff_eq.mpr c11
    have c11b1 : (t338 != 0) = false := bne_eq_false_iff_eq.mpr c11
    clear c11
    by_cases c12 : t346 = 0
    · rw [if_pos c12] at H
      have c12b0 : (t346 == 0) = true := beq_iff_eq.mpr c12
      have c12b1 : (t346 != 0) = false := bne_eq_false_iff_eq.mpr c12
      clear c12
      by_cases c13 : t354 = true
      · subst c13
        have H1 : ((tilefarmref4_Equal.f k t340 t341 t342 t343 t348 t349 t350 t351).bind fun t356 => (if t356 = true then ((tilefarmlaw9_sane.f k).bind fun t357 => (some t357)) else (some false))) = some r := by rw [if_pos rfl] at H; exact H
        clear H
        have H := H1
        clear H1
        replace H := Option.bind_eq_some_iff.mp H
        obtain ⟨t356, A140, H⟩ := H
        replace H : (if t356 = true then ((tilefarmlaw9_sane.f k).bind fun t357 => (some t357)) else (some false)) = some r := H
        have A14 := Aside0.mk A140
        clear A140
        by_cases c15 : t356 = true
        · subst c15
          have H1 : ((tilefarmlaw9_sane.f k).bind fun t357 => (some t357)) = some r := by rw [if_pos rfl] at H; exact H
          clear H
          have H := H1
          clear H1
          replace H := Option.bind_eq_some_iff.mp H
          obtain ⟨t357, A160, H⟩ := H
          replace H : (some t357) = some r := H
          have A16 := Aside0.mk A160
          clear A160
          obtain rfl := Option.some.inj H
          go_enter Try.func5, Try.ntmps5
          try go_wp2_with (first | ((with_reducible refine gate_callee (f := 8) rfl ?_); refine goesL_ (some 16) rfl rfl Try.func8 (by kernel_rfl) rfl #[.slice A0 l0.length c0] rfl q109_ ?_; (with_reducible refine (tilefarmgen_New.calls _ _ l0 t305 t306 w _ ?side1 ?side2 ?side3 A2.out).mono ?_); (case side1 => repeat (first | (with_reducible first | exact HB.out | apply below_alloc | apply pw_below_drewN | apply below_drew1) | exact HB.out)); (case side2 => exact HR0.out); (case side3 => exact HC0.out); rintro e w17 ⟨g307, rfl, hi, hb, hb2⟩; refine ⟨_, rfl, ?_⟩; have n0_ := Aside0.mk (hb); have n1_ := Aside0.mk (hi); clear HB; have HB := n0_; have HI307 := n1_; clear n0_ n1_; (try clear hb); (try clear hb2); (try clear hk); (try clear hi)) | ((with_reducible refine gate_callee (f := 15) rfl ?_); refine goesL_ (some 18) rfl rfl Try.func15 (by kernel_rfl) rfl #[.pointer (some ⟨g307, 0, none⟩)] rfl q109_ ?_; (with_reducible refine (tilefarmgen_Tape_Plane.calls k g307 t305 t306 t308 t309 t310 t311 t314 w _ ?side1 ?side2 A3.out).mono ?_); (case side1 => repeat (first | (with_reducible first | exact HI307.out | apply IsS54.alloc | apply IsS54.drewN | apply IsS54.drew | apply IsS54.set_1) | exact HI307.out)); (case side2 => repeat (first | (with_reducible first | exact HB.out | apply below_alloc | apply pw_below_drewN | apply below_drew1 | refine below_set ?_ (IsS54.ge HI307.out)) | exact HB.out)); rintro e w18 ⟨v312, rfl, ho0, hi, hb, hk⟩; refine ⟨_, rfl, ?_⟩; have n0_ := Aside0.mk (Kd.R_lower ho0 (below_size q85_)); have n1_ := Aside0.mk (hb); have n2_ := Aside0.mk (hi); clear HB; clear HI307; have HO313 := n0_; have HB := n1_; have HI307 := n2_; clear n0_ n1_ n2_; (try clear hb); (try clear hb2); (try clear hk); (try clear hi); (try clear ho0)) | ((with_reducible refine gate_dst (N := 4) rfl ?_); refine box_event ?hg (N := 4) ?hd (cs := #[.int .i64 0, .int .i64 0, .int .i64 0, .slice none 0 0]) (t := 35) ?hr ?_; (case hd => rfl); (case hg => rfl); (case hr => first | (go_simp; done) | (go_simp; rfl)); intro gb315 hg w19 hbox hb; have n0_ := Aside0.mk (Kd.R_below q159_ hb); have n1_ := Aside0.mk (IsS54.below (by repeat (first | (with_reducible first | exact HI307.out | apply IsS54.alloc | apply IsS54.drewN | apply IsS54.drew | apply IsS54.set_1) | exact HI307.out)) hb); have n2_ := Aside0.mk (below_step q85_ hb); have n3_ := Aside0.mk (hbox); have n4_ := Aside0.mk ((by rw [hg]; exact (below_size q85_) : w.heap.size ≤ gb315)); have n5_ := Aside0.mk ((by rw [hg]; exact (below_size q85_) : w.heap.size ≤ gb315)); have n6_ := Aside0.mk ((by rw [hg]; exact Nat.ne_of_lt (IsS54.lt (show IsS54 w _ g307 t305 t314 from by repeat (first | (with_reducible first | exact HI307.out | apply IsS54.alloc | apply IsS54.drewN | apply IsS54.drew | apply IsS54.set_1) | exact HI307.out))) : g307 ≠ gb315)); have n7_ := Aside0.mk ((by rw [hg]; exact Nat.ne_of_gt (IsS54.lt (show IsS54 w _ g307 t305 t314 from by repeat (first | (with_reducible first | exact HI307.out | apply IsS54.alloc | apply IsS54.drewN | apply IsS54.drew | apply IsS54.set_1) | exact HI307.out))) : gb315 ≠ g307)); clear HO313; clear HI307; clear HB; have HO313 := n0_; have HI307 := n1_; have HB := n2_; have BK315 := n3_; have GW315 := n4_; have GE315 := n5_; have NB307_315 := n6_; have NB315_307 := n7_; clear n0_ n1_ n2_ n3_ n4_ n5_ n6_ n7_; clear hb hbox hg; have hnb20 := NB315_307.out; have hnc20 := NB307_315.out; have hcz21_0 : w19.cell? ⟨gb315, 0, none⟩ = some (.int .i64 0) := (blk_cell BK315.out 0).trans rfl; have hcz21_1 : w19.cell? ⟨gb315, 1, none⟩ = some (.int .i64 0) := (blk_cell BK315.out 1).trans rfl; have hcz21_2 : w19.cell? ⟨gb315, 2, none⟩ = some (.int .i64 0) := (blk_cell BK315.out 2).trans rfl; have hcz21_3 : w19.cell? ⟨gb315, 3, none⟩ = some (.slice none 0 0) := (blk_cell BK315.out 3).trans rfl; have hfz21_0 := blk_frozen BK315.out 0; have hfz21_1 := blk_frozen BK315.out 1; have hfz21_2 := blk_frozen BK315.out 2; have hfz21_3 := blk_frozen BK315.out 3; obtain ⟨Ao22, co22, eo22⟩ := Kd.R_slice HO313.out; subst eo22))
          have n0_ : Aside0 (Kd.R (Kd.int .i64) 3 ((((w19.setCell ⟨gb315, 0, none⟩ (.int .i64 t308)).setCell ⟨gb315, 1, none⟩ (.int .i64 t309)).setCell ⟨gb315, 2, none⟩ (.int .i64 t310)).setCell ⟨gb315, 3, none⟩ (.slice Ao22 t311.length co22)) w.heap.size (fun _ => True) (.slice Ao22 t311.length co22) t311) := ⟨by (with_reducible repeat (first | apply Kd.R_alloc | apply Kd.R_drewN | apply Kd.R_drew)); exact Kd.R_mono (Kd.R_far (p := ⟨gb315, 3, none⟩) (Kd.R_far (p := ⟨gb315, 2, none⟩) (Kd.R_far (p := ⟨gb315, 1, none⟩) (Kd.R_far (p := ⟨gb315, 0, none⟩) (Kd.R_types HO313.out BK315.out (by decide)) (fun _ hk => hk.2) (.int .i64 t308)) (fun _ hk => hk.2) (.int .i64 t309)) (fun _ hk => hk.2) (.int .i64 t310)) (fun _ hk => hk.2) (.slice Ao22 t311.length co22)) (fun _ hk => trivial)⟩
          have n1_ : Aside0 (((((w19.setCell ⟨gb315, 0, none⟩ (.int .i64 t308)).setCell ⟨gb315, 1, none⟩ (.int .i64 t309)).setCell ⟨gb315, 2, none⟩ (.int .i64 t310)).setCell ⟨gb315, 3, none⟩ (.slice Ao22 t311.length co22)).heap[gb315]? = some (.cells #[.int .i64 t308, .int .i64 t309, .int .i64 t310, .slice Ao22 t311.length co22] 35 (0, 0))) := ⟨by (with_reducible repeat (first | refine blk_drewN ?_ _ | refine blk_drew ?_ | refine blk_alloc ?_ _)); refine blk_put (cs := #[.int .i64 t308, .int .i64 t309, .int .i64 t310, .slice none 0 0]) ?_ 3 _ rfl; (with_reducible repeat (first | refine blk_drewN ?_ _ | refine blk_drew ?_ | refine blk_alloc ?_ _)); refine blk_put (cs := #[.int .i64 t308, .int .i64 t309, .int .i64 0, .slice none 0 0]) ?_ 2 _ rfl; (with_reducible repeat (first | refine blk_drewN ?_ _ | refine blk_drew ?_ | refine blk_alloc ?_ _)); refine blk_put (cs := #[.int .i64 t308, .int .i64 0, .int .i64 0, .slice none 0 0]) ?_ 1 _ rfl; (with_reducible repeat (first | refine blk_drewN ?_ _ | refine blk_drew ?_ | refine blk_alloc ?_ _)); refine blk_put (cs := #[.int .i64 0, .int .i64 0, .int .i64 0, .slice none 0 0]) ?_ 0 _ rfl; (with_reducible repeat (first | refine blk_drewN ?_ _ | refine blk_drew ?_ | refine blk_alloc ?_ _)); exact BK315.out⟩
          have n2_ : Aside0 (IsS54 w ((((w19.setCell ⟨gb315, 0, none⟩ (.int .i64 t308)).setCell ⟨gb315, 1, none⟩ (.int .i64 t309)).setCell ⟨gb315, 2, none⟩ (.int .i64 t310)).setCell ⟨gb315, 3, none⟩ (.slice Ao22 t311.length co22)) g307 t305 t314) := ⟨q79_⟩
          have n3_ : Aside0 (Below w.heap.size w ((((w19.setCell ⟨gb315, 0, none⟩ (.int .i64 t308)).setCell ⟨gb315, 1, none⟩ (.int .i64 t309)).setCell ⟨gb315, 2, none⟩ (.int .i64 t310)).setCell ⟨gb315, 3, none⟩ (.slice Ao22 t311.length co22))) := ⟨q63_⟩
          (try clear HO313)
          (try clear BK315)
          (try clear HI307)
          (try clear HB)
          generalize ((((w19.setCell ⟨gb315, 0, none⟩ (.int .i64 t308)).setCell ⟨gb315, 1, none⟩ (.int .i64 t309)).setCell ⟨gb315, 2, none⟩ (.int .i64 t310)).setCell ⟨gb315, 3, none⟩ (.slice Ao22 t311.length co22)) = w23 at n0_ n1_ n2_ n3_ ⊢
          have HO313 := n0_
          have BK315 := n1_
          have HI307 := n2_
          have HB := n3_
          clear n0_ n1_ n2_ n3_
          have n0_ := Aside0.mk (Kd.R_drew HO313.out)
          have n1_ := Aside0.mk (blk_drew BK315.out)
          have n2_ := Aside0.mk (IsS54.drew HI307.out)
          have n3_ := Aside0.mk (below_drew1 HB.out)
          clear HO313
          clear BK315
          clear HI307
          clear HB
          have HO313 := n0_
          have BK315 := n1_
          have HI307 := n2_
          have HB := n3_
          clear n0_ n1_ n2_ n3_
          refine start_ (n := 12) (S := fun w' => w'.cell? ⟨gb315, 0, none⟩ = some (.int .i64 t308) ∧ w'.cell? ⟨gb315, 1, none⟩ = some (.int .i64 t309) ∧ w'.cell? ⟨gb315, 2, none⟩ = some (.int .i64 t310) ∧ w'.cell? ⟨gb315, 3, none⟩ = some (.slice Ao22 t311.length co22)) (ds := []) #[false, false, false, false, false, false, false, false, false, false, false, false] (by kernel_rfl) rfl rfl ⟨(blk_cell BK315.out 0).trans rfl, (blk_cell BK315.out 1).trans rfl, (blk_cell BK315.out 2).trans rfl, (blk_cell BK315.out 3).trans rfl⟩ (fun hHeld => ?_); refine with_tabW tilefarmlaw9_ConvolveCrops.tab3 tilefarmlaw9_ConvolveCrops.bits3 (fun HT_ HW_ => ?_)
          generalize w23.drew = w24 at HO313 BK315 HI307 HB hHeld ⊢
          refine pure_ (i := 0) (N := some 19) (v := ?_) (a' := ?_) #[true, false, false, false, false, false, false, false, false, false, false, false] rfl rfl (any_of HT_.out (by kernel_rfl)) (fun _ _ _ h => h) (Or.inl ⟨by rfl, ?_⟩) ?_ ?_
          rotate_left
          · intro w'
            go_simp
            with_reducible rfl
          rotate_left
          · simp only [Act.put, List.setIfInBounds_toArray, List.set_cons_zero, List.set_cons_succ, i64_w, i32_w]
            rfl
          refine pure_ (i := 2) (N := some 21) (v := ?_) (a' := ?_) #[true, false, true, false, false, false, false, false, false, false, false, false] rfl rfl (any_of HT_.out (by kernel_rfl)) (fun _ _ _ h => h) (Or.inl ⟨by rfl, ?_⟩) ?_ ?_
          rotate_left
          · intro w'
            go_simp
            with_reducible rfl
          rotate_left
          · simp only [Act.put, List.setIfInBounds_toArray, List.set_cons_zero, List.set_cons_succ, i64_w, i32_w]
            rfl
          refine pure_ (i := 3) (N := some 22) (v := ?_) (a' := ?_) #[true, false, true, true, false, false, false, false, false, false, false, false] rfl rfl (any_of HT_.out (by kernel_rfl)) (fun _ _ _ h => h) (Or.inl ⟨by rfl, ?_⟩) ?_ ?_
          rotate_left
          · intro w'
            go_simp
            with_reducible rfl
          rotate_left
          · simp only [Act.put, List.setIfInBounds_toArray, List.set_cons_zero, List.set_cons_succ, i64_w, i32_w]
            rfl
          refine pure_ (i := 6) (N := some 25) (v := ?_) (a' := ?_) #[true, false, true, true, false, false, true, false, false, false, false, false] rfl rfl (any_of HT_.out (by kernel_rfl)) (fun _ _ _ h => h) (Or.inl ⟨by rfl, ?_⟩) ?_ ?_
          rotate_left
          · intro w'
            go_simp
            with_reducible rfl
          rotate_left
          · simp only [Act.put, List.setIfInBounds_toArray, List.set_cons_zero, List.set_cons_succ, i64_w, i32_w]
            rfl
          refine take_ (i := 4) (N := some 23) (v := ?_) (a' := ?_) #[true, false, true, true, true, false, true, false, false, false, false, false] rfl rfl (take_ofW HT_.out HW_.out (by kernel_rfl)) (fun _ _ _ h => h) (Or.inl ⟨by rfl, ?_⟩) hHeld ?_ ?_
          rotate_left
          · rintro w' ⟨s0, s1, s2, s3⟩
            go_simp
            with_reducible rfl
          rotate_left
          · simp only [Act.put, List.setIfInBounds_toArray, List.set_cons_zero, List.set_cons_succ, i64_w, i32_w]
            rfl
          refine join_ (σ := Value × Nat) 3 #[true, true, true, true, true, true, true, true, true, false, false, false] (fun s_ => [(20, s_.1), (24, .agg #[.int .i64 t320, .int .i64 t321]), (26, .int .i64 t323), (6, .pointer (some ⟨s_.2, 0, none⟩))]) (fun s_ w' => (w'.cell? ⟨gb315, 0, none⟩ = some (.int .i64 t308) ∧ w'.cell? ⟨gb315, 1, none⟩ = some (.int .i64 t309) ∧ w'.cell? ⟨gb315, 2, none⟩ = some (.int .i64 t310) ∧ w'.cell? ⟨gb315, 3, none⟩ = some (.slice Ao22 t311.length co22)) ∧ (Kd.R (Kd.int .i64) 3 w' w.heap.size (fun k_ => some k_ ≠ (s_.1 : Value).ownBlock) (.slice Ao22 t311.length co22) t311) ∧ (Kd.R (Kd.int .i64) 3 w' w.heap.size (fun k_ => some k_ ≠ (.slice Ao22 t311.length co22 : Value).ownBlock) s_.1 t316) ∧ (w'.heap[gb315]? = some (.cells #[.int .i64 t308, .int .i64 t309, .int .i64 t310, .slice Ao22 t311.length co22] 35 (0, 0))) ∧ (w'.heap[s_.2]? = some (.cells #[.int .i64 0, .int .i64 0] 38 (0, 0))) ∧ (w.heap.size ≤ s_.2) ∧ (w.heap.size ≤ s_.2) ∧ (g307 ≠ s_.2) ∧ (s_.2 ≠ g307) ∧ (gb315 ≠ s_.2) ∧ (s_.2 ≠ gb315) ∧ (IsS54 w w' g307 t305 t324) ∧ (Below w.heap.size w w')) ?_ ?_
          rotate_left
          · intro hCont
            refine two_ (i := 1) (j := 8) (Ni := some 20) (Nj := some 6) #[true, true, true, true, true, false, true, false, false, false, false, false] #[true, false, true, true, true, false, true, false, true, false, false, false] rfl rfl rfl rfl (two_of HT_.out (by kernel_rfl)) (by decide) (by decide) (fun K hK => ?_) (fun K hK => ?_)
            · skip
              refine goes_ Try.func10 (by kernel_rfl) rfl #[.pointer (some ⟨g307, 0, none⟩), .int .i64 9] (by rfl) rfl rfl q109_ ?_
              with_reducible refine (tilefarmgen_Tape_Weights.calls k g307 t305 t314 9 t316 t319 w _ ?side1 ?side2 A4.out).mono ?_
              (case side1 => repeat (first | (with_reducible first | exact HI307.out | apply IsS54.alloc | apply IsS54.drewN | apply IsS54.drew | apply IsS54.set_1 | refine IsS54.far ?_ NB307_315.out _) | exact HI307.out))
              (case side2 => repeat (first | (with_reducible first | exact HB.out | apply below_alloc | apply pw_below_drewN | apply below_drew1 | refine below_set ?_ (IsS54.ge HI307.out) | refine below_set ?_ GE315.out) | exact HB.out))
              rintro e w25 ⟨v317, rfl, ho0, hi, hb, hk⟩
              refine ⟨_, rfl, ?_⟩
              have n0_ := Aside0.mk (Kd.R_mono (Kd.R_told (Kd.R_oldK (IsS54.apart (show IsS54 w _ g307 t305 t314 from by repeat (first | (with_reducible first | exact HI307.out | apply IsS54.alloc | apply IsS54.drewN | apply IsS54.drew | apply IsS54.set_1 | refine IsS54.far ?_ NB307_315.out _) | exact HI307.out)) q159_ (by decide)) hk) (Kd.R_base ho0)) (fun _ h_ => h_.1))
              have n1_ := Aside0.mk (KeepBut.blk hk (g' := gb315) (o := .cells #[.int .i64 t308, .int .i64 t309, .int .i64 t310, .slice Ao22 t311.length co22] 35 (0, 0)) q147_ NB315_307.out (by simp))
              have n2_ := Aside0.mk (Kd.R_lower (Kd.R_new' ho0 (Kd.R_lt q159_)) (below_size q63_))
              have n3_ := Aside0.mk (hb)
              have n4_ := Aside0.mk (hi)
              clear HO313
              clear BK315
              clear HB
              clear HI307
              have HO313 := n0_
              have BK315 := n1_
              have HO318 := n2_
              have HB := n3_
              have HI307 := n4_
              clear n0_ n1_ n2_ n3_ n4_
              (try clear hb)
              (try clear hb2)
              (try clear hk)
              (try clear hi)
              (try clear ho0)
              refine hK.out _ _ ⟨(blk_cell BK315.out 0).trans rfl, (blk_cell BK315.out 1).trans rfl, (blk_cell BK315.out 2).trans rfl, (blk_cell BK315.out 3).trans rfl⟩ (fun hHeld => ?_)
              clear hK K
              refine norm_ (a' := ?_) ?_ ?_
              rotate_left
              · show Act.put _ (some 20) _ = _
                simp only [Act.put, List.setIfInBounds_toArray, List.set_cons_zero, List.set_cons_succ, i64_w, i32_w]
                rfl
              refine two_ (i := 5) (j := 8) (Ni := some 24) (Nj := some 6) #[true, true, true, true, true, true, true, false, false, false, false, false] #[true, true, true, true, true, false, true, false, true, false, false, false] rfl rfl rfl rfl (two_of HT_.out (by kernel_rfl)) (by decide) (by decide) (fun K hK => ?_) (fun K hK => ?_)
              · skip
                refine goes_ Try.func16 (by kernel_rfl) rfl #[.pointer (some ⟨g307, 0, none⟩), .int .i64 t310] (by rfl) rfl rfl q109_ ?_
                with_reducible refine (tilefarmgen_Tape_Edge.calls g307 t305 t319 t310 t320 t321 t322 w _ ?side1 ?side2 A5.out).mono ?_
                (case side1 => repeat (first | (with_reducible first | exact HI307.out | apply IsS54.alloc | apply IsS54.drewN | apply IsS54.drew | apply IsS54.set_1 | refine IsS54.far ?_ NB307_315.out _) | exact HI307.out))
                (case side2 => repeat (first | (with_reducible first | exact HB.out | apply below_alloc | apply pw_below_drewN | apply below_drew1 | refine below_set ?_ (IsS54.ge HI307.out) | refine below_set ?_ GE315.out) | exact HB.out))
                rintro e w26 ⟨rfl, hi, hb, hk⟩
                refine ⟨_, rfl, ?_⟩
                have n0_ := Aside0.mk (Kd.R_mono (Kd.R_keep (IsS54.apart (show IsS54 w _ g307 t305 t319 from by repeat (first | (with_reducible first | exact HI307.out | apply IsS54.alloc | apply IsS54.drewN | apply IsS54.drew | apply IsS54.set_1 | refine IsS54.far ?_ NB307_315.out _) | exact HI307.out)) q159_ (by decide)) hk (fun _ h => h.2)) (fun _ h => h.1))
                have n1_ := Aside0.mk (KeepBut.blk hk (g' := gb315) (o := .cells #[.int .i64 t308, .int .i64 t309, .int .i64 t310, .slice Ao22 t311.length co22] 35 (0, 0)) q147_ NB315_307.out (by simp))
                have n2_ := Aside0.mk (Kd.R_mono (Kd.R_keep (IsS54.apart (show IsS54 w _ g307 t305 t319 from by repeat (first | (with_reducible first | exact HI307.out | apply IsS54.alloc | apply IsS54.drewN | apply IsS54.drew | apply IsS54.set_1 | refine IsS54.far ?_ NB307_315.out _) | exact HI307.out)) q160_ (by decide)) hk (fun _ h => h.2)) (fun _ h => h.1))
                have n3_ := Aside0.mk (hb)
                have n4_ := Aside0.mk (hi)
                clear HO313
                clear BK315
                clear HO318
                clear HB
                clear HI307
                have HO313 := n0_
                have BK315 := n1_
                have HO318 := n2_
                have HB := n3_
                have HI307 := n4_
                clear n0_ n1_ n2_ n3_ n4_
                (try clear hb)
                (try clear hb2)
                (try clear hk)
                (try clear hi)
                refine hK.out _ _ ⟨(blk_cell BK315.out 0).trans rfl, (blk_cell BK315.out 1).trans rfl, (blk_cell BK315.out 2).trans rfl, (blk_cell BK315.out 3).trans rfl⟩ (fun hHeld => ?_)
                clear hK K
                refine norm_ (a' := ?_) ?_ ?_
                rotate_left
                · show Act.put _ (some 24) _ = _
                  simp only [Act.put, List.setIfInBounds_toArray, List.set_cons_zero, List.set_cons_succ, i64_w, i32_w]
                  rfl
                refine two_ (i := 7) (j := 8) (Ni := some 26) (Nj := some 6) #[true, true, true, true, true, true, true, true, false, false, false, false] #[true, true, true, true, true, true, true, false, true, false, false, false] rfl rfl rfl rfl (two_of HT_.out (by kernel_rfl)) (by decide) (by decide) (fun K hK => ?_) (fun K hK => ?_)
                · skip
                  refine goes_ Try.func9 (by kernel_rfl) rfl #[.pointer (some ⟨g307, 0, none⟩), .int .i64 4] (by rfl) rfl rfl q109_ ?_
                  with_reducible refine (tilefarmgen_Tape_Next.calls g307 t305 t322 4 t323 t324 w _ ?side1 ?side2 A6.out).mono ?_
                  (case side1 => repeat (first | (with_reducible first | exact HI307.out | apply IsS54.alloc | apply IsS54.drewN | apply IsS54.drew | apply IsS54.set_1 | refine IsS54.far ?_ NB307_315.out _) | exact HI307.out))
                  (case side2 => repeat (first | (with_reducible first | exact HB.out | apply below_alloc | apply pw_below_drewN | apply below_drew1 | refine below_set ?_ (IsS54.ge HI307.out) | refine below_set ?_ GE315.out) | exact HB.out))
                  rintro e w27 ⟨rfl, hi, hb, hk⟩
                  refine ⟨_, rfl, ?_⟩
                  have n0_ := Aside0.mk (Kd.R_mono (Kd.R_keep (IsS54.apart (show IsS54 w _ g307 t305 t322 from by repeat (first | (with_reducible first | exact HI307.out | apply IsS54.alloc | apply IsS54.drewN | apply IsS54.drew | apply IsS54.set_1 | refine IsS54.far ?_ NB307_315.out _) | exact HI307.out)) q159_ (by decide)) hk (fun _ h => h.2)) (fun _ h => h.1))
                  have n1_ := Aside0.mk (KeepBut.blk hk (g' := gb315) (o := .cells #[.int .i64 t308, .int .i64 t309, .int .i64 t310, .slice Ao22 t311.length co22] 35 (0, 0)) q147_ NB315_307.out (by simp))
                  have n2_ := Aside0.mk (Kd.R_mono (Kd.R_keep (IsS54.apart (show IsS54 w _ g307 t305 t322 from by repeat (first | (with_reducible first | exact HI307.out | apply IsS54.alloc | apply IsS54.drewN | apply IsS54.drew | apply IsS54.set_1 | refine IsS54.far ?_ NB307_315.out _) | exact HI307.out)) q160_ (by decide)) hk (fun _ h => h.2)) (fun _ h => h.1))
                  have n3_ := Aside0.mk (hb)
                  have n4_ := Aside0.mk (hi)
                  clear HO313
                  clear BK315
                  clear HO318
                  clear HB
                  clear HI307
                  have HO313 := n0_
                  have BK315 := n1_
                  have HO318 := n2_
                  have HB := n3_
                  have HI307 := n4_
                  clear n0_ n1_ n2_ n3_ n4_
                  (try clear hb)
                  (try clear hb2)
                  (try clear hk)
                  (try clear hi)
                  refine hK.out _ _ ⟨(blk_cell BK315.out 0).trans rfl, (blk_cell BK315.out 1).trans rfl, (blk_cell BK315.out 2).trans rfl, (blk_cell BK315.out 3).trans rfl⟩ (fun hHeld => ?_)
                  clear hK K
                  refine norm_ (a' := ?_) ?_ ?_
                  rotate_left
                  · show Act.put _ (some 26) _ = _
                    simp only [Act.put, List.setIfInBounds_toArray, List.set_cons_zero, List.set_cons_succ, i64_w, i32_w]
                    rfl
                  refine one_ (i := 8) (N := some 6) #[true, true, true, true, true, true, true, true, true, false, false, false] rfl rfl (one_of HT_.out (by kernel_rfl)) (by decide) (fun K hK => ?_)
                  refine box_step ?hg (N := 6) ?hd (cs := #[.int .i64 0, .int .i64 0]) (t := 38) ?hr ?_; (case hd => rfl); (case hg => rfl); (case hr => first | (go_simp; done) | (go_simp; rfl))
                  intro gb325 hg w28 hbox hb
                  have n0_ := Aside0.mk (Kd.R_below q159_ hb)
                  have n1_ := Aside0.mk (Kd.R_below q160_ hb)
                  have n2_ := Aside0.mk (IsS54.below q79_ hb)
                  have n3_ := Aside0.mk (blk_below (g := gb315) (o := .cells #[.int .i64 t308, .int .i64 t309, .int .i64 t310, .slice Ao22 t311.length co22] 35 (0, 0)) q147_ hb)
                  have n4_ := Aside0.mk (below_step q63_ hb)
                  have n5_ := Aside0.mk (hbox)
                  have n6_ := Aside0.mk ((q43_ : w.heap.size ≤ gb325))
                  have n7_ := Aside0.mk ((q43_ : w.heap.size ≤ gb325))
                  have n8_ := Aside0.mk ((q18_ : gb315 ≠ gb325))
                  have n9_ := Aside0.mk ((q19_ : gb325 ≠ gb315))
                  have n10_ := Aside0.mk ((by rw [hg]; exact Nat.ne_of_lt (IsS54.lt (show IsS54 w _ g307 t305 t324 from by repeat (first | (with_reducible first | exact HI307.out | apply IsS54.alloc | apply IsS54.drewN | apply IsS54.drew | apply IsS54.set_1 | refine IsS54.far ?_ NB307_315.out _) | exact HI307.out))) : g307 ≠ gb325))
                  have n11_ := Aside0.mk ((by rw [hg]; exact Nat.ne_of_gt (IsS54.lt (show IsS54 w _ g307 t305 t324 from by repeat (first | (with_reducible first | exact HI307.out | apply IsS54.alloc | apply IsS54.drewN | apply IsS54.drew | apply IsS54.set_1 | refine IsS54.far ?_ NB307_315.out _) | exact HI307.out))) : gb325 ≠ g307))
                  clear HO313
                  clear HO318
                  clear HI307
                  clear BK315
                  clear HB
                  have HO313 := n0_
                  have HO318 := n1_
                  have HI307 := n2_
                  have BK315 := n3_
                  have HB := n4_
                  have BK325 := n5_
                  have GW325 := n6_
                  have GE325 := n7_
                  have NB315_325 := n8_
                  have NB325_315 := n9_
                  have NB307_325 := n10_
                  have NB325_307 := n11_
                  clear n0_ n1_ n2_ n3_ n4_ n5_ n6_ n7_ n8_ n9_ n10_ n11_
                  clear hb hbox hg
                  refine hK.out _ _ ⟨(blk_cell BK315.out 0).trans rfl, (blk_cell BK315.out 1).trans rfl, (blk_cell BK315.out 2).trans rfl, (blk_cell BK315.out 3).trans rfl⟩ (fun hHeld => ?_)
                  clear hK K
                  refine norm_ (a' := ?_) ?_ ?_
                  rotate_left
                  · show Act.put _ (some 6) _ = _
                    simp only [Act.put, List.setIfInBounds_toArray, List.set_cons_zero, List.set_cons_succ, i64_w, i32_w]
                    rfl
                  exact norm_ q164_ (hCont (v317, gb325) _ ⟨hHeld, q112_, q113_, q147_, q148_, GW325.out, GE325.out, NB307_325.out, NB325_307.out, NB315_325.out, NB325_315.out, q49_, q44_⟩)
                · skip
                  refine box_step ?hg (N := 6) ?hd (cs := #[.int .i64 0, .int .i64 0]) (t := 38) ?hr ?_; (case hd => rfl); (case hg => rfl); (case hr => first | (go_simp; done) | (go_simp; rfl))
                  intro gb325 hg w27 hbox hb
                  have n0_ := Aside0.mk (Kd.R_below q159_ hb)
                  have n1_ := Aside0.mk (Kd.R_below q160_ hb)
                  have n2_ := Aside0.mk (IsS54.below q79_ hb)
                  have n3_ := Aside0.mk (blk_below (g := gb315) (o := .cells #[.int .i64 t308, .int .i64 t309, .int .i64 t310, .slice Ao22 t311.length co22] 35 (0, 0)) q147_ hb)
                  have n4_ := Aside0.mk (below_step q63_ hb)
                  have n5_ := Aside0.mk (hbox)
                  have n6_ := Aside0.mk ((q43_ : w.heap.size ≤ gb325))
                  have n7_ := Aside0.mk ((q43_ : w.heap.size ≤ gb325))
                  have n8_ := Aside0.mk ((q18_ : gb315 ≠ gb325))
                  have n9_ := Aside0.mk ((q19_ : gb325 ≠ gb315))
                  have n10_ := Aside0.mk ((by rw [hg]; exact Nat.ne_of_lt (IsS54.lt (show IsS54 w _ g307 t305 t322 from by repeat (first | (with_reducible first | exact HI307.out | apply IsS54.alloc | apply IsS54.drewN | apply IsS54.drew | apply IsS54.set_1 | refine IsS54.far ?_ NB307_315.out _) | exact HI307.out))) : g307 ≠ gb325))
                  have n11_ := Aside0.mk ((by rw [hg]; exact Nat.ne_of_gt (IsS54.lt (show IsS54 w _ g307 t305 t322 from by repeat (first | (with_reducible first | exact HI307.out | apply IsS54.alloc | apply IsS54.drewN | apply IsS54.drew | apply IsS54.set_1 | refine IsS54.far ?_ NB307_315.out _) | exact HI307.out))) : gb325 ≠ g307))
                  clear HO313
                  clear HO318
                  clear HI307
                  clear BK315
                  clear HB
                  have HO313 := n0_
                  have HO318 := n1_
                  have HI307 := n2_
                  have BK315 := n3_
                  have HB := n4_
                  have BK325 := n5_
                  have GW325 := n6_
                  have GE325 := n7_
                  have NB315_325 := n8_
                  have NB325_315 := n9_
                  have NB307_325 := n10_
                  have NB325_307 := n11_
                  clear n0_ n1_ n2_ n3_ n4_ n5_ n6_ n7_ n8_ n9_ n10_ n11_
                  clear hb hbox hg
                  refine hK.out _ _ ⟨(blk_cell BK315.out 0).trans rfl, (blk_cell BK315.out 1).trans rfl, (blk_cell BK315.out 2).trans rfl, (blk_cell BK315.out 3).trans rfl⟩ (fun hHeld => ?_)
                  clear hK K
                  refine norm_ (a' := ?_) ?_ ?_
                  rotate_left
                  · show Act.put _ (some 6) _ = _
                    simp only [Act.put, List.setIfInBounds_toArray, List.set_cons_zero, List.set_cons_succ, i64_w, i32_w]
                    rfl
                  refine one_ (i := 7) (N := some 26) #[true, true, true, true, true, true, true, true, true, false, false, false] rfl rfl (one_of HT_.out (by kernel_rfl)) (by decide) (fun K hK => ?_)
                  refine goes_ Try.func9 (by kernel_rfl) rfl #[.pointer (some ⟨g307, 0, none⟩), .int .i64 4] (by rfl) rfl rfl q109_ ?_
                  with_reducible refine (tilefarmgen_Tape_Next.calls g307 t305 t322 4 t323 t324 w _ ?side1 ?side2 A6.out).mono ?_
                  (case side1 => repeat (first | (with_reducible first | exact HI307.out | apply IsS54.alloc | apply IsS54.drewN | apply IsS54.drew | apply IsS54.set_1 | refine IsS54.far ?_ NB307_315.out _ | refine IsS54.far ?_ NB307_325.out _) | exact HI307.out))
                  (case side2 => repeat (first | (with_reducible first | exact HB.out | apply below_alloc | apply pw_below_drewN | apply below_drew1 | refine below_set ?_ (IsS54.ge HI307.out) | refine below_set ?_ GE315.out | refine below_set ?_ GE325.out) | exact HB.out))
                  rintro e w28 ⟨rfl, hi, hb, hk⟩
                  refine ⟨_, rfl, ?_⟩
                  have n0_ := Aside0.mk (Kd.R_mono (Kd.R_keep (IsS54.apart (show IsS54 w _ g307 t305 t322 from by repeat (first | (with_reducible first | exact HI307.out | apply IsS54.alloc | apply IsS54.drewN | apply IsS54.drew | apply IsS54.set_1 | refine IsS54.far ?_ NB307_315.out _ | refine IsS54.far ?_ NB307_325.out _) | exact HI307.out)) q159_ (by decide)) hk (fun _ h => h.2)) (fun _ h => h.1))
                  have n1_ := Aside0.mk (KeepBut.blk hk (g' := gb315) (o := .cells #[.int .i64 t308, .int .i64 t309, .int .i64 t310, .slice Ao22 t311.length co22] 35 (0, 0)) q147_ NB315_307.out (by simp))
                  have n2_ := Aside0.mk (Kd.R_mono (Kd.R_keep (IsS54.apart (show IsS54 w _ g307 t305 t322 from by repeat (first | (with_reducible first | exact HI307.out | apply IsS54.alloc | apply IsS54.drewN | apply IsS54.drew | apply IsS54.set_1 | refine IsS54.far ?_ NB307_315.out _ | refine IsS54.far ?_ NB307_325.out _) | exact HI307.out)) q160_ (by decide)) hk (fun _ h => h.2)) (fun _ h => h.1))
                  have n3_ := Aside0.mk (KeepBut.blk hk (g' := gb325) (o := .cells #[.int .i64 0, .int .i64 0] 38 (0, 0)) q148_ NB325_307.out (by simp))
                  have n4_ := Aside0.mk (hb)
                  have n5_ := Aside0.mk (hi)
                  clear HO313
                  clear BK315
                  clear HO318
                  clear BK325
                  clear HB
                  clear HI307
                  have HO313 := n0_
                  have BK315 := n1_
                  have HO318 := n2_
                  have BK325 := n3_
                  have HB := n4_
                  have HI307 := n5_
                  clear n0_ n1_ n2_ n3_ n4_ n5_
                  (try clear hb)
                  (try clear hb2)
                  (try clear hk)
                  (try clear hi)
                  refine hK.out _ _ ⟨(blk_cell BK315.out 0).trans rfl, (blk_cell BK315.out 1).trans rfl, (blk_cell BK315.out 2).trans rfl, (blk_cell BK315.out 3).trans rfl⟩ (fun hHeld => ?_)
                  clear hK K
                  refine norm_ (a' := ?_) ?_ ?_
                  rotate_left
                  · show Act.put _ (some 26) _ = _
                    simp only [Act.put, List.setIfInBounds_toArray, List.set_cons_zero, List.set_cons_succ, i64_w, i32_w]
                    rfl
                  exact norm_ q164_ (hCont (v317, gb325) _ ⟨hHeld, q112_, q113_, q147_, q148_, GW325.out, GE325.out, NB307_325.out, NB325_307.out, NB315_325.out, NB325_315.out, q49_, q44_⟩)
              · skip
                refine box_step ?hg (N := 6) ?hd (cs := #[.int .i64 0, .int .i64 0]) (t := 38) ?hr ?_; (case hd => rfl); (case hg => rfl); (case hr => first | (go_simp; done) | (go_simp; rfl))
                intro gb325 hg w26 hbox hb
                have n0_ := Aside0.mk (Kd.R_below q159_ hb)
                have n1_ := Aside0.mk (Kd.R_below q160_ hb)
                have n2_ := Aside0.mk (IsS54.below q79_ hb)
                have n3_ := Aside0.mk (blk_below (g := gb315) (o := .cells #[.int .i64 t308, .int .i64 t309, .int .i64 t310, .slice Ao22 t311.length co22] 35 (0, 0)) q147_ hb)
                have n4_ := Aside0.mk (below_step q63_ hb)
                have n5_ := Aside0.mk (hbox)
                have n6_ := Aside0.mk ((q43_ : w.heap.size ≤ gb325))
                have n7_ := Aside0.mk ((q43_ : w.heap.size ≤ gb325))
                have n8_ := Aside0.mk ((q18_ : gb315 ≠ gb325))
                have n9_ := Aside0.mk ((q19_ : gb325 ≠ gb315))
                have n10_ := Aside0.mk ((by rw [hg]; exact Nat.ne_of_lt (IsS54.lt (show IsS54 w _ g307 t305 t319 from by repeat (first | (with_reducible first | exact HI307.out | apply IsS54.alloc | apply IsS54.drewN | apply IsS54.drew | apply IsS54.set_1 | refine IsS54.far ?_ NB307_315.out _) | exact HI307.out))) : g307 ≠ gb325))
                have n11_ := Aside0.mk ((by rw [hg]; exact Nat.ne_of_gt (IsS54.lt (show IsS54 w _ g307 t305 t319 from by repeat (first | (with_reducible first | exact HI307.out | apply IsS54.alloc | apply IsS54.drewN | apply IsS54.drew | apply IsS54.set_1 | refine IsS54.far ?_ NB307_315.out _) | exact HI307.out))) : gb325 ≠ g307))
                clear HO313
                clear HO318
                clear HI307
                clear BK315
                clear HB
                have HO313 := n0_
                have HO318 := n1_
                have HI307 := n2_
                have BK315 := n3_
                have HB := n4_
                have BK325 := n5_
                have GW325 := n6_
                have GE325 := n7_
                have NB315_325 := n8_
                have NB325_315 := n9_
                have NB307_325 := n10_
                have NB325_307 := n11_
                clear n0_ n1_ n2_ n3_ n4_ n5_ n6_ n7_ n8_ n9_ n10_ n11_
                clear hb hbox hg
                refine hK.out _ _ ⟨(blk_cell BK315.out 0).trans rfl, (blk_cell BK315.out 1).trans rfl, (blk_cell BK315.out 2).trans rfl, (blk_cell BK315.out 3).trans rfl⟩ (fun hHeld => ?_)
                clear hK K
                refine norm_ (a' := ?_) ?_ ?_
                rotate_left
                · show Act.put _ (some 6) _ = _
                  simp only [Act.put, List.setIfInBounds_toArray, List.set_cons_zero, List.set_cons_succ, i64_w, i32_w]
                  rfl
                refine one_ (i := 5) (N := some 24) #[true, true, true, true, true, true, true, false, true, false, false, false] rfl rfl (one_of HT_.out (by kernel_rfl)) (by decide) (fun K hK => ?_)
                refine goes_ Try.func16 (by kernel_rfl) rfl #[.pointer (some ⟨g307, 0, none⟩), .int .i64 t310] (by rfl) rfl rfl q109_ ?_
                with_reducible refine (tilefarmgen_Tape_Edge.calls g307 t305 t319 t310 t320 t321 t322 w _ ?side1 ?side2 A5.out).mono ?_
                (case side1 => repeat (first | (with_reducible first | exact HI307.out | apply IsS54.alloc | apply IsS54.drewN | apply IsS54.drew | apply IsS54.set_1 | refine IsS54.far ?_ NB307_315.out _ | refine IsS54.far ?_ NB307_325.out _) | exact HI307.out))
                (case side2 => repeat (first | (with_reducible first | exact HB.out | apply below_alloc | apply pw_below_drewN | apply below_drew1 | refine below_set ?_ (IsS54.ge HI307.out) | refine below_set ?_ GE315.out | refine below_set ?_ GE325.out) | exact HB.out))
                rintro e w27 ⟨rfl, hi, hb, hk⟩
                refine ⟨_, rfl, ?_⟩
                have n0_ := Aside0.mk (Kd.R_mono (Kd.R_keep (IsS54.apart (show IsS54 w _ g307 t305 t319 from by repeat (first | (with_reducible first | exact HI307.out | apply IsS54.alloc | apply IsS54.drewN | apply IsS54.drew | apply IsS54.set_1 | refine IsS54.far ?_ NB307_315.out _ | refine IsS54.far ?_ NB307_325.out _) | exact HI307.out)) q159_ (by decide)) hk (fun _ h => h.2)) (fun _ h => h.1))
                have n1_ := Aside0.mk (KeepBut.blk hk (g' := gb315) (o := .cells #[.int .i64 t308, .int .i64 t309, .int .i64 t310, .slice Ao22 t311.length co22] 35 (0, 0)) q147_ NB315_307.out (by simp))
                have n2_ := Aside0.mk (Kd.R_mono (Kd.R_keep (IsS54.apart (show IsS54 w _ g307 t305 t319 from by repeat (first | (with_reducible first | exact HI307.out | apply IsS54.alloc | apply IsS54.drewN | apply IsS54.drew | apply IsS54.set_1 | refine IsS54.far ?_ NB307_315.out _ | refine IsS54.far ?_ NB307_325.out _) | exact HI307.out)) q160_ (by decide)) hk (fun _ h => h.2)) (fun _ h => h.1))
                have n3_ := Aside0.mk (KeepBut.blk hk (g' := gb325) (o := .cells #[.int .i64 0, .int .i64 0] 38 (0, 0)) q148_ NB325_307.out (by simp))
                have n4_ := Aside0.mk (hb)
                have n5_ := Aside0.mk (hi)
                clear HO313
                clear BK315
                clear HO318
                clear BK325
                clear HB
                clear HI307
                have HO313 := n0_
                have BK315 := n1_
                have HO318 := n2_
                have BK325 := n3_
                have HB := n4_
                have HI307 := n5_
                clear n0_ n1_ n2_ n3_ n4_ n5_
                (try clear hb)
                (try clear hb2)
                (try clear hk)
                (try clear hi)
                refine hK.out _ _ ⟨(blk_cell BK315.out 0).trans rfl, (blk_cell BK315.out 1).trans rfl, (blk_cell BK315.out 2).trans rfl, (blk_cell BK315.out 3).trans rfl⟩ (fun hHeld => ?_)
                clear hK K
                refine norm_ (a' := ?_) ?_ ?_
                rotate_left
                · show Act.put _ (some 24) _ = _
                  simp only [Act.put, List.setIfInBounds_toArray, List.set_cons_zero, List.set_cons_succ, i64_w, i32_w]
                  rfl
                refine one_ (i := 7) (N := some 26) #[true, true, true, true, true, true, true, true, true, false, false, false] rfl rfl (one_of HT_.out (by kernel_rfl)) (by decide) (fun K hK => ?_)
                refine goes_ Try.func9 (by kernel_rfl) rfl #[.pointer (some ⟨g307, 0, none⟩), .int .i64 4] (by rfl) rfl rfl q109_ ?_
                with_reducible refine (tilefarmgen_Tape_Next.calls g307 t305 t322 4 t323 t324 w _ ?side1 ?side2 A6.out).mono ?_
                (case side1 => repeat (first | (with_reducible first | exact HI307.out | apply IsS54.alloc | apply IsS54.drewN | apply IsS54.drew | apply IsS54.set_1 | refine IsS54.far ?_ NB307_315.out _ | refine IsS54.far ?_ NB307_325.out _) | exact HI307.out))
                (case side2 => repeat (first | (with_reducible first | exact HB.out | apply below_alloc | apply pw_below_drewN | apply below_drew1 | refine below_set ?_ (IsS54.ge HI307.out) | refine below_set ?_ GE315.out | refine below_set ?_ GE325.out) | exact HB.out))
                rintro e w28 ⟨rfl, hi, hb, hk⟩
                refine ⟨_, rfl, ?_⟩
                have n0_ := Aside0.mk (Kd.R_mono (Kd.R_keep (IsS54.apart (show IsS54 w _ g307 t305 t322 from by repeat (first | (with_reducible first | exact HI307.out | apply IsS54.alloc | apply IsS54.drewN | apply IsS54.drew | apply IsS54.set_1 | refine IsS54.far ?_ NB307_315.out _ | refine IsS54.far ?_ NB307_325.out _) | exact HI307.out)) q159_ (by decide)) hk (fun _ h => h.2)) (fun _ h => h.1))
                have n1_ := Aside0.mk (KeepBut.blk hk (g' := gb315) (o := .cells #[.int .i64 t308, .int .i64 t309, .int .i64 t310, .slice Ao22 t311.length co22] 35 (0, 0)) q147_ NB315_307.out (by simp))
                have n2_ := Aside0.mk (Kd.R_mono (Kd.R_keep (IsS54.apart (show IsS54 w _ g307 t305 t322 from by repeat (first | (with_reducible first | exact HI307.out | apply IsS54.alloc | apply IsS54.drewN | apply IsS54.drew | apply IsS54.set_1 | refine IsS54.far ?_ NB307_315.out _ | refine IsS54.far ?_ NB307_325.out _) | exact HI307.out)) q160_ (by decide)) hk (fun _ h => h.2)) (fun _ h => h.1))
                have n3_ := Aside0.mk (KeepBut.blk hk (g' := gb325) (o := .cells #[.int .i64 0, .int .i64 0] 38 (0, 0)) q148_ NB325_307.out (by simp))
                have n4_ := Aside0.mk (hb)
                have n5_ := Aside0.mk (hi)
                clear HO313
                clear BK315
                clear HO318
                clear BK325
                clear HB
                clear HI307
                have HO313 := n0_
                have BK315 := n1_
                have HO318 := n2_
                have BK325 := n3_
                have HB := n4_
                have HI307 := n5_
                clear n0_ n1_ n2_ n3_ n4_ n5_
                (try clear hb)
                (try clear hb2)
                (try clear hk)
                (try clear hi)
                refine hK.out _ _ ⟨(blk_cell BK315.out 0).trans rfl, (blk_cell BK315.out 1).trans rfl, (blk_cell BK315.out 2).trans rfl, (blk_cell BK315.out 3).trans rfl⟩ (fun hHeld => ?_)
                clear hK K
                refine norm_ (a' := ?_) ?_ ?_
                rotate_left
                · show Act.put _ (some 26) _ = _
                  simp only [Act.put, List.setIfInBounds_toArray, List.set_cons_zero, List.set_cons_succ, i64_w, i32_w]
                  rfl
                exact norm_ q164_ (hCont (v317, gb325) _ ⟨hHeld, q112_, q113_, q147_, q148_, GW325.out, GE325.out, NB307_325.out, NB325_307.out, NB315_325.out, NB325_315.out, q49_, q44_⟩)
            · skip
              refine box_step ?hg (N := 6) ?hd (cs := #[.int .i64 0, .int .i64 0]) (t := 38) ?hr ?_; (case hd => rfl); (case hg => rfl); (case hr => first | (go_simp; done) | (go_simp; rfl))
              intro gb325 hg w25 hbox hb
              have n0_ := Aside0.mk (Kd.R_below q159_ hb)
              have n1_ := Aside0.mk (IsS54.below q79_ hb)
              have n2_ := Aside0.mk (blk_below (g := gb315) (o := .cells #[.int .i64 t308, .int .i64 t309, .int .i64 t310, .slice Ao22 t311.length co22] 35 (0, 0)) q147_ hb)
              have n3_ := Aside0.mk (below_step q63_ hb)
              have n4_ := Aside0.mk (hbox)
              have n5_ := Aside0.mk ((q43_ : w.heap.size ≤ gb325))
              have n6_ := Aside0.mk ((q43_ : w.heap.size ≤ gb325))
              have n7_ := Aside0.mk ((q18_ : gb315 ≠ gb325))
              have n8_ := Aside0.mk ((q19_ : gb325 ≠ gb315))
              have n9_ := Aside0.mk ((by rw [hg]; exact Nat.ne_of_lt (IsS54.lt (show IsS54 w _ g307 t305 t314 from by repeat (first | (with_reducible first | exact HI307.out | apply IsS54.alloc | apply IsS54.drewN | apply IsS54.drew | apply IsS54.set_1 | refine IsS54.far ?_ NB307_315.out _) | exact HI307.out))) : g307 ≠ gb325))
              have n10_ := Aside0.mk ((by rw [hg]; exact Nat.ne_of_gt (IsS54.lt (show IsS54 w _ g307 t305 t314 from by repeat (first | (with_reducible first | exact HI307.out | apply IsS54.alloc | apply IsS54.drewN | apply IsS54.drew | apply IsS54.set_1 | refine IsS54.far ?_ NB307_315.out _) | exact HI307.out))) : gb325 ≠ g307))
              clear HO313
              clear HI307
              clear BK315
              clear HB
              have HO313 := n0_
              have HI307 := n1_
              have BK315 := n2_
              have HB := n3_
              have BK325 := n4_
              have GW325 := n5_
              have GE325 := n6_
              have NB315_325 := n7_
              have NB325_315 := n8_
              have NB307_325 := n9_
              have NB325_307 := n10_
              clear n0_ n1_ n2_ n3_ n4_ n5_ n6_ n7_ n8_ n9_ n10_
              clear hb hbox hg
              refine hK.out _ _ ⟨(blk_cell BK315.out 0).trans rfl, (blk_cell BK315.out 1).trans rfl, (blk_cell BK315.out 2).trans rfl, (blk_cell BK315.out 3).trans rfl⟩ (fun hHeld => ?_)
              clear hK K
              refine norm_ (a' := ?_) ?_ ?_
              rotate_left
              · show Act.put _ (some 6) _ = _
                simp only [Act.put, List.setIfInBounds_toArray, List.set_cons_zero, List.set_cons_succ, i64_w, i32_w]
                rfl
              refine one_ (i := 1) (N := some 20) #[true, true, true, true, true, false, true, false, true, false, false, false] rfl rfl (one_of HT_.out (by kernel_rfl)) (by decide) (fun K hK => ?_)
              refine goes_ Try.func10 (by kernel_rfl) rfl #[.pointer (some ⟨g307, 0, none⟩), .int .i64 9] (by rfl) rfl rfl q109_ ?_
              with_reducible refine (tilefarmgen_Tape_Weights.calls k g307 t305 t314 9 t316 t319 w _ ?side1 ?side2 A4.out).mono ?_
              (case side1 => repeat (first | (with_reducible first | exact HI307.out | apply IsS54.alloc | apply IsS54.drewN | apply IsS54.drew | apply IsS54.set_1 | refine IsS54.far ?_ NB307_315.out _ | refine IsS54.far ?_ NB307_325.out _) | exact HI307.out))
              (case side2 => repeat (first | (with_reducible first | exact HB.out | apply below_alloc | apply pw_below_drewN | apply below_drew1 | refine below_set ?_ (IsS54.ge HI307.out) | refine below_set ?_ GE315.out | refine below_set ?_ GE325.out) | exact HB.out))
              rintro e w26 ⟨v317, rfl, ho0, hi, hb, hk⟩
              refine ⟨_, rfl, ?_⟩
              have n0_ := Aside0.mk (Kd.R_mono (Kd.R_told (Kd.R_oldK (IsS54.apart (show IsS54 w _ g307 t305 t314 from by repeat (first | (with_reducible first | exact HI307.out | apply IsS54.alloc | apply IsS54.drewN | apply IsS54.drew | apply IsS54.set_1 | refine IsS54.far ?_ NB307_315.out _ | refine IsS54.far ?_ NB307_325.out _) | exact HI307.out)) q159_ (by decide)) hk) (Kd.R_base ho0)) (fun _ h_ => h_.1))
              have n1_ := Aside0.mk (KeepBut.blk hk (g' := gb315) (o := .cells #[.int .i64 t308, .int .i64 t309, .int .i64 t310, .slice Ao22 t311.length co22] 35 (0, 0)) q147_ NB315_307.out (by simp))
              have n2_ := Aside0.mk (KeepBut.blk hk (g' := gb325) (o := .cells #[.int .i64 0, .int .i64 0] 38 (0, 0)) q148_ NB325_307.out (by simp))
              have n3_ := Aside0.mk (Kd.R_lower (Kd.R_new' ho0 (Kd.R_lt q159_)) (below_size q44_))
              have n4_ := Aside0.mk (hb)
              have n5_ := Aside0.mk (hi)
              clear HO313
              clear BK315
              clear BK325
              clear HB
              clear HI307
              have HO313 := n0_
              have BK315 := n1_
              have BK325 := n2_
              have HO318 := n3_
              have HB := n4_
              have HI307 := n5_
              clear n0_ n1_ n2_ n3_ n4_ n5_
              (try clear hb)
              (try clear hb2)
              (try clear hk)
              (try clear hi)
              (try clear ho0)
              refine hK.out _ _ ⟨(blk_cell BK315.out 0).trans rfl, (blk_cell BK315.out 1).trans rfl, (blk_cell BK315.out 2).trans rfl, (blk_cell BK315.out 3).trans rfl⟩ (fun hHeld => ?_)
              clear hK K
              refine norm_ (a' := ?_) ?_ ?_
              rotate_left
              · show Act.put _ (some 20) _ = _
                simp only [Act.put, List.setIfInBounds_toArray, List.set_cons_zero, List.set_cons_succ, i64_w, i32_w]
                rfl
              refine one_ (i := 5) (N := some 24) #[true, true, true, true, true, true, true, false, true, false, false, false] rfl rfl (one_of HT_.out (by kernel_rfl)) (by decide) (fun K hK => ?_)
              refine goes_ Try.func16 (by kernel_rfl) rfl #[.pointer (some ⟨g307, 0, none⟩), .int .i64 t310] (by rfl) rfl rfl q109_ ?_
              with_reducible refine (tilefarmgen_Tape_Edge.calls g307 t305 t319 t310 t320 t321 t322 w _ ?side1 ?side2 A5.out).mono ?_
              (case side1 => repeat (first | (with_reducible first | exact HI307.out | apply IsS54.alloc | apply IsS54.drewN | apply IsS54.drew | apply IsS54.set_1 | refine IsS54.far ?_ NB307_315.out _ | refine IsS54.far ?_ NB307_325.out _) | exact HI307.out))
              (case side2 => repeat (first | (with_reducible first | exact HB.out | apply below_alloc | apply pw_below_drewN | apply below_drew1 | refine below_set ?_ (IsS54.ge HI307.out) | refine below_set ?_ GE315.out | refine below_set ?_ GE325.out) | exact HB.out))
              rintro e w27 ⟨rfl, hi, hb, hk⟩
              refine ⟨_, rfl, ?_⟩
              have n0_ := Aside0.mk (Kd.R_mono (Kd.R_keep (IsS54.apart (show IsS54 w _ g307 t305 t319 from by repeat (first | (with_reducible first | exact HI307.out | apply IsS54.alloc | apply IsS54.drewN | apply IsS54.drew | apply IsS54.set_1 | refine IsS54.far ?_ NB307_315.out _ | refine IsS54.far ?_ NB307_325.out _) | exact HI307.out)) q159_ (by decide)) hk (fun _ h => h.2)) (fun _ h => h.1))
              have n1_ := Aside0.mk (KeepBut.blk hk (g' := gb315) (o := .cells #[.int .i64 t308, .int .i64 t309, .int .i64 t310, .slice Ao22 t311.length co22] 35 (0, 0)) q147_ NB315_307.out (by simp))
              have n2_ := Aside0.mk (KeepBut.blk hk (g' := gb325) (o := .cells #[.int .i64 0, .int .i64 0] 38 (0, 0)) q148_ NB325_307.out (by simp))
              have n3_ := Aside0.mk (Kd.R_mono (Kd.R_keep (IsS54.apart (show IsS54 w _ g307 t305 t319 from by repeat (first | (with_reducible first | exact HI307.out | apply IsS54.alloc | apply IsS54.drewN | apply IsS54.drew | apply IsS54.set_1 | refine IsS54.far ?_ NB307_315.out _ | refine IsS54.far ?_ NB307_325.out _) | exact HI307.out)) q160_ (by decide)) hk (fun _ h => h.2)) (fun _ h => h.1))
              have n4_ := Aside0.mk (hb)
              have n5_ := Aside0.mk (hi)
              clear HO313
              clear BK315
              clear BK325
              clear HO318
              clear HB
              clear HI307
              have HO313 := n0_
              have BK315 := n1_
              have BK325 := n2_
              have HO318 := n3_
              have HB := n4_
              have HI307 := n5_
              clear n0_ n1_ n2_ n3_ n4_ n5_
              (try clear hb)
              (try clear hb2)
              (try clear hk)
              (try clear hi)
              refine hK.out _ _ ⟨(blk_cell BK315.out 0).trans rfl, (blk_cell BK315.out 1).trans rfl, (blk_cell BK315.out 2).trans rfl, (blk_cell BK315.out 3).trans rfl⟩ (fun hHeld => ?_)
              clear hK K
              refine norm_ (a' := ?_) ?_ ?_
              rotate_left
              · show Act.put _ (some 24) _ = _
                simp only [Act.put, List.setIfInBounds_toArray, List.set_cons_zero, List.set_cons_succ, i64_w, i32_w]
                rfl
              refine one_ (i := 7) (N := some 26) #[true, true, true, true, true, true, true, true, true, false, false, false] rfl rfl (one_of HT_.out (by kernel_rfl)) (by decide) (fun K hK => ?_)
              refine goes_ Try.func9 (by kernel_rfl) rfl #[.pointer (some ⟨g307, 0, none⟩), .int .i64 4] (by rfl) rfl rfl q109_ ?_
              with_reducible refine (tilefarmgen_Tape_Next.calls g307 t305 t322 4 t323 t324 w _ ?side1 ?side2 A6.out).mono ?_
              (case side1 => repeat (first | (with_reducible first | exact HI307.out | apply IsS54.alloc | apply IsS54.drewN | apply IsS54.drew | apply IsS54.set_1 | refine IsS54.far ?_ NB307_315.out _ | refine IsS54.far ?_ NB307_325.out _) | exact HI307.out))
              (case side2 => repeat (first | (with_reducible first | exact HB.out | apply below_alloc | apply pw_below_drewN | apply below_drew1 | refine below_set ?_ (IsS54.ge HI307.out) | refine below_set ?_ GE315.out | refine below_set ?_ GE325.out) | exact HB.out))
              rintro e w28 ⟨rfl, hi, hb, hk⟩
              refine ⟨_, rfl, ?_⟩
              have n0_ := Aside0.mk (Kd.R_mono (Kd.R_keep (IsS54.apart (show IsS54 w _ g307 t305 t322 from by repeat (first | (with_reducible first | exact HI307.out | apply IsS54.alloc | apply IsS54.drewN | apply IsS54.drew | apply IsS54.set_1 | refine IsS54.far ?_ NB307_315.out _ | refine IsS54.far ?_ NB307_325.out _) | exact HI307.out)) q159_ (by decide)) hk (fun _ h => h.2)) (fun _ h => h.1))
              have n1_ := Aside0.mk (KeepBut.blk hk (g' := gb315) (o := .cells #[.int .i64 t308, .int .i64 t309, .int .i64 t310, .slice Ao22 t311.length co22] 35 (0, 0)) q147_ NB315_307.out (by simp))
              have n2_ := Aside0.mk (KeepBut.blk hk (g' := gb325) (o := .cells #[.int .i64 0, .int .i64 0] 38 (0, 0)) q148_ NB325_307.out (by simp))
              have n3_ := Aside0.mk (Kd.R_mono (Kd.R_keep (IsS54.apart (show IsS54 w _ g307 t305 t322 from by repeat (first | (with_reducible first | exact HI307.out | apply IsS54.alloc | apply IsS54.drewN | apply IsS54.drew | apply IsS54.set_1 | refine IsS54.far ?_ NB307_315.out _ | refine IsS54.far ?_ NB307_325.out _) | exact HI307.out)) q160_ (by decide)) hk (fun _ h => h.2)) (fun _ h => h.1))
              have n4_ := Aside0.mk (hb)
              have n5_ := Aside0.mk (hi)
              clear HO313
              clear BK315
              clear BK325
              clear HO318
              clear HB
              clear HI307
              have HO313 := n0_
              have BK315 := n1_
              have BK325 := n2_
              have HO318 := n3_
              have HB := n4_
              have HI307 := n5_
              clear n0_ n1_ n2_ n3_ n4_ n5_
              (try clear hb)
              (try clear hb2)
              (try clear hk)
              (try clear hi)
              refine hK.out _ _ ⟨(blk_cell BK315.out 0).trans rfl, (blk_cell BK315.out 1).trans rfl, (blk_cell BK315.out 2).trans rfl, (blk_cell BK315.out 3).trans rfl⟩ (fun hHeld => ?_)
              clear hK K
              refine norm_ (a' := ?_) ?_ ?_
              rotate_left
              · show Act.put _ (some 26) _ = _
                simp only [Act.put, List.setIfInBounds_toArray, List.set_cons_zero, List.set_cons_succ, i64_w, i32_w]
                rfl
              exact norm_ q164_ (hCont (v317, gb325) _ ⟨hHeld, q112_, q113_, q147_, q148_, GW325.out, GE325.out, NB307_325.out, NB325_307.out, NB315_325.out, NB325_315.out, q49_, q44_⟩)
          rintro ⟨v317, gb325⟩ w29 ⟨hS_, h0_, h1_, h2_, h3_, h4_, h5_, h6_, h7_, h8_, h9_, h10_, h11_⟩
          have n0_ : Aside0 (Kd.R (Kd.int .i64) 3 w29 w.heap.size (fun k_ => some k_ ≠ (v317 : Value).ownBlock) (.slice Ao22 t311.length co22) t311) := ⟨h0_⟩
          have n1_ : Aside0 (Kd.R (Kd.int .i64) 3 w29 w.heap.size (fun k_ => some k_ ≠ (.slice Ao22 t311.length co22 : Value).ownBlock) v317 t316) := ⟨h1_⟩
          have n2_ : Aside0 (w29.heap[gb315]? = some (.cells #[.int .i64 t308, .int .i64 t309, .int .i64 t310, .slice Ao22 t311.length co22] 35 (0, 0))) := ⟨h2_⟩
          have n3_ : Aside0 (w29.heap[gb325]? = some (.cells #[.int .i64 0, .int .i64 0] 38 (0, 0))) := ⟨h3_⟩
          have n4_ : Aside0 (w.heap.size ≤ gb325) := ⟨h4_⟩
          have n5_ : Aside0 (w.heap.size ≤ gb325) := ⟨h5_⟩
          have n6_ : Aside0 (g307 ≠ gb325) := ⟨h6_⟩
          have n7_ : Aside0 (gb325 ≠ g307) := ⟨h7_⟩
          have n8_ : Aside0 (gb315 ≠ gb325) := ⟨h8_⟩
          have n9_ : Aside0 (gb325 ≠ gb315) := ⟨h9_⟩
          have n10_ : Aside0 (IsS54 w w29 g307 t305 t324) := ⟨h10_⟩
          have n11_ : Aside0 (Below w.heap.size w w29) := ⟨h11_⟩
          clear HO313
          clear BK315
          clear HI307
          clear HB
          clear h0_ h1_ h2_ h3_ h4_ h5_ h6_ h7_ h8_ h9_ h10_ h11_
          have HO313 := n0_
          have HO318 := n1_
          have BK315 := n2_
          have BK325 := n3_
          have GW325 := n4_
          have GE325 := n5_
          have NB307_325 := n6_
          have NB325_307 := n7_
          have NB315_325 := n8_
          have NB325_315 := n9_
          have HI307 := n10_
          have HB := n11_
          clear n0_ n1_ n2_ n3_ n4_ n5_ n6_ n7_ n8_ n9_ n10_ n11_
          have hHeld : w29.cell? ⟨gb315, 0, none⟩ = some (.int .i64 t308) ∧ w29.cell? ⟨gb315, 1, none⟩ = some (.int .i64 t309) ∧ w29.cell? ⟨gb315, 2, none⟩ = some (.int .i64 t310) ∧ w29.cell? ⟨gb315, 3, none⟩ = some (.slice Ao22 t311.length co22) := hS_
          refine norm_ (a' := ?_) ?_ ?_
          rotate_left
          · simp only [putAll, Act.put, List.setIfInBounds_toArray, List.set_cons_zero, List.set_cons_succ]
            rfl
          refine pure_ (i := 9) (N := some 5) (v := ?_) (a' := ?_) #[true, true, true, true, true, true, true, true, true, true, false, false] rfl rfl (any_of HT_.out (by kernel_rfl)) (fun _ _ _ h => h) (Or.inl ⟨by rfl, ?_⟩) ?_ ?_
          rotate_left
          · intro w'
            go_simp
            with_reducible rfl
          rotate_left
          · simp only [Act.put, List.setIfInBounds_toArray, List.set_cons_zero, List.set_cons_succ, i64_w, i32_w]
            rfl
          refine one_ (i := 10) (N := none) #[true, true, true, true, true, true, true, true, true, true, true, false] rfl rfl (one_of HT_.out (by kernel_rfl)) (by decide) (fun K hK => ?_)
          have hs30 : w29.cell? ⟨gb325, 0, none⟩ = some (.int .i64 0) := (blk_cell BK325.out 0).trans rfl
          have hfs30 := blk_frozen BK325.out 0
          have hns30_0 := NB315_325.out
          have hms30_0 := NB325_315.out
          have hs31 : w29.cell? ⟨gb325, 1, none⟩ = some (.int .i64 0) := (blk_cell BK325.out 1).trans rfl
          have hfs31 := blk_frozen BK325.out 1
          have hns31_0 := NB315_325.out
          have hms31_0 := NB325_315.out
          refine skip_ (w1 := ?_) (by rfl) rfl ?_ ?_
          rotate_left
          · go_simp
            rfl
          refine hK.out _ _ ⟨((cell_far (p := ⟨gb325, _, none⟩) NB315_325.out _).trans (((cell_far (p := ⟨gb325, _, none⟩) NB315_325.out _).trans (hHeld.1)))), ((cell_far (p := ⟨gb325, _, none⟩) NB315_325.out _).trans (((cell_far (p := ⟨gb325, _, none⟩) NB315_325.out _).trans (hHeld.2.1)))), ((cell_far (p := ⟨gb325, _, none⟩) NB315_325.out _).trans (((cell_far (p := ⟨gb325, _, none⟩) NB315_325.out _).trans (hHeld.2.2.1)))), ((cell_far (p := ⟨gb325, _, none⟩) NB315_325.out _).trans (((cell_far (p := ⟨gb325, _, none⟩) NB315_325.out _).trans (hHeld.2.2.2))))⟩ (fun hHeld => ?_)
          clear hK K
          refine pure_ (i := 11) (N := some 7) (v := ?_) (a' := ?_) #[true, true, true, true, true, true, true, true, true, true, true, true] rfl rfl (any_of HT_.out (by kernel_rfl)) (fun _ _ _ h => h) (Or.inl ⟨by rfl, ?_⟩) ?_ ?_
          rotate_left
          · intro w'
            go_simp
            with_reducible rfl
          rotate_left
          · simp only [Act.put, List.setIfInBounds_toArray, List.set_cons_zero, List.set_cons_succ, i64_w, i32_w]
            rfl
          refine done_ (done_of HT_.out (by kernel_rfl)) ?_
          have hnb32 := NB315_325.out
          have hnc32 := NB325_315.out
          have hcz33_0 : w29.cell? ⟨gb315, 0, none⟩ = some (.int .i64 t308) := (blk_cell BK315.out 0).trans rfl
          have hcz33_1 : w29.cell? ⟨gb315, 1, none⟩ = some (.int .i64 t309) := (blk_cell BK315.out 1).trans rfl
          have hcz33_2 : w29.cell? ⟨gb315, 2, none⟩ = some (.int .i64 t310) := (blk_cell BK315.out 2).trans rfl
          have hcz33_3 : w29.cell? ⟨gb315, 3, none⟩ = some (.slice Ao22 t311.length co22) := (blk_cell BK315.out 3).trans rfl
          have hfz33_0 := blk_frozen BK315.out 0
          have hfz33_1 := blk_frozen BK315.out 1
          have hfz33_2 := blk_frozen BK315.out 2
          have hfz33_3 := blk_frozen BK315.out 3
          try go_wp2_with (first | ((with_reducible refine gate_callee (f := 17) rfl ?_); refine goesL_ (some 32) rfl rfl Try.func17 (by kernel_rfl) rfl #[.pointer (some ⟨g307, 0, none⟩), .int .i64 t308, .int .i64 t309] rfl q109_ ?_; (with_reducible refine (tilefarmgen_Tape_Within.calls g307 t305 t324 t308 t309 t326 t327 t328 t329 t330 w _ ?side1 ?side2 A7.out).mono ?_); (case side1 => repeat (first | (with_reducible first | exact HI307.out | apply IsS54.alloc | apply IsS54.drewN | apply IsS54.drew | apply IsS54.set_1 | refine IsS54.far ?_ NB307_315.out _ | refine IsS54.far ?_ NB307_325.out _) | exact HI307.out)); (case side2 => repeat (first | (with_reducible first | exact HB.out | apply below_alloc | apply pw_below_drewN | apply below_drew1 | refine below_set ?_ (IsS54.ge HI307.out) | refine below_set ?_ GE315.out | refine below_set ?_ GE325.out) | exact HB.out)); rintro e w34 ⟨rfl, hi, hb, hk⟩; refine ⟨_, rfl, ?_⟩; have n0_ := Aside0.mk (Kd.R_mono (Kd.R_keep (IsS54.apart (show IsS54 w _ g307 t305 t324 from by repeat (first | (with_reducible first | exact HI307.out | apply IsS54.alloc | apply IsS54.drewN | apply IsS54.drew | apply IsS54.set_1 | refine IsS54.far ?_ NB307_315.out _ | refine IsS54.far ?_ NB307_325.out _) | exact HI307.out)) (by (with_reducible repeat (first | apply Kd.R_alloc | apply Kd.R_drewN | apply Kd.R_drew)); exact (Kd.R_mono (Kd.R_far (p := ⟨gb325, 1, none⟩) (Kd.R_far (p := ⟨gb325, 0, none⟩) (Kd.R_types HO313.out BK325.out (by decide)) (fun _ hk => hk.2) (.int .i64 t320)) (fun _ hk => hk.2) (.int .i64 t321)) (fun _ h_ => h_.1))) (by decide)) hk (fun _ h => h.2)) (fun _ h => h.1)); have n1_ := Aside0.mk (KeepBut.blk hk (g' := gb315) (o := .cells #[.int .i64 t308, .int .i64 t309, .int .i64 t310, .slice Ao22 t311.length co22] 35 (0, 0)) (by (with_reducible repeat (first | refine blk_drewN ?_ _ | refine blk_drew ?_ | refine blk_alloc ?_ _)); refine blk_far ?_ NB315_325.out _; (with_reducible repeat (first | refine blk_drewN ?_ _ | refine blk_drew ?_ | refine blk_alloc ?_ _)); refine blk_far ?_ NB315_325.out _; (with_reducible repeat (first | refine blk_drewN ?_ _ | refine blk_drew ?_ | refine blk_alloc ?_ _)); exact BK315.out) NB315_307.out (by simp)); have n2_ := Aside0.mk (Kd.R_mono (Kd.R_keep (IsS54.apart (show IsS54 w _ g307 t305 t324 from by repeat (first | (with_reducible first | exact HI307.out | apply IsS54.alloc | apply IsS54.drewN | apply IsS54.drew | apply IsS54.set_1 | refine IsS54.far ?_ NB307_315.out _ | refine IsS54.far ?_ NB307_325.out _) | exact HI307.out)) (by (with_reducible repeat (first | apply Kd.R_alloc | apply Kd.R_drewN | apply Kd.R_drew)); exact (Kd.R_mono (Kd.R_far (p := ⟨gb325, 1, none⟩) (Kd.R_far (p := ⟨gb325, 0, none⟩) (Kd.R_types HO318.out BK325.out (by decide)) (fun _ hk => hk.2) (.int .i64 t320)) (fun _ hk => hk.2) (.int .i64 t321)) (fun _ h_ => h_.1))) (by decide)) hk (fun _ h => h.2)) (fun _ h => h.1)); have n3_ := Aside0.mk (KeepBut.blk hk (g' := gb325) (o := .cells #[.int .i64 t320, .int .i64 t321] 38 (0, 0)) (by (with_reducible repeat (first | refine blk_drewN ?_ _ | refine blk_drew ?_ | refine blk_alloc ?_ _)); refine blk_put (cs := #[.int .i64 t320, .int .i64 0]) ?_ 1 _ rfl; (with_reducible repeat (first | refine blk_drewN ?_ _ | refine blk_drew ?_ | refine blk_alloc ?_ _)); refine blk_put (cs := #[.int .i64 0, .int .i64 0]) ?_ 0 _ rfl; (with_reducible repeat (first | refine blk_drewN ?_ _ | refine blk_drew ?_ | refine blk_alloc ?_ _)); exact BK325.out) NB325_307.out (by simp)); have n4_ := Aside0.mk (hb); have n5_ := Aside0.mk (hi); clear HO313; clear BK315; clear HO318; clear BK325; clear HB; clear HI307; have HO313 := n0_; have BK315 := n1_; have HO318 := n2_; have BK325 := n3_; have HB := n4_; have HI307 := n5_; clear n0_ n1_ n2_ n3_ n4_ n5_; (try clear hb); (try clear hb2); (try clear hk); (try clear hi)) | ((with_reducible refine gate_dst (N := 8) rfl ?_); refine box_event ?hg (N := 8) ?hd (cs := #[.int .i64 0, .int .i64 0, .int .i64 0, .int .i64 0]) (t := 33) ?hr ?_; (case hd => rfl); (case hg => rfl); (case hr => first | (go_simp; done) | (go_simp; rfl)); intro gb331 hg w35 hbox hb; have n0_ := Aside0.mk (Kd.R_below q159_ hb); have n1_ := Aside0.mk (Kd.R_below q160_ hb); have n2_ := Aside0.mk (IsS54.below q49_ hb); have n3_ := Aside0.mk (blk_below (g := gb315) (o := .cells #[.int .i64 t308, .int .i64 t309, .int .i64 t310, .slice Ao22 t311.length co22] 35 (0, 0)) q147_ hb); have n4_ := Aside0.mk (blk_below (g := gb325) (o := .cells #[.int .i64 t320, .int .i64 t321] 38 (0, 0)) q148_ hb); have n5_ := Aside0.mk (below_step q44_ hb); have n6_ := Aside0.mk (hbox); have n7_ := Aside0.mk ((by rw [hg]; exact (below_size q44_) : w.heap.size ≤ gb331)); have n8_ := Aside0.mk ((by rw [hg]; exact (below_size q44_) : w.heap.size ≤ gb331)); have n9_ := Aside0.mk ((q18_ : gb315 ≠ gb331)); have n10_ := Aside0.mk ((q19_ : gb331 ≠ gb315)); have n11_ := Aside0.mk ((q50_ : gb325 ≠ gb331)); have n12_ := Aside0.mk ((q51_ : gb331 ≠ gb325)); have n13_ := Aside0.mk ((by rw [hg]; exact Nat.ne_of_lt (IsS54.lt (show IsS54 w _ g307 t305 t330 from by repeat (first | (with_reducible first | exact HI307.out | apply IsS54.alloc | apply IsS54.drewN | apply IsS54.drew | apply IsS54.set_1 | refine IsS54.far ?_ NB307_315.out _ | refine IsS54.far ?_ NB307_325.out _) | exact HI307.out))) : g307 ≠ gb331)); have n14_ := Aside0.mk ((by rw [hg]; exact Nat.ne_of_gt (IsS54.lt (show IsS54 w _ g307 t305 t330 from by repeat (first | (with_reducible first | exact HI307.out | apply IsS54.alloc | apply IsS54.drewN | apply IsS54.drew | apply IsS54.set_1 | refine IsS54.far ?_ NB307_315.out _ | refine IsS54.far ?_ NB307_325.out _) | exact HI307.out))) : gb331 ≠ g307)); clear HO313; clear HO318; clear HI307; clear BK315; clear BK325; clear HB; have HO313 := n0_; have HO318 := n1_; have HI307 := n2_; have BK315 := n3_; have BK325 := n4_; have HB := n5_; have BK331 := n6_; have GW331 := n7_; have GE331 := n8_; have NB315_331 := n9_; have NB331_315 := n10_; have NB325_331 := n11_; have NB331_325 := n12_; have NB307_331 := n13_; have NB331_307 := n14_; clear n0_ n1_ n2_ n3_ n4_ n5_ n6_ n7_ n8_ n9_ n10_ n11_ n12_ n13_ n14_; clear hb hbox hg; have hnb36 := NB331_315.out; have hnc36 := NB315_331.out; have hnb37 := NB331_325.out; have hnc37 := NB325_331.out; have hnb38 := NB331_307.out; have hnc38 := NB307_331.out; have hcz39_0 : w35.cell? ⟨gb331, 0, none⟩ = some (.int .i64 0) := (blk_cell BK331.out 0).trans rfl; have hcz39_1 : w35.cell? ⟨gb331, 1, none⟩ = some (.int .i64 0) := (blk_cell BK331.out 1).trans rfl; have hcz39_2 : w35.cell? ⟨gb331, 2, none⟩ = some (.int .i64 0) := (blk_cell BK331.out 2).trans rfl; have hcz39_3 : w35.cell? ⟨gb331, 3, none⟩ = some (.int .i64 0) := (blk_cell BK331.out 3).trans rfl; have hfz39_0 := blk_frozen BK331.out 0; have hfz39_1 := blk_frozen BK331.out 1; have hfz39_2 := blk_frozen BK331.out 2; have hfz39_3 := blk_frozen BK331.out 3; have hcz40_0 : w35.cell? ⟨gb315, 0, none⟩ = some (.int .i64 t308) := (blk_cell BK315.out 0).trans rfl; have hcz40_1 : w35.cell? ⟨gb315, 1, none⟩ = some (.int .i64 t309) := (blk_cell BK315.out 1).trans rfl; have hcz40_2 : w35.cell? ⟨gb315, 2, none⟩ = some (.int .i64 t310) := (blk_cell BK315.out 2).trans rfl; have hcz40_3 : w35.cell? ⟨gb315, 3, none⟩ = some (.slice Ao22 t311.length co22) := (blk_cell BK315.out 3).trans rfl; have hfz40_0 := blk_frozen BK315.out 0; have hfz40_1 := blk_frozen BK315.out 1; have hfz40_2 := blk_frozen BK315.out 2; have hfz40_3 := blk_frozen BK315.out 3; have hnb41 := NB325_307.out; have hnc41 := NB307_325.out; have hcz42_0 : w35.cell? ⟨gb325, 0, none⟩ = some (.int .i64 t320) := (blk_cell BK325.out 0).trans rfl; have hcz42_1 : w35.cell? ⟨gb325, 1, none⟩ = some (.int .i64 t321) := (blk_cell BK325.out 1).trans rfl; have hfz42_0 := blk_frozen BK325.out 0; have hfz42_1 := blk_frozen BK325.out 1; obtain ⟨Ao43, co43, eo43⟩ := Kd.R_slice HO318.out; subst eo43) | ((with_reducible refine gate_callee (f := 20) rfl ?_); refine goesL_ (some 43) rfl rfl Try.func20 (by kernel_rfl) rfl #[.agg #[.int .i64 t308, .int .i64 t309, .int .i64 t310, .slice Ao22 t311.length co22], .agg #[.int .i64 t320, .int .i64 t321], .int .i64 3, .int .i64 3, .slice Ao43 t316.length co43, .int .i64 t323, .int .i64 255, .agg #[.int .i64 0, .int .i64 0, .int .i64 t308, .int .i64 t309]] rfl q109_ ?_; (with_reducible refine (convolve_Tile.calls k t308 t309 t310 _ _ t311 t320 t321 3 3 _ _ t316 t323 255 0 0 t308 t309 t332 t333 t334 t335 t338 _ ?side1 ?side2 ?side3 ?side4 A8.out).mono ?_); (case side1 => refine (Kd.R_reads' (e := 3) (base := w.heap.size) (ok := fun k_ => some k_ ≠ (.slice Ao43 t316.length co43 : Value).ownBlock) (n := t311.length) (c := co22) ?_).2.2; exact q4_); (case side2 => exact (Kd.R_reads' HO313.out).2.1); (case side3 => refine (Kd.R_reads' (e := 3) (base := w.heap.size) (ok := fun k_ => some k_ ≠ (.slice Ao22 t311.length co22 : Value).ownBlock) (n := t316.length) (c := co43) ?_).2.2; exact q5_); (case side4 => exact (Kd.R_reads' HO318.out).2.1); rintro e w44 ⟨v336, rfl, ho0, hb⟩; refine ⟨_, rfl, ?_⟩; have n0_ := Aside0.mk (Kd.R_elder' q4_ (Kd.R_base ho0) hb); have n1_ := Aside0.mk (Kd.R_elder' q5_ (Kd.R_base ho0) hb); have n2_ := Aside0.mk (Kd.R_lower (Kd.R_new' (Kd.R_new' ho0 (Kd.R_lt q4_)) (Kd.R_lt q5_)) (below_size q20_)); have n3_ := Aside0.mk (IsS54.below (show IsS54 w ((((w35.setCell ⟨gb331, 0, none⟩ (.int .i64 t326)).setCell ⟨gb331, 1, none⟩ (.int .i64 t327)).setCell ⟨gb331, 2, none⟩ (.int .i64 t328)).setCell ⟨gb331, 3, none⟩ (.int .i64 t329)) g307 t305 t330 from by repeat (first | (with_reducible first | exact HI307.out | apply IsS54.alloc | apply IsS54.drewN | apply IsS54.drew | apply IsS54.set_1 | refine IsS54.far ?_ NB307_315.out _ | refine IsS54.far ?_ NB307_325.out _ | refine IsS54.far ?_ NB307_331.out _) | exact HI307.out)) hb); have n4_ := Aside0.mk (blk_below (g := gb315) (o := .cells #[.int .i64 t308, .int .i64 t309, .int .i64 t310, .slice Ao22 t311.length co22] 35 (0, 0)) (by (with_reducible repeat (first | refine blk_drewN ?_ _ | refine blk_drew ?_ | refine blk_alloc ?_ _)); refine blk_far ?_ NB315_331.out _; (with_reducible repeat (first | refine blk_drewN ?_ _ | refine blk_drew ?_ | refine blk_alloc ?_ _)); refine blk_far ?_ NB315_331.out _; (with_reducible repeat (first | refine blk_drewN ?_ _ | refine blk_drew ?_ | refine blk_alloc ?_ _)); refine blk_far ?_ NB315_331.out _; (with_reducible repeat (first | refine blk_drewN ?_ _ | refine blk_drew ?_ | refine blk_alloc ?_ _)); refine blk_far ?_ NB315_331.out _; (with_reducible repeat (first | refine blk_drewN ?_ _ | refine blk_drew ?_ | refine blk_alloc ?_ _)); exact BK315.out) hb); have n5_ := Aside0.mk (blk_below (g := gb325) (o := .cells #[.int .i64 t320, .int .i64 t321] 38 (0, 0)) (by (with_reducible repeat (first | refine blk_drewN ?_ _ | refine blk_drew ?_ | refine blk_alloc ?_ _)); refine blk_far ?_ NB325_331.out _; (with_reducible repeat (first | refine blk_drewN ?_ _ | refine blk_drew ?_ | refine blk_alloc ?_ _)); refine blk_far ?_ NB325_331.out _; (with_reducible repeat (first | refine blk_drewN ?_ _ | refine blk_drew ?_ | refine blk_alloc ?_ _)); refine blk_far ?_ NB325_331.out _; (with_reducible repeat (first | refine blk_drewN ?_ _ | refine blk_drew ?_ | refine blk_alloc ?_ _)); refine blk_far ?_ NB325_331.out _; (with_reducible repeat (first | refine blk_drewN ?_ _ | refine blk_drew ?_ | refine blk_alloc ?_ _)); exact BK325.out) hb); have n6_ := Aside0.mk (blk_below (g := gb331) (o := .cells #[.int .i64 t326, .int .i64 t327, .int .i64 t328, .int .i64 t329] 33 (0, 0)) (by (with_reducible repeat (first | refine blk_drewN ?_ _ | refine blk_drew ?_ | refine blk_alloc ?_ _)); refine blk_put (cs := #[.int .i64 t326, .int .i64 t327, .int .i64 t328, .int .i64 0]) ?_ 3 _ rfl; (with_reducible repeat (first | refine blk_drewN ?_ _ | refine blk_drew ?_ | refine blk_alloc ?_ _)); refine blk_put (cs := #[.int .i64 t326, .int .i64 t327, .int .i64 0, .int .i64 0]) ?_ 2 _ rfl; (with_reducible repeat (first | refine blk_drewN ?_ _ | refine blk_drew ?_ | refine blk_alloc ?_ _)); refine blk_put (cs := #[.int .i64 t326, .int .i64 0, .int .i64 0, .int .i64 0]) ?_ 1 _ rfl; (with_reducible repeat (first | refine blk_drewN ?_ _ | refine blk_drew ?_ | refine blk_alloc ?_ _)); refine blk_put (cs := #[.int .i64 0, .int .i64 0, .int .i64 0, .int .i64 0]) ?_ 0 _ rfl; (with_reducible repeat (first | refine blk_drewN ?_ _ | refine blk_drew ?_ | refine blk_alloc ?_ _)); exact BK331.out) hb); have n7_ := Aside0.mk (below_step q20_ hb); clear HO313; clear HO318; clear HI307; clear BK315; clear BK325; clear BK331; clear HB; have HO313 := n0_; have HO318 := n1_; have HO337 := n2_; have HI307 := n3_; have BK315 := n4_; have BK325 := n5_; have BK331 := n6_; have HB := n7_; clear n0_ n1_ n2_ n3_ n4_ n5_ n6_ n7_; (try clear hb); (try clear hb2); (try clear hk); (try clear hi); (try clear ho0)) | ((with_reducible refine gate_dst (N := 9) rfl ?_); refine box_event ?hg (N := 9) ?hd (cs := #[.int .i64 0, .int .i64 0, .int .i64 0, .slice none 0 0]) (t := 35) ?hr ?_; (case hd => rfl); (case hg => rfl); (case hr => first | (go_simp; done) | (go_simp; rfl)); intro gb339 hg w45 hbox hb; have n0_ := Aside0.mk (Kd.R_below q159_ hb); have n1_ := Aside0.mk (Kd.R_below q160_ hb); have n2_ := Aside0.mk (Kd.R_below q161_ hb); have n3_ := Aside0.mk (IsS54.below (by repeat (first | (with_reducible first | exact HI307.out | apply IsS54.alloc | apply IsS54.drewN | apply IsS54.drew | apply IsS54.set_1 | refine IsS54.far ?_ NB307_315.out _ | refine IsS54.far ?_ NB307_325.out _ | refine IsS54.far ?_ NB307_331.out _) | exact HI307.out)) hb); have n4_ := Aside0.mk (blk_below (g := gb315) (o := .cells #[.int .i64 t308, .int .i64 t309, .int .i64 t310, .slice Ao22 t311.length co22] 35 (0, 0)) q147_ hb); have n5_ := Aside0.mk (blk_below (g := gb325) (o := .cells #[.int .i64 t320, .int .i64 t321] 38 (0, 0)) q148_ hb); have n6_ := Aside0.mk (blk_below (g := gb331) (o := .cells #[.int .i64 t326, .int .i64 t327, .int .i64 t328, .int .i64 t329] 33 (0, 0)) q149_ hb); have n7_ := Aside0.mk (below_step q20_ hb); have n8_ := Aside0.mk (hbox); have n9_ := Aside0.mk ((by rw [hg]; exact (below_size q20_) : w.heap.size ≤ gb339)); have n10_ := Aside0.mk ((by rw [hg]; exact (below_size q20_) : w.heap.size ≤ gb339)); have n11_ := Aside0.mk ((q18_ : gb315 ≠ gb339)); have n12_ := Aside0.mk ((q19_ : gb339 ≠ gb315)); have n13_ := Aside0.mk ((q50_ : gb325 ≠ gb339)); have n14_ := Aside0.mk ((q51_ : gb339 ≠ gb325)); have n15_ := Aside0.mk ((q31_ : gb331 ≠ gb339)); have n16_ := Aside0.mk ((q32_ : gb339 ≠ gb331)); have n17_ := Aside0.mk ((by rw [hg]; exact Nat.ne_of_lt (IsS54.lt (show IsS54 w _ g307 t305 t330 from by repeat (first | (with_reducible first | exact HI307.out | apply IsS54.alloc | apply IsS54.drewN | apply IsS54.drew | apply IsS54.set_1 | refine IsS54.far ?_ NB307_315.out _ | refine IsS54.far ?_ NB307_325.out _ | refine IsS54.far ?_ NB307_331.out _) | exact HI307.out))) : g307 ≠ gb339)); have n18_ := Aside0.mk ((by rw [hg]; exact Nat.ne_of_gt (IsS54.lt (show IsS54 w _ g307 t305 t330 from by repeat (first | (with_reducible first | exact HI307.out | apply IsS54.alloc | apply IsS54.drewN | apply IsS54.drew | apply IsS54.set_1 | refine IsS54.far ?_ NB307_315.out _ | refine IsS54.far ?_ NB307_325.out _ | refine IsS54.far ?_ NB307_331.out _) | exact HI307.out))) : gb339 ≠ g307)); clear HO313; clear HO318; clear HO337; clear HI307; clear BK315; clear BK325; clear BK331; clear HB; have HO313 := n0_; have HO318 := n1_; have HO337 := n2_; have HI307 := n3_; have BK315 := n4_; have BK325 := n5_; have BK331 := n6_; have HB := n7_; have BK339 := n8_; have GW339 := n9_; have GE339 := n10_; have NB315_339 := n11_; have NB339_315 := n12_; have NB325_339 := n13_; have NB339_325 := n14_; have NB331_339 := n15_; have NB339_331 := n16_; have NB307_339 := n17_; have NB339_307 := n18_; clear n0_ n1_ n2_ n3_ n4_ n5_ n6_ n7_ n8_ n9_ n10_ n11_ n12_ n13_ n14_ n15_ n16_ n17_ n18_; clear hb hbox hg; have hnb46 := NB339_315.out; have hnc46 := NB315_339.out; have hnb47 := NB339_325.out; have hnc47 := NB325_339.out; have hnb48 := NB339_331.out; have hnc48 := NB331_339.out; have hnb49 := NB339_307.out; have hnc49 := NB307_339.out; have hcz50_0 : w45.cell? ⟨gb339, 0, none⟩ = some (.int .i64 0) := (blk_cell BK339.out 0).trans rfl; have hcz50_1 : w45.cell? ⟨gb339, 1, none⟩ = some (.int .i64 0) := (blk_cell BK339.out 1).trans rfl; have hcz50_2 : w45.cell? ⟨gb339, 2, none⟩ = some (.int .i64 0) := (blk_cell BK339.out 2).trans rfl; have hcz50_3 : w45.cell? ⟨gb339, 3, none⟩ = some (.slice none 0 0) := (blk_cell BK339.out 3).trans rfl; have hfz50_0 := blk_frozen BK339.out 0; have hfz50_1 := blk_frozen BK339.out 1; have hfz50_2 := blk_frozen BK339.out 2; have hfz50_3 := blk_frozen BK339.out 3; obtain ⟨Ao51, co51, eo51⟩ := Kd.R_slice HO337.out; subst eo51; have hcz52_0 : w45.cell? ⟨gb315, 0, none⟩ = some (.int .i64 t308) := (blk_cell BK315.out 0).trans rfl; have hcz52_1 : w45.cell? ⟨gb315, 1, none⟩ = some (.int .i64 t309) := (blk_cell BK315.out 1).trans rfl; have hcz52_2 : w45.cell? ⟨gb315, 2, none⟩ = some (.int .i64 t310) := (blk_cell BK315.out 2).trans rfl; have hcz52_3 : w45.cell? ⟨gb315, 3, none⟩ = some (.slice Ao22 t311.length co22) := (blk_cell BK315.out 3).trans rfl; have hfz52_0 := blk_frozen BK315.out 0; have hfz52_1 := blk_frozen BK315.out 1; have hfz52_2 := blk_frozen BK315.out 2; have hfz52_3 := blk_frozen BK315.out 3; have hcz53_0 : w45.cell? ⟨gb325, 0, none⟩ = some (.int .i64 t320) := (blk_cell BK325.out 0).trans rfl; have hcz53_1 : w45.cell? ⟨gb325, 1, none⟩ = some (.int .i64 t321) := (blk_cell BK325.out 1).trans rfl; have hfz53_0 := blk_frozen BK325.out 0; have hfz53_1 := blk_frozen BK325.out 1; have hcz54_0 : w45.cell? ⟨gb331, 0, none⟩ = some (.int .i64 t326) := (blk_cell BK331.out 0).trans rfl; have hcz54_1 : w45.cell? ⟨gb331, 1, none⟩ = some (.int .i64 t327) := (blk_cell BK331.out 1).trans rfl; have hcz54_2 : w45.cell? ⟨gb331, 2, none⟩ = some (.int .i64 t328) := (blk_cell BK331.out 2).trans rfl; have hcz54_3 : w45.cell? ⟨gb331, 3, none⟩ = some (.int .i64 t329) := (blk_cell BK331.out 3).trans rfl; have hfz54_0 := blk_frozen BK331.out 0; have hfz54_1 := blk_frozen BK331.out 1; have hfz54_2 := blk_frozen BK331.out 2; have hfz54_3 := blk_frozen BK331.out 3) | ((with_reducible refine gate_callee (f := 20) rfl ?_); refine goesL_ (some 52) rfl rfl Try.func20 (by kernel_rfl) rfl #[.agg #[.int .i64 t308, .int .i64 t309, .int .i64 t310, .slice Ao22 t311.length co22], .agg #[.int .i64 t320, .int .i64 t321], .int .i64 3, .int .i64 3, .slice Ao43 t316.length co43, .int .i64 t323, .int .i64 255, .agg #[.int .i64 t326, .int .i64 t327, .int .i64 t328, .int .i64 t329]] rfl q109_ ?_; (with_reducible refine (convolve_Tile.calls k t308 t309 t310 _ _ t311 t320 t321 3 3 _ _ t316 t323 255 t326 t327 t328 t329 t340 t341 t342 t343 t346 _ ?side1 ?side2 ?side3 ?side4 A9.out).mono ?_); (case side1 => refine (Kd.R_reads' (e := 3) (base := w.heap.size) (ok := fun k_ => (some k_ ≠ (.slice Ao43 t316.length co43 : Value).ownBlock ∧ some k_ ≠ (.slice Ao51 t335.length co51 : Value).ownBlock)) (n := t311.length) (c := co22) ?_).2.2; exact q1_); (case side2 => exact (Kd.R_reads' HO313.out).2.1); (case side3 => refine (Kd.R_reads' (e := 3) (base := w.heap.size) (ok := fun k_ => (some k_ ≠ (.slice Ao22 t311.length co22 : Value).ownBlock ∧ some k_ ≠ (.slice Ao51 t335.length co51 : Value).ownBlock)) (n := t316.length) (c := co43) ?_).2.2; exact q2_); (case side4 => exact (Kd.R_reads' HO318.out).2.1); rintro e w55 ⟨v344, rfl, ho0, hb⟩; refine ⟨_, rfl, ?_⟩; have n0_ := Aside0.mk (Kd.R_elder' q1_ (Kd.R_base ho0) hb); have n1_ := Aside0.mk (Kd.R_elder' q2_ (Kd.R_base ho0) hb); have n2_ := Aside0.mk (Kd.R_elder' (by (with_reducible repeat (first | apply Kd.R_alloc | apply Kd.R_drewN | apply Kd.R_drew)); exact (Kd.R_mono (Kd.R_far (p := ⟨gb339, 3, none⟩) (Kd.R_far (p := ⟨gb339, 2, none⟩) (Kd.R_far (p := ⟨gb339, 1, none⟩) (Kd.R_far (p := ⟨gb339, 0, none⟩) (Kd.R_types HO337.out BK339.out (by decide)) (fun _ hk => hk.2) (.int .i64 t332)) (fun _ hk => hk.2) (.int .i64 t333)) (fun _ hk => hk.2) (.int .i64 t334)) (fun _ hk => hk.2) (.slice Ao51 t335.length co51)) (fun _ h_ => h_.1))) (Kd.R_base ho0) hb); have n3_ := Aside0.mk (Kd.R_lower (Kd.R_new' (Kd.R_new' (Kd.R_new' ho0 (Kd.R_lt q1_)) (Kd.R_lt q2_)) (Kd.R_lt (by (with_reducible repeat (first | apply Kd.R_alloc | apply Kd.R_drewN | apply Kd.R_drew)); exact (Kd.R_mono (Kd.R_far (p := ⟨gb339, 3, none⟩) (Kd.R_far (p := ⟨gb339, 2, none⟩) (Kd.R_far (p := ⟨gb339, 1, none⟩) (Kd.R_far (p := ⟨gb339, 0, none⟩) (Kd.R_types HO337.out BK339.out (by decide)) (fun _ hk => hk.2) (.int .i64 t332)) (fun _ hk => hk.2) (.int .i64 t333)) (fun _ hk => hk.2) (.int .i64 t334)) (fun _ hk => hk.2) (.slice Ao51 t335.length co51)) (fun _ h_ => h_.1))))) (below_size q8_)); have n4_ := Aside0.mk (IsS54.below (show IsS54 w ((((w45.setCell ⟨gb339, 0, none⟩ (.int .i64 t332)).setCell ⟨gb339, 1, none⟩ (.int .i64 t333)).setCell ⟨gb339, 2, none⟩ (.int .i64 t334)).setCell ⟨gb339, 3, none⟩ (.slice Ao51 t335.length co51)) g307 t305 t330 from by repeat (first | (with_reducible first | exact HI307.out | apply IsS54.alloc | apply IsS54.drewN | apply IsS54.drew | apply IsS54.set_1 | refine IsS54.far ?_ NB307_315.out _ | refine IsS54.far ?_ NB307_325.out _ | refine IsS54.far ?_ NB307_331.out _ | refine IsS54.far ?_ NB307_339.out _) | exact HI307.out)) hb); have n5_ := Aside0.mk (blk_below (g := gb315) (o := .cells #[.int .i64 t308, .int .i64 t309, .int .i64 t310, .slice Ao22 t311.length co22] 35 (0, 0)) (by (with_reducible repeat (first | refine blk_drewN ?_ _ | refine blk_drew ?_ | refine blk_alloc ?_ _)); refine blk_far ?_ NB315_339.out _; (with_reducible repeat (first | refine blk_drewN ?_ _ | refine blk_drew ?_ | refine blk_alloc ?_ _)); refine blk_far ?_ NB315_339.out _; (with_reducible repeat (first | refine blk_drewN ?_ _ | refine blk_drew ?_ | refine blk_alloc ?_ _)); refine blk_far ?_ NB315_339.out _; (with_reducible repeat (first | refine blk_drewN ?_ _ | refine blk_drew ?_ | refine blk_alloc ?_ _)); refine blk_far ?_ NB315_339.out _; (with_reducible repeat (first | refine blk_drewN ?_ _ | refine blk_drew ?_ | refine blk_alloc ?_ _)); exact BK315.out) hb); have n6_ := Aside0.mk (blk_below (g := gb325) (o := .cells #[.int .i64 t320, .int .i64 t321] 38 (0, 0)) (by (with_reducible repeat (first | refine blk_drewN ?_ _ | refine blk_drew ?_ | refine blk_alloc ?_ _)); refine blk_far ?_ NB325_339.out _; (with_reducible repeat (first | refine blk_drewN ?_ _ | refine blk_drew ?_ | refine blk_alloc ?_ _)); refine blk_far ?_ NB325_339.out _; (with_reducible repeat (first | refine blk_drewN ?_ _ | refine blk_drew ?_ | refine blk_alloc ?_ _)); refine blk_far ?_ NB325_339.out _; (with_reducible repeat (first | refine blk_drewN ?_ _ | refine blk_drew ?_ | refine blk_alloc ?_ _)); refine blk_far ?_ NB325_339.out _; (with_reducible repeat (first | refine blk_drewN ?_ _ | refine blk_drew ?_ | refine blk_alloc ?_ _)); exact BK325.out) hb); have n7_ := Aside0.mk (blk_below (g := gb331) (o := .cells #[.int .i64 t326, .int .i64 t327, .int .i64 t328, .int .i64 t329] 33 (0, 0)) (by (with_reducible repeat (first | refine blk_drewN ?_ _ | refine blk_drew ?_ | refine blk_alloc ?_ _)); refine blk_far ?_ NB331_339.out _; (with_reducible repeat (first | refine blk_drewN ?_ _ | refine blk_drew ?_ | refine blk_alloc ?_ _)); refine blk_far ?_ NB331_339.out _; (with_reducible repeat (first | refine blk_drewN ?_ _ | refine blk_drew ?_ | refine blk_alloc ?_ _)); refine blk_far ?_ NB331_339.out _; (with_reducible repeat (first | refine blk_drewN ?_ _ | refine blk_drew ?_ | refine blk_alloc ?_ _)); refine blk_far ?_ NB331_339.out _; (with_reducible repeat (first | refine blk_drewN ?_ _ | refine blk_drew ?_ | refine blk_alloc ?_ _)); exact BK331.out) hb); have n8_ := Aside0.mk (blk_below (g := gb339) (o := .cells #[.int .i64 t332, .int .i64 t333, .int .i64 t334, .slice Ao51 t335.length co51] 35 (0, 0)) (by (with_reducible repeat (first | refine blk_drewN ?_ _ | refine blk_drew ?_ | refine blk_alloc ?_ _)); refine blk_put (cs := #[.int .i64 t332, .int .i64 t333, .int .i64 t334, .slice none 0 0]) ?_ 3 _ rfl; (with_reducible repeat (first | refine blk_drewN ?_ _ | refine blk_drew ?_ | refine blk_alloc ?_ _)); refine blk_put (cs := #[.int .i64 t332, .int .i64 t333, .int .i64 0, .slice none 0 0]) ?_ 2 _ rfl; (with_reducible repeat (first | refine blk_drewN ?_ _ | refine blk_drew ?_ | refine blk_alloc ?_ _)); refine blk_put (cs := #[.int .i64 t332, .int .i64 0, .int .i64 0, .slice none 0 0]) ?_ 1 _ rfl; (with_reducible repeat (first | refine blk_drewN ?_ _ | refine blk_drew ?_ | refine blk_alloc ?_ _)); refine blk_put (cs := #[.int .i64 0, .int .i64 0, .int .i64 0, .slice none 0 0]) ?_ 0 _ rfl; (with_reducible repeat (first | refine blk_drewN ?_ _ | refine blk_drew ?_ | refine blk_alloc ?_ _)); exact BK339.out) hb); have n9_ := Aside0.mk (below_step q8_ hb); clear HO313; clear HO318; clear HO337; clear HI307; clear BK315; clear BK325; clear BK331; clear BK339; clear HB; have HO313 := n0_; have HO318 := n1_; have HO337 := n2_; have HO345 := n3_; have HI307 := n4_; have BK315 := n5_; have BK325 := n6_; have BK331 := n7_; have BK339 := n8_; have HB := n9_; clear n0_ n1_ n2_ n3_ n4_ n5_ n6_ n7_ n8_ n9_; (try clear hb); (try clear hb2); (try clear hk); (try clear hi); (try clear ho0)) | ((with_reducible refine gate_dst (N := 11) rfl ?_); refine box_event ?hg (N := 11) ?hd (cs := #[.int .i64 0, .int .i64 0, .int .i64 0, .slice none 0 0]) (t := 35) ?hr ?_; (case hd => rfl); (case hg => rfl); (case hr => first | (go_simp; done) | (go_simp; rfl)); intro gb347 hg w56 hbox hb; have n0_ := Aside0.mk (Kd.R_below q159_ hb); have n1_ := Aside0.mk (Kd.R_below q160_ hb); have n2_ := Aside0.mk (Kd.R_below q161_ hb); have n3_ := Aside0.mk (Kd.R_below q162_ hb); have n4_ := Aside0.mk (IsS54.below (by repeat (first | (with_reducible first | exact HI307.out | apply IsS54.alloc | apply IsS54.drewN | apply IsS54.drew | apply IsS54.set_1 | refine IsS54.far ?_ NB307_315.out _ | refine IsS54.far ?_ NB307_325.out _ | refine IsS54.far ?_ NB307_331.out _ | refine IsS54.far ?_ NB307_339.out _) | exact HI307.out)) hb); have n5_ := Aside0.mk (blk_below (g := gb315) (o := .cells #[.int .i64 t308, .int .i64 t309, .int .i64 t310, .slice Ao22 t311.length co22] 35 (0, 0)) q147_ hb); have n6_ := Aside0.mk (blk_below (g := gb325) (o := .cells #[.int .i64 t320, .int .i64 t321] 38 (0, 0)) q148_ hb); have n7_ := Aside0.mk (blk_below (g := gb331) (o := .cells #[.int .i64 t326, .int .i64 t327, .int .i64 t328, .int .i64 t329] 33 (0, 0)) q149_ hb); have n8_ := Aside0.mk (blk_below (g := gb339) (o := .cells #[.int .i64 t332, .int .i64 t333, .int .i64 t334, .slice Ao51 t335.length co51] 35 (0, 0)) q150_ hb); have n9_ := Aside0.mk (below_step q8_ hb); have n10_ := Aside0.mk (hbox); have n11_ := Aside0.mk ((by rw [hg]; exact (below_size q8_) : w.heap.size ≤ gb347)); have n12_ := Aside0.mk ((by rw [hg]; exact (below_size q8_) : w.heap.size ≤ gb347)); have n13_ := Aside0.mk ((q18_ : gb315 ≠ gb347)); have n14_ := Aside0.mk ((q19_ : gb347 ≠ gb315)); have n15_ := Aside0.mk ((q50_ : gb325 ≠ gb347)); have n16_ := Aside0.mk ((q51_ : gb347 ≠ gb325)); have n17_ := Aside0.mk ((q31_ : gb331 ≠ gb347)); have n18_ := Aside0.mk ((q32_ : gb347 ≠ gb331)); have n19_ := Aside0.mk ((by rw [hg]; exact Nat.ne_of_lt (blk_lt (g := gb339) (o := .cells #[.int .i64 t332, .int .i64 t333, .int .i64 t334, .slice Ao51 t335.length co51] 35 (0, 0)) q150_) : gb339 ≠ gb347)); have n20_ := Aside0.mk ((by rw [hg]; exact Nat.ne_of_gt (blk_lt (g := gb339) (o := .cells #[.int .i64 t332, .int .i64 t333, .int .i64 t334, .slice Ao51 t335.length co51] 35 (0, 0)) q150_) : gb347 ≠ gb339)); have n21_ := Aside0.mk ((by rw [hg]; exact Nat.ne_of_lt (IsS54.lt (show IsS54 w _ g307 t305 t330 from by repeat (first | (with_reducible first | exact HI307.out | apply IsS54.alloc | apply IsS54.drewN | apply IsS54.drew | apply IsS54.set_1 | refine IsS54.far ?_ NB307_315.out _ | refine IsS54.far ?_ NB307_325.out _ | refine IsS54.far ?_ NB307_331.out _ | refine IsS54.far ?_ NB307_339.out _) | exact HI307.out))) : g307 ≠ gb347)); have n22_ := Aside0.mk ((by rw [hg]; exact Nat.ne_of_gt (IsS54.lt (show IsS54 w _ g307 t305 t330 from by repeat (first | (with_reducible first | exact HI307.out | apply IsS54.alloc | apply IsS54.drewN | apply IsS54.drew | apply IsS54.set_1 | refine IsS54.far ?_ NB307_315.out _ | refine IsS54.far ?_ NB307_325.out _ | refine IsS54.far ?_ NB307_331.out _ | refine IsS54.far ?_ NB307_339.out _) | exact HI307.out))) : gb347 ≠ g307)); clear HO313; clear HO318; clear HO337; clear HO345; clear HI307; clear BK315; clear BK325; clear BK331; clear BK339; clear HB; have HO313 := n0_; have HO318 := n1_; have HO337 := n2_; have HO345 := n3_; have HI307 := n4_; have BK315 := n5_; have BK325 := n6_; have BK331 := n7_; have BK339 := n8_; have HB := n9_; have BK347 := n10_; have GW347 := n11_; have GE347 := n12_; have NB315_347 := n13_; have NB347_315 := n14_; have NB325_347 := n15_; have NB347_325 := n16_; have NB331_347 := n17_; have NB347_331 := n18_; have NB339_347 := n19_; have NB347_339 := n20_; have NB307_347 := n21_; have NB347_307 := n22_; clear n0_ n1_ n2_ n3_ n4_ n5_ n6_ n7_ n8_ n9_ n10_ n11_ n12_ n13_ n14_ n15_ n16_ n17_ n18_ n19_ n20_ n21_ n22_; clear hb hbox hg; have hnb57 := NB347_315.out; have hnc57 := NB315_347.out; have hnb58 := NB347_325.out; have hnc58 := NB325_347.out; have hnb59 := NB347_331.out; have hnc59 := NB331_347.out; have hnb60 := NB347_339.out; have hnc60 := NB339_347.out; have hnb61 := NB347_307.out; have hnc61 := NB307_347.out; have hcz62_0 : w56.cell? ⟨gb347, 0, none⟩ = some (.int .i64 0) := (blk_cell BK347.out 0).trans rfl; have hcz62_1 : w56.cell? ⟨gb347, 1, none⟩ = some (.int .i64 0) := (blk_cell BK347.out 1).trans rfl; have hcz62_2 : w56.cell? ⟨gb347, 2, none⟩ = some (.int .i64 0) := (blk_cell BK347.out 2).trans rfl; have hcz62_3 : w56.cell? ⟨gb347, 3, none⟩ = some (.slice none 0 0) := (blk_cell BK347.out 3).trans rfl; have hfz62_0 := blk_frozen BK347.out 0; have hfz62_1 := blk_frozen BK347.out 1; have hfz62_2 := blk_frozen BK347.out 2; have hfz62_3 := blk_frozen BK347.out 3; obtain ⟨Ao63, co63, eo63⟩ := Kd.R_slice HO345.out; subst eo63; have hcz64_0 : w56.cell? ⟨gb339, 0, none⟩ = some (.int .i64 t332) := (blk_cell BK339.out 0).trans rfl; have hcz64_1 : w56.cell? ⟨gb339, 1, none⟩ = some (.int .i64 t333) := (blk_cell BK339.out 1).trans rfl; have hcz64_2 : w56.cell? ⟨gb339, 2, none⟩ = some (.int .i64 t334) := (blk_cell BK339.out 2).trans rfl; have hcz64_3 : w56.cell? ⟨gb339, 3, none⟩ = some (.slice Ao51 t335.length co51) := (blk_cell BK339.out 3).trans rfl; have hfz64_0 := blk_frozen BK339.out 0; have hfz64_1 := blk_frozen BK339.out 1; have hfz64_2 := blk_frozen BK339.out 2; have hfz64_3 := blk_frozen BK339.out 3; have hcz65_0 : w56.cell? ⟨gb331, 0, none⟩ = some (.int .i64 t326) := (blk_cell BK331.out 0).trans rfl; have hcz65_1 : w56.cell? ⟨gb331, 1, none⟩ = some (.int .i64 t327) := (blk_cell BK331.out 1).trans rfl; have hcz65_2 : w56.cell? ⟨gb331, 2, none⟩ = some (.int .i64 t328) := (blk_cell BK331.out 2).trans rfl; have hcz65_3 : w56.cell? ⟨gb331, 3, none⟩ = some (.int .i64 t329) := (blk_cell BK331.out 3).trans rfl; have hfz65_0 := blk_frozen BK331.out 0; have hfz65_1 := blk_frozen BK331.out 1; have hfz65_2 := blk_frozen BK331.out 2; have hfz65_3 := blk_frozen BK331.out 3) | ((with_reducible refine gate_callee (f := 23) rfl ?_); refine goesL_ (some 58) rfl rfl Try.func23 (by kernel_rfl) rfl #[.agg #[.int .i64 t332, .int .i64 t333, .int .i64 t334, .slice Ao51 t335.length co51], .agg #[.int .i64 t326, .int .i64 t327, .int .i64 t328, .int .i64 t329]] rfl q109_ ?_; (with_reducible refine (tilefarmref4_Crop.calls k t332 t333 t334 _ _ t335 t326 t327 t328 t329 t348 t349 t350 t351 true _ ?side1 ?side2 A10.out).mono ?_); (case side1 => refine (Kd.R_reads' (e := 3) (base := w.heap.size) (ok := fun k_ => (((True ∧ some k_ ≠ (.slice Ao22 t311.length co22 : Value).ownBlock) ∧ some k_ ≠ (.slice Ao43 t316.length co43 : Value).ownBlock) ∧ some k_ ≠ (.slice Ao63 t343.length co63 : Value).ownBlock)) (n := t335.length) (c := co51) ?_).2.2; exact q3_); (case side2 => exact (Kd.R_reads' HO337.out).2.1); rintro e w66 ⟨v352, rfl, ho0, hb⟩; refine ⟨_, rfl, ?_⟩; have n0_ := Aside0.mk (Kd.R_elder' (by (with_reducible repeat (first | apply Kd.R_alloc | apply Kd.R_drewN | apply Kd.R_drew)); exact (Kd.R_mono (Kd.R_far (p := ⟨gb347, 3, none⟩) (Kd.R_far (p := ⟨gb347, 2, none⟩) (Kd.R_far (p := ⟨gb347, 1, none⟩) (Kd.R_far (p := ⟨gb347, 0, none⟩) (Kd.R_types HO313.out BK347.out (by decide)) (fun _ hk => hk.2) (.int .i64 t340)) (fun _ hk => hk.2) (.int .i64 t341)) (fun _ hk => hk.2) (.int .i64 t342)) (fun _ hk => hk.2) (.slice Ao63 t343.length co63)) (fun _ h_ => h_.1))) (Kd.R_base ho0) hb); have n1_ := Aside0.mk (Kd.R_elder' (by (with_reducible repeat (first | apply Kd.R_alloc | apply Kd.R_drewN | apply Kd.R_drew)); exact (Kd.R_mono (Kd.R_far (p := ⟨gb347, 3, none⟩) (Kd.R_far (p := ⟨gb347, 2, none⟩) (Kd.R_far (p := ⟨gb347, 1, none⟩) (Kd.R_far (p := ⟨gb347, 0, none⟩) (Kd.R_types HO318.out BK347.out (by decide)) (fun _ hk => hk.2) (.int .i64 t340)) (fun _ hk => hk.2) (.int .i64 t341)) (fun _ hk => hk.2) (.int .i64 t342)) (fun _ hk => hk.2) (.slice Ao63 t343.length co63)) (fun _ h_ => h_.1))) (Kd.R_base ho0) hb); have n2_ := Aside0.mk (Kd.R_elder' q3_ (Kd.R_base ho0) hb); have n3_ := Aside0.mk (Kd.R_elder' (by (with_reducible repeat (first | apply Kd.R_alloc | apply Kd.R_drewN | apply Kd.R_drew)); exact (Kd.R_mono (Kd.R_far (p := ⟨gb347, 3, none⟩) (Kd.R_far (p := ⟨gb347, 2, none⟩) (Kd.R_far (p := ⟨gb347, 1, none⟩) (Kd.R_far (p := ⟨gb347, 0, none⟩) (Kd.R_types HO345.out BK347.out (by decide)) (fun _ hk => hk.2) (.int .i64 t340)) (fun _ hk => hk.2) (.int .i64 t341)) (fun _ hk => hk.2) (.int .i64 t342)) (fun _ hk => hk.2) (.slice Ao63 t343.length co63)) (fun _ h_ => h_.1))) (Kd.R_base ho0) hb); have n4_ := Aside0.mk (Kd.R_lower (Kd.R_new' (Kd.R_new' (Kd.R_new' (Kd.R_new' ho0 (Kd.R_lt (by (with_reducible repeat (first | apply Kd.R_alloc | apply Kd.R_drewN | apply Kd.R_drew)); exact (Kd.R_mono (Kd.R_far (p := ⟨gb347, 3, none⟩) (Kd.R_far (p := ⟨gb347, 2, none⟩) (Kd.R_far (p := ⟨gb347, 1, none⟩) (Kd.R_far (p := ⟨gb347, 0, none⟩) (Kd.R_types HO313.out BK347.out (by decide)) (fun _ hk => hk.2) (.int .i64 t340)) (fun _ hk => hk.2) (.int .i64 t341)) (fun _ hk => hk.2) (.int .i64 t342)) (fun _ hk => hk.2) (.slice Ao63 t343.length co63)) (fun _ h_ => h_.1))))) (Kd.R_lt (by (with_reducible repeat (first | apply Kd.R_alloc | apply Kd.R_drewN | apply Kd.R_drew)); exact (Kd.R_mono (Kd.R_far (p := ⟨gb347, 3, none⟩) (Kd.R_far (p := ⟨gb347, 2, none⟩) (Kd.R_far (p := ⟨gb347, 1, none⟩) (Kd.R_far (p := ⟨gb347, 0, none⟩) (Kd.R_types HO318.out BK347.out (by decide)) (fun _ hk => hk.2) (.int .i64 t340)) (fun _ hk => hk.2) (.int .i64 t341)) (fun _ hk => hk.2) (.int .i64 t342)) (fun _ hk => hk.2) (.slice Ao63 t343.length co63)) (fun _ h_ => h_.1))))) (Kd.R_lt q3_)) (Kd.R_lt (by (with_reducible repeat (first | apply Kd.R_alloc | apply Kd.R_drewN | apply Kd.R_drew)); exact (Kd.R_mono (Kd.R_far (p := ⟨gb347, 3, none⟩) (Kd.R_far (p := ⟨gb347, 2, none⟩) (Kd.R_far (p := ⟨gb347, 1, none⟩) (Kd.R_far (p := ⟨gb347, 0, none⟩) (Kd.R_types HO345.out BK347.out (by decide)) (fun _ hk => hk.2) (.int .i64 t340)) (fun _ hk => hk.2) (.int .i64 t341)) (fun _ hk => hk.2) (.int .i64 t342)) (fun _ hk => hk.2) (.slice Ao63 t343.length co63)) (fun _ h_ => h_.1))))) (below_size q7_)); have n5_ := Aside0.mk (IsS54.below (show IsS54 w ((((w56.setCell ⟨gb347, 0, none⟩ (.int .i64 t340)).setCell ⟨gb347, 1, none⟩ (.int .i64 t341)).setCell ⟨gb347, 2, none⟩ (.int .i64 t342)).setCell ⟨gb347, 3, none⟩ (.slice Ao63 t343.length co63)) g307 t305 t330 from by repeat (first | (with_reducible first | exact HI307.out | apply IsS54.alloc | apply IsS54.drewN | apply IsS54.drew | apply IsS54.set_1 | refine IsS54.far ?_ NB307_315.out _ | refine IsS54.far ?_ NB307_325.out _ | refine IsS54.far ?_ NB307_331.out _ | refine IsS54.far ?_ NB307_339.out _ | refine IsS54.far ?_ NB307_347.out _) | exact HI307.out)) hb); have n6_ := Aside0.mk (blk_below (g := gb315) (o := .cells #[.int .i64 t308, .int .i64 t309, .int .i64 t310, .slice Ao22 t311.length co22] 35 (0, 0)) (by (with_reducible repeat (first | refine blk_drewN ?_ _ | refine blk_drew ?_ | refine blk_alloc ?_ _)); refine blk_far ?_ NB315_347.out _; (with_reducible repeat (first | refine blk_drewN ?_ _ | refine blk_drew ?_ | refine blk_alloc ?_ _)); refine blk_far ?_ NB315_347.out _; (with_reducible repeat (first | refine blk_drewN ?_ _ | refine blk_drew ?_ | refine blk_alloc ?_ _)); refine blk_far ?_ NB315_347.out _; (with_reducible repeat (first | refine blk_drewN ?_ _ | refine blk_drew ?_ | refine blk_alloc ?_ _)); refine blk_far ?_ NB315_347.out _; (with_reducible repeat (first | refine blk_drewN ?_ _ | refine blk_drew ?_ | refine blk_alloc ?_ _)); exact BK315.out) hb); have n7_ := Aside0.mk (blk_below (g := gb325) (o := .cells #[.int .i64 t320, .int .i64 t321] 38 (0, 0)) (by (with_reducible repeat (first | refine blk_drewN ?_ _ | refine blk_drew ?_ | refine blk_alloc ?_ _)); refine blk_far ?_ NB325_347.out _; (with_reducible repeat (first | refine blk_drewN ?_ _ | refine blk_drew ?_ | refine blk_alloc ?_ _)); refine blk_far ?_ NB325_347.out _; (with_reducible repeat (first | refine blk_drewN ?_ _ | refine blk_drew ?_ | refine blk_alloc ?_ _)); refine blk_far ?_ NB325_347.out _; (with_reducible repeat (first | refine blk_drewN ?_ _ | refine blk_drew ?_ | refine blk_alloc ?_ _)); refine blk_far ?_ NB325_347.out _; (with_reducible repeat (first | refine blk_drewN ?_ _ | refine blk_drew ?_ | refine blk_alloc ?_ _)); exact BK325.out) hb); have n8_ := Aside0.mk (blk_below (g := gb331) (o := .cells #[.int .i64 t326, .int .i64 t327, .int .i64 t328, .int .i64 t329] 33 (0, 0)) (by (with_reducible repeat (first | refine blk_drewN ?_ _ | refine blk_drew ?_ | refine blk_alloc ?_ _)); refine blk_far ?_ NB331_347.out _; (with_reducible repeat (first | refine blk_drewN ?_ _ | refine blk_drew ?_ | refine blk_alloc ?_ _)); refine blk_far ?_ NB331_347.out _; (with_reducible repeat (first | refine blk_drewN ?_ _ | refine blk_drew ?_ | refine blk_alloc ?_ _)); refine blk_far ?_ NB331_347.out _; (with_reducible repeat (first | refine blk_drewN ?_ _ | refine blk_drew ?_ | refine blk_alloc ?_ _)); refine blk_far ?_ NB331_347.out _; (with_reducible repeat (first | refine blk_drewN ?_ _ | refine blk_drew ?_ | refine blk_alloc ?_ _)); exact BK331.out) hb); have n9_ := Aside0.mk (blk_below (g := gb339) (o := .cells #[.int .i64 t332, .int .i64 t333, .int .i64 t334, .slice Ao51 t335.length co51] 35 (0, 0)) (by (with_reducible repeat (first | refine blk_drewN ?_ _ | refine blk_drew ?_ | refine blk_alloc ?_ _)); refine blk_far ?_ NB339_347.out _; (with_reducible repeat (first | refine blk_drewN ?_ _ | refine blk_drew ?_ | refine blk_alloc ?_ _)); refine blk_far ?_ NB339_347.out _; (with_reducible repeat (first | refine blk_drewN ?_ _ | refine blk_drew ?_ | refine blk_alloc ?_ _)); refine blk_far ?_ NB339_347.out _; (with_reducible repeat (first | refine blk_drewN ?_ _ | refine blk_drew ?_ | refine blk_alloc ?_ _)); refine blk_far ?_ NB339_347.out _; (with_reducible repeat (first | refine blk_drewN ?_ _ | refine blk_drew ?_ | refine blk_alloc ?_ _)); exact BK339.out) hb); have n10_ := Aside0.mk (blk_below (g := gb347) (o := .cells #[.int .i64 t340, .int .i64 t341, .int .i64 t342, .slice Ao63 t343.length co63] 35 (0, 0)) (by (with_reducible repeat (first | refine blk_drewN ?_ _ | refine blk_drew ?_ | refine blk_alloc ?_ _)); refine blk_put (cs := #[.int .i64 t340, .int .i64 t341, .int .i64 t342, .slice none 0 0]) ?_ 3 _ rfl; (with_reducible repeat (first | refine blk_drewN ?_ _ | refine blk_drew ?_ | refine blk_alloc ?_ _)); refine blk_put (cs := #[.int .i64 t340, .int .i64 t341, .int .i64 0, .slice none 0 0]) ?_ 2 _ rfl; (with_reducible repeat (first | refine blk_drewN ?_ _ | refine blk_drew ?_ | refine blk_alloc ?_ _)); refine blk_put (cs := #[.int .i64 t340, .int .i64 0, .int .i64 0, .slice none 0 0]) ?_ 1 _ rfl; (with_reducible repeat (first | refine blk_drewN ?_ _ | refine blk_drew ?_ | refine blk_alloc ?_ _)); refine blk_put (cs := #[.int .i64 0, .int .i64 0, .int .i64 0, .slice none 0 0]) ?_ 0 _ rfl; (with_reducible repeat (first | refine blk_drewN ?_ _ | refine blk_drew ?_ | refine blk_alloc ?_ _)); exact BK347.out) hb); have n11_ := Aside0.mk (below_step q7_ hb); clear HO313; clear HO318; clear HO337; clear HO345; clear HI307; clear BK315; clear BK325; clear BK331; clear BK339; clear BK347; clear HB; have HO313 := n0_; have HO318 := n1_; have HO337 := n2_; have HO345 := n3_; have HO353 := n4_; have HI307 := n5_; have BK315 := n6_; have BK325 := n7_; have BK331 := n8_; have BK339 := n9_; have BK347 := n10_; have HB := n11_; clear n0_ n1_ n2_ n3_ n4_ n5_ n6_ n7_ n8_ n9_ n10_ n11_; (try clear hb); (try clear hb2); (try clear hk); (try clear hi); (try clear ho0)) | ((with_reducible refine gate_dst (N := 13) rfl ?_); refine box_event ?hg (N := 13) ?hd (cs := #[.int .i64 0, .int .i64 0, .int .i64 0, .slice none 0 0]) (t := 35) ?hr ?_; (case hd => rfl); (case hg => rfl); (case hr => first | (go_simp; done) | (go_simp; rfl)); intro gb355 hg w67 hbox hb; have n0_ := Aside0.mk (Kd.R_below q159_ hb); have n1_ := Aside0.mk (Kd.R_below q160_ hb); have n2_ := Aside0.mk (Kd.R_below q161_ hb); have n3_ := Aside0.mk (Kd.R_below q162_ hb); have n4_ := Aside0.mk (Kd.R_below (by (with_reducible repeat (first | apply Kd.R_alloc | apply Kd.R_drewN | apply Kd.R_drew)); exact HO353.out) hb); have n5_ := Aside0.mk (IsS54.below (by repeat (first | (with_reducible first | exact HI307.out | apply IsS54.alloc | apply IsS54.drewN | apply IsS54.drew | apply IsS54.set_1 | refine IsS54.far ?_ NB307_315.out _ | refine IsS54.far ?_ NB307_325.out _ | refine IsS54.far ?_ NB307_331.out _ | refine IsS54.far ?_ NB307_339.out _ | refine IsS54.far ?_ NB307_347.out _) | exact HI307.out)) hb); have n6_ := Aside0.mk (blk_below (g := gb315) (o := .cells #[.int .i64 t308, .int .i64 t309, .int .i64 t310, .slice Ao22 t311.length co22] 35 (0, 0)) q147_ hb); have n7_ := Aside0.mk (blk_below (g := gb325) (o := .cells #[.int .i64 t320, .int .i64 t321] 38 (0, 0)) q148_ hb); have n8_ := Aside0.mk (blk_below (g := gb331) (o := .cells #[.int .i64 t326, .int .i64 t327, .int .i64 t328, .int .i64 t329] 33 (0, 0)) q149_ hb); have n9_ := Aside0.mk (blk_below (g := gb339) (o := .cells #[.int .i64 t332, .int .i64 t333, .int .i64 t334, .slice Ao51 t335.length co51] 35 (0, 0)) q150_ hb); have n10_ := Aside0.mk (blk_below (g := gb347) (o := .cells #[.int .i64 t340, .int .i64 t341, .int .i64 t342, .slice Ao63 t343.length co63] 35 (0, 0)) q151_ hb); have n11_ := Aside0.mk (below_step q7_ hb); have n12_ := Aside0.mk (hbox); have n13_ := Aside0.mk ((by rw [hg]; exact (below_size q7_) : w.heap.size ≤ gb355)); have n14_ := Aside0.mk ((by rw [hg]; exact (below_size q7_) : w.heap.size ≤ gb355)); have n15_ := Aside0.mk ((q18_ : gb315 ≠ gb355)); have n16_ := Aside0.mk ((q19_ : gb355 ≠ gb315)); have n17_ := Aside0.mk ((q50_ : gb325 ≠ gb355)); have n18_ := Aside0.mk ((q51_ : gb355 ≠ gb325)); have n19_ := Aside0.mk ((q31_ : gb331 ≠ gb355)); have n20_ := Aside0.mk ((q32_ : gb355 ≠ gb331)); have n21_ := Aside0.mk ((by rw [hg]; exact Nat.ne_of_lt (blk_lt (g := gb339) (o := .cells #[.int .i64 t332, .int .i64 t333, .int .i64 t334, .slice Ao51 t335.length co51] 35 (0, 0)) q150_) : gb339 ≠ gb355)); have n22_ := Aside0.mk ((by rw [hg]; exact Nat.ne_of_gt (blk_lt (g := gb339) (o := .cells #[.int .i64 t332, .int .i64 t333, .int .i64 t334, .slice Ao51 t335.length co51] 35 (0, 0)) q150_) : gb355 ≠ gb339)); have n23_ := Aside0.mk ((by rw [hg]; exact Nat.ne_of_lt (blk_lt (g := gb347) (o := .cells #[.int .i64 t340, .int .i64 t341, .int .i64 t342, .slice Ao63 t343.length co63] 35 (0, 0)) q151_) : gb347 ≠ gb355)); have n24_ := Aside0.mk ((by rw [hg]; exact Nat.ne_of_gt (blk_lt (g := gb347) (o := .cells #[.int .i64 t340, .int .i64 t341, .int .i64 t342, .slice Ao63 t343.length co63] 35 (0, 0)) q151_) : gb355 ≠ gb347)); have n25_ := Aside0.mk ((by rw [hg]; exact Nat.ne_of_lt (IsS54.lt (show IsS54 w _ g307 t305 t330 from by repeat (first | (with_reducible first | exact HI307.out | apply IsS54.alloc | apply IsS54.drewN | apply IsS54.drew | apply IsS54.set_1 | refine IsS54.far ?_ NB307_315.out _ | refine IsS54.far ?_ NB307_325.out _ | refine IsS54.far ?_ NB307_331.out _ | refine IsS54.far ?_ NB307_339.out _ | refine IsS54.far ?_ NB307_347.out _) | exact HI307.out))) : g307 ≠ gb355)); have n26_ := Aside0.mk ((by rw [hg]; exact Nat.ne_of_gt (IsS54.lt (show IsS54 w _ g307 t305 t330 from by repeat (first | (with_reducible first | exact HI307.out | apply IsS54.alloc | apply IsS54.drewN | apply IsS54.drew | apply IsS54.set_1 | refine IsS54.far ?_ NB307_315.out _ | refine IsS54.far ?_ NB307_325.out _ | refine IsS54.far ?_ NB307_331.out _ | refine IsS54.far ?_ NB307_339.out _ | refine IsS54.far ?_ NB307_347.out _) | exact HI307.out))) : gb355 ≠ g307)); clear HO313; clear HO318; clear HO337; clear HO345; clear HO353; clear HI307; clear BK315; clear BK325; clear BK331; clear BK339; clear BK347; clear HB; have HO313 := n0_; have HO318 := n1_; have HO337 := n2_; have HO345 := n3_; have HO353 := n4_; have HI307 := n5_; have BK315 := n6_; have BK325 := n7_; have BK331 := n8_; have BK339 := n9_; have BK347 := n10_; have HB := n11_; have BK355 := n12_; have GW355 := n13_; have GE355 := n14_; have NB315_355 := n15_; have NB355_315 := n16_; have NB325_355 := n17_; have NB355_325 := n18_; have NB331_355 := n19_; have NB355_331 := n20_; have NB339_355 := n21_; have NB355_339 := n22_; have NB347_355 := n23_; have NB355_347 := n24_; have NB307_355 := n25_; have NB355_307 := n26_; clear n0_ n1_ n2_ n3_ n4_ n5_ n6_ n7_ n8_ n9_ n10_ n11_ n12_ n13_ n14_ n15_ n16_ n17_ n18_ n19_ n20_ n21_ n22_ n23_ n24_ n25_ n26_; clear hb hbox hg; have hnb68 := NB355_315.out; have hnc68 := NB315_355.out; have hnb69 := NB355_325.out; have hnc69 := NB325_355.out; have hnb70 := NB355_331.out; have hnc70 := NB331_355.out; have hnb71 := NB355_339.out; have hnc71 := NB339_355.out; have hnb72 := NB355_347.out; have hnc72 := NB347_355.out; have hnb73 := NB355_307.out; have hnc73 := NB307_355.out; have hcz74_0 : w67.cell? ⟨gb355, 0, none⟩ = some (.int .i64 0) := (blk_cell BK355.out 0).trans rfl; have hcz74_1 : w67.cell? ⟨gb355, 1, none⟩ = some (.int .i64 0) := (blk_cell BK355.out 1).trans rfl; have hcz74_2 : w67.cell? ⟨gb355, 2, none⟩ = some (.int .i64 0) := (blk_cell BK355.out 2).trans rfl; have hcz74_3 : w67.cell? ⟨gb355, 3, none⟩ = some (.slice none 0 0) := (blk_cell BK355.out 3).trans rfl; have hfz74_0 := blk_frozen BK355.out 0; have hfz74_1 := blk_frozen BK355.out 1; have hfz74_2 := blk_frozen BK355.out 2; have hfz74_3 := blk_frozen BK355.out 3; obtain ⟨Ao75, co75, eo75⟩ := Kd.R_slice HO353.out; subst eo75; have hcz76_0 : w67.cell? ⟨gb347, 0, none⟩ = some (.int .i64 t340) := (blk_cell BK347.out 0).trans rfl; have hcz76_1 : w67.cell? ⟨gb347, 1, none⟩ = some (.int .i64 t341) := (blk_cell BK347.out 1).trans rfl; have hcz76_2 : w67.cell? ⟨gb347, 2, none⟩ = some (.int .i64 t342) := (blk_cell BK347.out 2).trans rfl; have hcz76_3 : w67.cell? ⟨gb347, 3, none⟩ = some (.slice Ao63 t343.length co63) := (blk_cell BK347.out 3).trans rfl; have hfz76_0 := blk_frozen BK347.out 0; have hfz76_1 := blk_frozen BK347.out 1; have hfz76_2 := blk_frozen BK347.out 2; have hfz76_3 := blk_frozen BK347.out 3) | (go_at_call 22; (with_reducible refine (tilefarmref4_Equal.calls k t340 t341 t342 _ _ t343 t348 t349 t350 _ _ t351 true _ ?side1 ?side2 ?side3 ?side4 A14.out).mono ?_); (case side1 => refine (Kd.R_reads' (e := 3) (base := w.heap.size) (ok := fun k_ => ((((True ∧ some k_ ≠ (.slice Ao22 t311.length co22 : Value).ownBlock) ∧ some k_ ≠ (.slice Ao43 t316.length co43 : Value).ownBlock) ∧ some k_ ≠ (.slice Ao51 t335.length co51 : Value).ownBlock) ∧ some k_ ≠ (.slice Ao75 t351.length co75 : Value).ownBlock)) (n := t343.length) (c := co63) ?_).2.2; exact (by (with_reducible repeat (first | apply Kd.R_alloc | apply Kd.R_drewN | apply Kd.R_drew)); exact (Kd.R_mono (Kd.R_far (p := ⟨gb355, 3, none⟩) (Kd.R_far (p := ⟨gb355, 2, none⟩) (Kd.R_far (p := ⟨gb355, 1, none⟩) (Kd.R_far (p := ⟨gb355, 0, none⟩) (Kd.R_types HO345.out BK355.out (by decide)) (fun _ hk => hk.2) (.int .i64 t348)) (fun _ hk => hk.2) (.int .i64 t349)) (fun _ hk => hk.2) (.int .i64 t350)) (fun _ hk => hk.2) (.slice Ao75 t351.length co75)) (fun _ h_ => h_.1)))); (case side2 => exact (Kd.R_reads' HO345.out).2.1); (case side3 => refine (Kd.R_reads' (e := 3) (base := w.heap.size) (ok := fun k_ => ((((True ∧ some k_ ≠ (.slice Ao22 t311.length co22 : Value).ownBlock) ∧ some k_ ≠ (.slice Ao43 t316.length co43 : Value).ownBlock) ∧ some k_ ≠ (.slice Ao51 t335.length co51 : Value).ownBlock) ∧ some k_ ≠ (.slice Ao63 t343.length co63 : Value).ownBlock)) (n := t351.length) (c := co75) ?_).2.2; exact (by (with_reducible repeat (first | apply Kd.R_alloc | apply Kd.R_drewN | apply Kd.R_drew)); exact (Kd.R_mono (Kd.R_far (p := ⟨gb355, 3, none⟩) (Kd.R_far (p := ⟨gb355, 2, none⟩) (Kd.R_far (p := ⟨gb355, 1, none⟩) (Kd.R_far (p := ⟨gb355, 0, none⟩) (Kd.R_types HO353.out BK355.out (by decide)) (fun _ hk => hk.2) (.int .i64 t348)) (fun _ hk => hk.2) (.int .i64 t349)) (fun _ hk => hk.2) (.int .i64 t350)) (fun _ hk => hk.2) (.slice Ao75 t351.length co75)) (fun _ h_ => h_.1)))); (case side4 => exact (Kd.R_reads' HO353.out).2.1); rintro e w77 ⟨rfl, hb⟩; have n0_ := Aside0.mk (Kd.R_below (by (with_reducible repeat (first | apply Kd.R_alloc | apply Kd.R_drewN | apply Kd.R_drew)); exact (Kd.R_mono (Kd.R_far (p := ⟨gb355, 3, none⟩) (Kd.R_far (p := ⟨gb355, 2, none⟩) (Kd.R_far (p := ⟨gb355, 1, none⟩) (Kd.R_far (p := ⟨gb355, 0, none⟩) (Kd.R_types HO313.out BK355.out (by decide)) (fun _ hk => hk.2) (.int .i64 t348)) (fun _ hk => hk.2) (.int .i64 t349)) (fun _ hk => hk.2) (.int .i64 t350)) (fun _ hk => hk.2) (.slice Ao75 t351.length co75)) (fun _ h_ => h_.1))) hb); have n1_ := Aside0.mk (Kd.R_below (by (with_reducible repeat (first | apply Kd.R_alloc | apply Kd.R_drewN | apply Kd.R_drew)); exact (Kd.R_mono (Kd.R_far (p := ⟨gb355, 3, none⟩) (Kd.R_far (p := ⟨gb355, 2, none⟩) (Kd.R_far (p := ⟨gb355, 1, none⟩) (Kd.R_far (p := ⟨gb355, 0, none⟩) (Kd.R_types HO318.out BK355.out (by decide)) (fun _ hk => hk.2) (.int .i64 t348)) (fun _ hk => hk.2) (.int .i64 t349)) (fun _ hk => hk.2) (.int .i64 t350)) (fun _ hk => hk.2) (.slice Ao75 t351.length co75)) (fun _ h_ => h_.1))) hb); have n2_ := Aside0.mk (Kd.R_below (by (with_reducible repeat (first | apply Kd.R_alloc | apply Kd.R_drewN | apply Kd.R_drew)); exact (Kd.R_mono (Kd.R_far (p := ⟨gb355, 3, none⟩) (Kd.R_far (p := ⟨gb355, 2, none⟩) (Kd.R_far (p := ⟨gb355, 1, none⟩) (Kd.R_far (p := ⟨gb355, 0, none⟩) (Kd.R_types HO337.out BK355.out (by decide)) (fun _ hk => hk.2) (.int .i64 t348)) (fun _ hk => hk.2) (.int .i64 t349)) (fun _ hk => hk.2) (.int .i64 t350)) (fun _ hk => hk.2) (.slice Ao75 t351.length co75)) (fun _ h_ => h_.1))) hb); have n3_ := Aside0.mk (Kd.R_below (by (with_reducible repeat (first | apply Kd.R_alloc | apply Kd.R_drewN | apply Kd.R_drew)); exact (Kd.R_mono (Kd.R_far (p := ⟨gb355, 3, none⟩) (Kd.R_far (p := ⟨gb355, 2, none⟩) (Kd.R_far (p := ⟨gb355, 1, none⟩) (Kd.R_far (p := ⟨gb355, 0, none⟩) (Kd.R_types HO345.out BK355.out (by decide)) (fun _ hk => hk.2) (.int .i64 t348)) (fun _ hk => hk.2) (.int .i64 t349)) (fun _ hk => hk.2) (.int .i64 t350)) (fun _ hk => hk.2) (.slice Ao75 t351.length co75)) (fun _ h_ => h_.1))) hb); have n4_ := Aside0.mk (Kd.R_below (by (with_reducible repeat (first | apply Kd.R_alloc | apply Kd.R_drewN | apply Kd.R_drew)); exact (Kd.R_mono (Kd.R_far (p := ⟨gb355, 3, none⟩) (Kd.R_far (p := ⟨gb355, 2, none⟩) (Kd.R_far (p := ⟨gb355, 1, none⟩) (Kd.R_far (p := ⟨gb355, 0, none⟩) (Kd.R_types HO353.out BK355.out (by decide)) (fun _ hk => hk.2) (.int .i64 t348)) (fun _ hk => hk.2) (.int .i64 t349)) (fun _ hk => hk.2) (.int .i64 t350)) (fun _ hk => hk.2) (.slice Ao75 t351.length co75)) (fun _ h_ => h_.1))) hb); have n5_ := Aside0.mk (IsS54.below (show IsS54 w ((((w67.setCell ⟨gb355, 0, none⟩ (.int .i64 t348)).setCell ⟨gb355, 1, none⟩ (.int .i64 t349)).setCell ⟨gb355, 2, none⟩ (.int .i64 t350)).setCell ⟨gb355, 3, none⟩ (.slice Ao75 t351.length co75)) g307 t305 t330 from by repeat (first | (with_reducible first | exact HI307.out | apply IsS54.alloc | apply IsS54.drewN | apply IsS54.drew | apply IsS54.set_1 | refine IsS54.far ?_ NB307_315.out _ | refine IsS54.far ?_ NB307_325.out _ | refine IsS54.far ?_ NB307_331.out _ | refine IsS54.far ?_ NB307_339.out _ | refine IsS54.far ?_ NB307_347.out _ | refine IsS54.far ?_ NB307_355.out _) | exact HI307.out)) hb); have n6_ := Aside0.mk (blk_below (g := gb315) (o := .cells #[.int .i64 t308, .int .i64 t309, .int .i64 t310, .slice Ao22 t311.length co22] 35 (0, 0)) (by (with_reducible repeat (first | refine blk_drewN ?_ _ | refine blk_drew ?_ | refine blk_alloc ?_ _)); refine blk_far ?_ NB315_355.out _; (with_reducible repeat (first | refine blk_drewN ?_ _ | refine blk_drew ?_ | refine blk_alloc ?_ _)); refine blk_far ?_ NB315_355.out _; (with_reducible repeat (first | refine blk_drewN ?_ _ | refine blk_drew ?_ | refine blk_alloc ?_ _)); refine blk_far ?_ NB315_355.out _; (with_reducible repeat (first | refine blk_drewN ?_ _ | refine blk_drew ?_ | refine blk_alloc ?_ _)); refine blk_far ?_ NB315_355.out _; (with_reducible repeat (first | refine blk_drewN ?_ _ | refine blk_drew ?_ | refine blk_alloc ?_ _)); exact BK315.out) hb); have n7_ := Aside0.mk (blk_below (g := gb325) (o := .cells #[.int .i64 t320, .int .i64 t321] 38 (0, 0)) (by (with_reducible repeat (first | refine blk_drewN ?_ _ | refine blk_drew ?_ | refine blk_alloc ?_ _)); refine blk_far ?_ NB325_355.out _; (with_reducible repeat (first | refine blk_drewN ?_ _ | refine blk_drew ?_ | refine blk_alloc ?_ _)); refine blk_far ?_ NB325_355.out _; (with_reducible repeat (first | refine blk_drewN ?_ _ | refine blk_drew ?_ | refine blk_alloc ?_ _)); refine blk_far ?_ NB325_355.out _; (with_reducible repeat (first | refine blk_drewN ?_ _ | refine blk_drew ?_ | refine blk_alloc ?_ _)); refine blk_far ?_ NB325_355.out _; (with_reducible repeat (first | refine blk_drewN ?_ _ | refine blk_drew ?_ | refine blk_alloc ?_ _)); exact BK325.out) hb); have n8_ := Aside0.mk (blk_below (g := gb331) (o := .cells #[.int .i64 t326, .int .i64 t327, .int .i64 t328, .int .i64 t329] 33 (0, 0)) (by (with_reducible repeat (first | refine blk_drewN ?_ _ | refine blk_drew ?_ | refine blk_alloc ?_ _)); refine blk_far ?_ NB331_355.out _; (with_reducible repeat (first | refine blk_drewN ?_ _ | refine blk_drew ?_ | refine blk_alloc ?_ _)); refine blk_far ?_ NB331_355.out _; (with_reducible repeat (first | refine blk_drewN ?_ _ | refine blk_drew ?_ | refine blk_alloc ?_ _)); refine blk_far ?_ NB331_355.out _; (with_reducible repeat (first | refine blk_drewN ?_ _ | refine blk_drew ?_ | refine blk_alloc ?_ _)); refine blk_far ?_ NB331_355.out _; (with_reducible repeat (first | refine blk_drewN ?_ _ | refine blk_drew ?_ | refine blk_alloc ?_ _)); exact BK331.out) hb); have n9_ := Aside0.mk (blk_below (g := gb339) (o := .cells #[.int .i64 t332, .int .i64 t333, .int .i64 t334, .slice Ao51 t335.length co51] 35 (0, 0)) (by (with_reducible repeat (first | refine blk_drewN ?_ _ | refine blk_drew ?_ | refine blk_alloc ?_ _)); refine blk_far ?_ NB339_355.out _; (with_reducible repeat (first | refine blk_drewN ?_ _ | refine blk_drew ?_ | refine blk_alloc ?_ _)); refine blk_far ?_ NB339_355.out _; (with_reducible repeat (first | refine blk_drewN ?_ _ | refine blk_drew ?_ | refine blk_alloc ?_ _)); refine blk_far ?_ NB339_355.out _; (with_reducible repeat (first | refine blk_drewN ?_ _ | refine blk_drew ?_ | refine blk_alloc ?_ _)); refine blk_far ?_ NB339_355.out _; (with_reducible repeat (first | refine blk_drewN ?_ _ | refine blk_drew ?_ | refine blk_alloc ?_ _)); exact BK339.out) hb); have n10_ := Aside0.mk (blk_below (g := gb347) (o := .cells #[.int .i64 t340, .int .i64 t341, .int .i64 t342, .slice Ao63 t343.length co63] 35 (0, 0)) (by (with_reducible repeat (first | refine blk_drewN ?_ _ | refine blk_drew ?_ | refine blk_alloc ?_ _)); refine blk_far ?_ NB347_355.out _; (with_reducible repeat (first | refine blk_drewN ?_ _ | refine blk_drew ?_ | refine blk_alloc ?_ _)); refine blk_far ?_ NB347_355.out _; (with_reducible repeat (first | refine blk_drewN ?_ _ | refine blk_drew ?_ | refine blk_alloc ?_ _)); refine blk_far ?_ NB347_355.out _; (with_reducible repeat (first | refine blk_drewN ?_ _ | refine blk_drew ?_ | refine blk_alloc ?_ _)); refine blk_far ?_ NB347_355.out _; (with_reducible repeat (first | refine blk_drewN ?_ _ | refine blk_drew ?_ | refine blk_alloc ?_ _)); exact BK347.out) hb); have n11_ := Aside0.mk (blk_below (g := gb355) (o := .cells #[.int .i64 t348, .int .i64 t349, .int .i64 t350, .slice Ao75 t351.length co75] 35 (0, 0)) (by (with_reducible repeat (first | refine blk_drewN ?_ _ | refine blk_drew ?_ | refine blk_alloc ?_ _)); refine blk_put (cs := #[.int .i64 t348, .int .i64 t349, .int .i64 t350, .slice none 0 0]) ?_ 3 _ rfl; (with_reducible repeat (first | refine blk_drewN ?_ _ | refine blk_drew ?_ | refine blk_alloc ?_ _)); refine blk_put (cs := #[.int .i64 t348, .int .i64 t349, .int .i64 0, .slice none 0 0]) ?_ 2 _ rfl; (with_reducible repeat (first | refine blk_drewN ?_ _ | refine blk_drew ?_ | refine blk_alloc ?_ _)); refine blk_put (cs := #[.int .i64 t348, .int .i64 0, .int .i64 0, .slice none 0 0]) ?_ 1 _ rfl; (with_reducible repeat (first | refine blk_drewN ?_ _ | refine blk_drew ?_ | refine blk_alloc ?_ _)); refine blk_put (cs := #[.int .i64 0, .int .i64 0, .int .i64 0, .slice none 0 0]) ?_ 0 _ rfl; (with_reducible repeat (first | refine blk_drewN ?_ _ | refine blk_drew ?_ | refine blk_alloc ?_ _)); exact BK355.out) hb); have n12_ := Aside0.mk (below_step q6_ hb); clear HO313; clear HO318; clear HO337; clear HO345; clear HO353; clear HI307; clear BK315; clear BK325; clear BK331; clear BK339; clear BK347; clear BK355; clear HB; have HO313 := n0_; have HO318 := n1_; have HO337 := n2_; have HO345 := n3_; have HO353 := n4_; have HI307 := n5_; have BK315 := n6_; have BK325 := n7_; have BK331 := n8_; have BK339 := n9_; have BK347 := n10_; have BK355 := n11_; have HB := n12_; clear n0_ n1_ n2_ n3_ n4_ n5_ n6_ n7_ n8_ n9_ n10_ n11_ n12_; (try clear hb); (try clear hb2); (try clear hk); (try clear hi)) | (go_at_call 14; (with_reducible refine (tilefarmlaw9_sane.calls k  t357 _ A16.out).mono ?_); rintro e w78 ⟨rfl, hb⟩; have n0_ := Aside0.mk (Kd.R_below q159_ hb); have n1_ := Aside0.mk (Kd.R_below q160_ hb); have n2_ := Aside0.mk (Kd.R_below q161_ hb); have n3_ := Aside0.mk (Kd.R_below q162_ hb); have n4_ := Aside0.mk (Kd.R_below (by (with_reducible repeat (first | apply Kd.R_alloc | apply Kd.R_drewN | apply Kd.R_drew)); exact HO353.out) hb); have n5_ := Aside0.mk (IsS54.below (by repeat (first | (with_reducible first | exact HI307.out | apply IsS54.alloc | apply IsS54.drewN | apply IsS54.drew | apply IsS54.set_1 | refine IsS54.far ?_ NB307_315.out _ | refine IsS54.far ?_ NB307_325.out _ | refine IsS54.far ?_ NB307_331.out _ | refine IsS54.far ?_ NB307_339.out _ | refine IsS54.far ?_ NB307_347.out _ | refine IsS54.far ?_ NB307_355.out _) | exact HI307.out)) hb); have n6_ := Aside0.mk (blk_below (g := gb315) (o := .cells #[.int .i64 t308, .int .i64 t309, .int .i64 t310, .slice Ao22 t311.length co22] 35 (0, 0)) q147_ hb); have n7_ := Aside0.mk (blk_below (g := gb325) (o := .cells #[.int .i64 t320, .int .i64 t321] 38 (0, 0)) q148_ hb); have n8_ := Aside0.mk (blk_below (g := gb331) (o := .cells #[.int .i64 t326, .int .i64 t327, .int .i64 t328, .int .i64 t329] 33 (0, 0)) q149_ hb); have n9_ := Aside0.mk (blk_below (g := gb339) (o := .cells #[.int .i64 t332, .int .i64 t333, .int .i64 t334, .slice Ao51 t335.length co51] 35 (0, 0)) q150_ hb); have n10_ := Aside0.mk (blk_below (g := gb347) (o := .cells #[.int .i64 t340, .int .i64 t341, .int .i64 t342, .slice Ao63 t343.length co63] 35 (0, 0)) q151_ hb); have n11_ := Aside0.mk (blk_below (g := gb355) (o := .cells #[.int .i64 t348, .int .i64 t349, .int .i64 t350, .slice Ao75 t351.length co75] 35 (0, 0)) (by (with_reducible repeat (first | refine blk_drewN ?_ _ | refine blk_drew ?_ | refine blk_alloc ?_ _)); exact BK355.out) hb); have n12_ := Aside0.mk (below_step q6_ hb); clear HO313; clear HO318; clear HO337; clear HO345; clear HO353; clear HI307; clear BK315; clear BK325; clear BK331; clear BK339; clear BK347; clear BK355; clear HB; have HO313 := n0_; have HO318 := n1_; have HO337 := n2_; have HO345 := n3_; have HO353 := n4_; have HI307 := n5_; have BK315 := n6_; have BK325 := n7_; have BK331 := n8_; have BK339 := n9_; have BK347 := n10_; have BK355 := n11_; have HB := n12_; clear n0_ n1_ n2_ n3_ n4_ n5_ n6_ n7_ n8_ n9_ n10_ n11_ n12_; (try clear hb); (try clear hb2); (try clear hk); (try clear hi)))
          go_ret
          exact ⟨q165_, q6_⟩
        · replace c15 := Bool.eq_false_iff.mpr c15
          subst c15
          have H1 : (some false) = some r := by rw [if_neg (show ¬ (false = true) by decide)] at H; exact H
          clear H
          have H := H1
          clear H1
          exact absurd ((Option.some.inj H).trans HT.out) (by decide)
      · replace c13 := Bool.eq_false_iff.mpr c13
        subst c13
        have H1 : (some false) = some r := by rw [if_neg (show ¬ (false = true) by decide)] at H; exact H
        clear H
        have H := H1
        clear H1
        exact absurd ((Option.some.inj H).trans HT.out) (by decide)
    · rw [if_neg c12] at H
      have c12b0 : (t346 == 0) = false := beq_eq_false_iff_ne.mpr c12
      have c12b1 : (t346 != 0) = true := bne_iff_ne.mpr c12
      exact absurd ((Option.some.inj H).trans HT.out) (by decide)
  · rw [if_neg c11] at H
    have c11b0 : (t338 == 0) = false := beq_eq_false_iff_ne.mpr c11
    have c11b1 : (t338 != 0) = true := bne_iff_ne.mpr c11
    exact absurd ((Option.some.inj H).trans HT.out) (by decide)


def tilefarmlaw9_ConvolveCrops.Pure : Prop := ∀ (l0 : List Int), l0.length ≤ maxLen → l0.length * 8 ≤ 140737488351232 → (∀ x ∈ l0, (Lit.int .i64 x).wf = true) → ∃ k, tilefarmlaw9_ConvolveCrops.f k l0 = some true
theorem tilefarmlaw9_ConvolveCrops.walk (P : tilefarmlaw9_ConvolveCrops.Pure) (a0 : Option Addr) (len0 cap0 : Nat) (z0 : List Int) (w : World) (w0 : (a0 = none ∧ len0 = 0 ∧ cap0 = 0 ∧ z0 = []) ∨ ∃ x, a0 = some x ∧ len0 ≤ cap0 ∧ cap0 ≤ maxLen ∧ z0.length = cap0 ∧ (∀ i, i < z0.length → w.cell? (x.add i) = some (.int .i64 (z0.getD i 0))) ∧ ∀ n ∈ z0, (Lit.int .i64 n).wf = true) (y0 : len0 * 8 ≤ 140737488351232) :
    Calls Try.prog 5 #[.slice a0 len0 cap0] w fun e w' => e = .returned (.bool true) ∧ Below w.heap.size w w' := by
  obtain ⟨l0, rfl, hr0, hm0, hw0, hc0⟩ := ReadsInt.ofRowC w0
  obtain ⟨k, h⟩ := P l0 hm0 y0 hw0
  refine (tilefarmlaw9_ConvolveCrops.calls k _ _ l0 true w (Kd.C_of_reads (d := (0 : Int)) (h1 := fun _ => rfl) hr0) hc0 h).mono ?_
  rintro e w' ⟨rfl, hd⟩
  exact ⟨rfl, hd⟩

end Go.Proofs.Ythgmndomnibefaa.PConvolveCrops
