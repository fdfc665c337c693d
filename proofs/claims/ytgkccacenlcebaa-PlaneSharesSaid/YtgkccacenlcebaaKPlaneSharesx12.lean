-- Written by a program of the session (wip/tools/pack.py): the printed texts, pruned; checked by Lean.
import Derived.Test.YtgkccacenlcebaaKPlaneSharesa
import Derived.Test.YtgkccacenlcebaaKPlaneSharesx0
import Derived.Test.YtgkccacenlcebaaKPlaneSharesx4
import Derived.Test.YtgkccacenlcebaaKPlaneSharesx7
import Derived.Test.YtgkccacenlcebaaKPlaneSharesx9
import Derived.Test.YtgkccacenlcebaaKPlaneSharesx10
import Derived.Test.YtgkccacenlcebaaKPlaneSharesx11
namespace Go.Proofs.Ytgkccacenlcebaa.PPlaneShares
open Go.RowKit Go.Proofs.YtgkccacenlcebaaW.PrintWords Go.Proofs.YtgkccacenlcebaaW.PrintLast Go.Proofs.YtgkccacenlcebaaW.PrintMore
attribute [local go_sem] max2_int min2_int max_two min_two max_three min_three max_four min_four   -- for this text's walks alone
set_option linter.unusedVariables false
set_option linter.unusedSimpArgs false
def tilefarmlaw4_sane.f (k : Nat)  : Option (Bool) := (tilefarmlaw4_two.f).bind fun bt235 => ((plane_Crop.f k bt235.1 bt235.2.1 bt235.2.2.1 bt235.2.2.2 1 0 2 2).bind fun bt241 => ((plane_New.f 3 1 5).bind fun bt249 => ((tilefarmlaw4_two.f).bind fun bt257 => ((plane_Blit.f k bt257.1 bt257.2.1 bt257.2.2.1 bt257.2.2.2 bt241.1 bt241.2.1 bt241.2.2.1 bt241.2.2.2.1 0 0).bind fun bt263 => (if bt241.2.2.2.2 = true then (if (bt241.2.2.2.1.length : Int) = 2 then (if 1 < (bt241.2.2.2.1.length : Int) then (if (rd bt241.2.2.2.1 1) = 4 then (if bt249.2.2.2.2 = true then (if (bt249.2.2.2.1.length : Int) = 3 then (if bt263.2.2.2.2 = true then (if (bt263.2.2.2.1.length : Int) = 4 then (if 0 < (bt263.2.2.2.1.length : Int) then (if (rd bt263.2.2.2.1 0) = 2 then ((tilefarmlaw4_two.f).bind fun bt273 => ((plane_At.f k bt273.1 bt273.2.1 bt273.2.2.1 bt273.2.2.2 1 0 (-1) 5).bind fun t279 => (if t279 = 3 then ((tilefarmlaw4_two.f).bind fun bt280 => ((plane_Valid.f k bt280.1 bt280.2.1 bt280.2.2.1 bt280.2.2.2).bind fun t286 => (if t286 = true then ((tilefarmlaw4_two.f).bind fun bt287 => ((tilefarmlaw4_two.f).bind fun bt293 => ((plane_Equal.f k bt287.1 bt287.2.1 bt287.2.2.1 bt287.2.2.2 bt293.1 bt293.2.1 bt293.2.2.1 bt293.2.2.2).bind fun t299 => (some t299)))) else (some false)))) else (some false)))) else (some false)) else (none)) else (some false)) else (some false)) else (some false)) else (some false)) else (some false)) else (none)) else (some false)) else (some false))))))
theorem tilefarmlaw4_sane.mono : ∀ k, LeO (tilefarmlaw4_sane.f k ) (tilefarmlaw4_sane.f (k + 1) ) := by
  intro  k
  unfold tilefarmlaw4_sane.f
  repeat' first
      | (with_reducible exact plane_At.mono _ _ _ _ _ _ _ _ _)
      | (with_reducible exact plane_Blit.mono _ _ _ _ _ _ _ _ _ _ _)
      | (with_reducible exact plane_Crop.mono _ _ _ _ _ _ _ _ _)
      | (with_reducible exact plane_Equal.mono _ _ _ _ _ _ _ _ _)
      | (with_reducible exact plane_Valid.mono _ _ _ _ _)
      | (with_reducible exact LeO.refl _)
      | (with_reducible exact LeO.none _)
      | (with_reducible refine LeO.ite ?_ ?_)
      | (with_reducible refine LeO.bind ?_ (fun _ => ?_))
      | exact plane_At.mono _ _ _ _ _ _ _ _ _
      | exact plane_Blit.mono _ _ _ _ _ _ _ _ _ _ _
      | exact plane_Crop.mono _ _ _ _ _ _ _ _ _
      | exact plane_Equal.mono _ _ _ _ _ _ _ _ _
      | exact plane_Valid.mono _ _ _ _ _
      | exact LeO.none _
      | refine LeO.ite ?_ ?_
      | refine LeO.bind ?_ (fun _ => ?_)
def tilefarmlaw4_sane.T3 : Bool × List (List Nat × List Nat) := (true, [([], []), ([], []), ([0, 1, 0], [0, 1]), ([2], [2]), ([3], [3]), ([3], [3]), ([], []), ([6, 4, 2, 0, 1, 2, 3, 4, 6], [4, 6]), ([5, 7, 0, 1, 2, 3, 4, 5, 6, 7], [5])])
def tilefarmlaw4_sane.B3 : List Nat := [0, 0, 3, 7, 15, 15, 0, 95, 255]
theorem tilefarmlaw4_sane.tab3 : rtab .any (opsOf Try.f18 3) = tilefarmlaw4_sane.T3 := by kernel_rfl
theorem tilefarmlaw4_sane.bits3 : waitsOk tilefarmlaw4_sane.T3.2 tilefarmlaw4_sane.B3 = true := by kernel_rfl
set_option maxHeartbeats 8000000 in
set_option maxRecDepth 100000 in
theorem tilefarmlaw4_sane.calls (k : Nat)  (r : Bool) (w : World) (h : tilefarmlaw4_sane.f k  = some r) (hT : r = true := by first | rfl | assumption | exact HT.out) :
    Calls Try.prog 18 #[] w fun e w' => e = .returned (.bool r) ∧ Below w.heap.size w w' := by
  have HT := Aside0.mk hT
  clear hT
  have hu31 := Try.underlying31
  have hu26 := Try.underlying26
  have hu45 := Try.underlying45
  have HB := Aside0.mk (Below.refl w.heap.size w)
  have H : ((tilefarmlaw4_two.f).bind fun bt235 => ((plane_Crop.f k bt235.1 bt235.2.1 bt235.2.2.1 bt235.2.2.2 1 0 2 2).bind fun bt241 => ((plane_New.f 3 1 5).bind fun bt249 => ((tilefarmlaw4_two.f).bind fun bt257 => ((plane_Blit.f k bt257.1 bt257.2.1 bt257.2.2.1 bt257.2.2.2 bt241.1 bt241.2.1 bt241.2.2.1 bt241.2.2.2.1 0 0).bind fun bt263 => (if bt241.2.2.2.2 = true then (if (bt241.2.2.2.1.length : Int) = 2 then (if 1 < (bt241.2.2.2.1.length : Int) then (if (rd bt241.2.2.2.1 1) = 4 then (if bt249.2.2.2.2 = true then (if (bt249.2.2.2.1.length : Int) = 3 then (if bt263.2.2.2.2 = true then (if (bt263.2.2.2.1.length : Int) = 4 then (if 0 < (bt263.2.2.2.1.length : Int) then (if (rd bt263.2.2.2.1 0) = 2 then ((tilefarmlaw4_two.f).bind fun bt273 => ((plane_At.f k bt273.1 bt273.2.1 bt273.2.2.1 bt273.2.2.2 1 0 (-1) 5).bind fun t279 => (if t279 = 3 then ((tilefarmlaw4_two.f).bind fun bt280 => ((plane_Valid.f k bt280.1 bt280.2.1 bt280.2.2.1 bt280.2.2.2).bind fun t286 => (if t286 = true then ((tilefarmlaw4_two.f).bind fun bt287 => ((tilefarmlaw4_two.f).bind fun bt293 => ((plane_Equal.f k bt287.1 bt287.2.1 bt287.2.2.1 bt287.2.2.2 bt293.1 bt293.2.1 bt293.2.2.1 bt293.2.2.2).bind fun t299 => (some t299)))) else (some false)))) else (some false)))) else (some false)) else (none)) else (some false)) else (some false)) else (some false)) else (some false)) else (some false)) else (none)) else (some false)) else (some false))))))) = some r := h
  clear h
  replace H := Option.bind_eq_some_iff.mp H
  obtain ⟨⟨t235, t236, t237, t238⟩, A10, H⟩ := H
  replace H : ((plane_Crop.f k t235 t236 t237 t238 1 0 2 2).bind fun bt241 => ((plane_New.f 3 1 5).bind fun bt249 => ((tilefarmlaw4_two.f).bind fun bt257 => ((plane_Blit.f k bt257.1 bt257.2.1 bt257.2.2.1 bt257.2.2.2 bt241.1 bt241.2.1 bt241.2.2.1 bt241.2.2.2.1 0 0).bind fun bt263 => (if bt241.2.2.2.2 = true then (if (bt241.2.2.2.1.length : Int) = 2 then (if 1 < (bt241.2.2.2.1.length : Int) then (if (rd bt241.2.2.2.1 1) = 4 then (if bt249.2.2.2.2 = true then (if (bt249.2.2.2.1.length : Int) = 3 then (if bt263.2.2.2.2 = true then (if (bt263.2.2.2.1.length : Int) = 4 then (if 0 < (bt263.2.2.2.1.length : Int) then (if (rd bt263.2.2.2.1 0) = 2 then ((tilefarmlaw4_two.f).bind fun bt273 => ((plane_At.f k bt273.1 bt273.2.1 bt273.2.2.1 bt273.2.2.2 1 0 (-1) 5).bind fun t279 => (if t279 = 3 then ((tilefarmlaw4_two.f).bind fun bt280 => ((plane_Valid.f k bt280.1 bt280.2.1 bt280.2.2.1 bt280.2.2.2).bind fun t286 => (if t286 = true then ((tilefarmlaw4_two.f).bind fun bt287 => ((tilefarmlaw4_two.f).bind fun bt293 => ((plane_Equal.f k bt287.1 bt287.2.1 bt287.2.2.1 bt287.2.2.2 bt293.1 bt293.2.1 bt293.2.2.1 bt293.2.2.2).bind fun t299 => (some t299)))) else (some false)))) else (some false)))) else (some false)) else (none)) else (some false)) else (some false)) else (some false)) else (some false)) else (some false)) else (none)) else (some false)) else (some false)))))) = some r := H
  have A1 := Aside0.mk A10
  clear A10
  replace H := Option.bind_eq_some_iff.mp H
  obtain ⟨⟨t241, t242, t243, t244, t247⟩, A20, H⟩ := H
  replace H : ((plane_New.f 3 1 5).bind fun bt249 => ((tilefarmlaw4_two.f).bind fun bt257 => ((plane_Blit.f k bt257.1 bt257.2.1 bt257.2.2.1 bt257.2.2.2 t241 t242 t243 t244 0 0).bind fun bt263 => (if t247 = true then (if (t244.length : Int) = 2 then (if 1 < (t244.length : Int) then (if (rd t244 1) = 4 then (if bt249.2.2.2.2 = true then (if (bt249.2.2.2.1.length : Int) = 3 then (if bt263.2.2.2.2 = true then (if (bt263.2.2.2.1.length : Int) = 4 then (if 0 < (bt263.2.2.2.1.length : Int) then (if (rd bt263.2.2.2.1 0) = 2 then ((tilefarmlaw4_two.f).bind fun bt273 => ((plane_At.f k bt273.1 bt273.2.1 bt273.2.2.1 bt273.2.2.2 1 0 (-1) 5).bind fun t279 => (if t279 = 3 then ((tilefarmlaw4_two.f).bind fun bt280 => ((plane_Valid.f k bt280.1 bt280.2.1 bt280.2.2.1 bt280.2.2.2).bind fun t286 => (if t286 = true then ((tilefarmlaw4_two.f).bind fun bt287 => ((tilefarmlaw4_two.f).bind fun bt293 => ((plane_Equal.f k bt287.1 bt287.2.1 bt287.2.2.1 bt287.2.2.2 bt293.1 bt293.2.1 bt293.2.2.1 bt293.2.2.2).bind fun t299 => (some t299)))) else (some false)))) else (some false)))) else (some false)) else (none)) else (some false)) else (some false)) else (some false)) else (some false)) else (some false)) else (none)) else (some false)) else (some false))))) = some r := H
  have A2 := Aside0.mk A20
  clear A20
  replace H := Option.bind_eq_some_iff.mp H
  obtain ⟨⟨t249, t250, t251, t252, t255⟩, A30, H⟩ := H
  replace H : ((tilefarmlaw4_two.f).bind fun bt257 => ((plane_Blit.f k bt257.1 bt257.2.1 bt257.2.2.1 bt257.2.2.2 t241 t242 t243 t244 0 0).bind fun bt263 => (if t247 = true then (if (t244.length : Int) = 2 then (if 1 < (t244.length : Int) then (if (rd t244 1) = 4 then (if t255 = true then (if (t252.length : Int) = 3 then (if bt263.2.2.2.2 = true then (if (bt263.2.2.2.1.length : Int) = 4 then (if 0 < (bt263.2.2.2.1.length : Int) then (if (rd bt263.2.2.2.1 0) = 2 then ((tilefarmlaw4_two.f).bind fun bt273 => ((plane_At.f k bt273.1 bt273.2.1 bt273.2.2.1 bt273.2.2.2 1 0 (-1) 5).bind fun t279 => (if t279 = 3 then ((tilefarmlaw4_two.f).bind fun bt280 => ((plane_Valid.f k bt280.1 bt280.2.1 bt280.2.2.1 bt280.2.2.2).bind fun t286 => (if t286 = true then ((tilefarmlaw4_two.f).bind fun bt287 => ((tilefarmlaw4_two.f).bind fun bt293 => ((plane_Equal.f k bt287.1 bt287.2.1 bt287.2.2.1 bt287.2.2.2 bt293.1 bt293.2.1 bt293.2.2.1 bt293.2.2.2).bind fun t299 => (some t299)))) else (some false)))) else (some false)))) else (some false)) else (none)) else (some false)) else (some false)) else (some false)) else (some false)) else (some false)) else (none)) else (some false)) else (some false)))) = some r := H
  have A3 := Aside0.mk A30
  clear A30
  replace H := Option.bind_eq_some_iff.mp H
  obtain ⟨⟨t257, t258, t259, t260⟩, A40, H⟩ := H
  replace H : ((plane_Blit.f k t257 t258 t259 t260 t241 t242 t243 t244 0 0).bind fun bt263 => (if t247 = true then (if (t244.length : Int) = 2 then (if 1 < (t244.length : Int) then (if (rd t244 1) = 4 then (if t255 = true then (if (t252.length : Int) = 3 then (if bt263.2.2.2.2 = true then (if (bt263.2.2.2.1.length : Int) = 4 then (if 0 < (bt263.2.2.2.1.length : Int) then (if (rd bt263.2.2.2.1 0) = 2 then ((tilefarmlaw4_two.f).bind fun bt273 => ((plane_At.f k bt273.1 bt273.2.1 bt273.2.2.1 bt273.2.2.2 1 0 (-1) 5).bind fun t279 => (if t279 = 3 then ((tilefarmlaw4_two.f).bind fun bt280 => ((plane_Valid.f k bt280.1 bt280.2.1 bt280.2.2.1 bt280.2.2.2).bind fun t286 => (if t286 = true then ((tilefarmlaw4_two.f).bind fun bt287 => ((tilefarmlaw4_two.f).bind fun bt293 => ((plane_Equal.f k bt287.1 bt287.2.1 bt287.2.2.1 bt287.2.2.2 bt293.1 bt293.2.1 bt293.2.2.1 bt293.2.2.2).bind fun t299 => (some t299)))) else (some false)))) else (some false)))) else (some false)) else (none)) else (some false)) else (some false)) else (some false)) else (some false)) else (some false)) else (none)) else (some false)) else (some false))) = some r := H
  have A4 := Aside0.mk A40
  clear A40
  replace H := Option.bind_eq_some_iff.mp H
  obtain ⟨⟨t263, t264, t265, t266, t269⟩, A50, H⟩ := H
  replace H : (if t247 = true then (if (t244.length : Int) = 2 then (if 1 < (t244.length : Int) then (if (rd t244 1) = 4 then (if t255 = true then (if (t252.length : Int) = 3 then (if t269 = true then (if (t266.length : Int) = 4 then (if 0 < (t266.length : Int) then (if (rd t266 0) = 2 then ((tilefarmlaw4_two.f).bind fun bt273 => ((plane_At.f k bt273.1 bt273.2.1 bt273.2.2.1 bt273.2.2.2 1 0 (-1) 5).bind fun t279 => (if t279 = 3 then ((tilefarmlaw4_two.f).bind fun bt280 => ((plane_Valid.f k bt280.1 bt280.2.1 bt280.2.2.1 bt280.2.2.2).bind fun t286 => (if t286 = true then ((tilefarmlaw4_two.f).bind fun bt287 => ((tilefarmlaw4_two.f).bind fun bt293 => ((plane_Equal.f k bt287.1 bt287.2.1 bt287.2.2.1 bt287.2.2.2 bt293.1 bt293.2.1 bt293.2.2.1 bt293.2.2.2).bind fun t299 => (some t299)))) else (some false)))) else (some false)))) else (some false)) else (none)) else (some false)) else (some false)) else (some false)) else (some false)) else (some false)) else (none)) else (some false)) else (some false)) = some r := H
  have A5 := Aside0.mk A50
  clear A50
  by_cases c6 : t247 = true
  · subst c6
    have H1 : (if (t244.length : Int) = 2 then (if 1 < (t244.length : Int) then (if (rd t244 1) = 4 then (if t255 = true then (if (t252.length : Int) = 3 then (if t269 = true then (if (t266.length : Int) = 4 then (if 0 < (t266.length : Int) then (if (rd t266 0) = 2 then ((tilefarmlaw4_two.f).bind fun bt273 => ((plane_At.f k bt273.1 bt273.2.1 bt273.2.2.1 bt273.2.2.2 1 0 (-1) 5).bind fun t279 => (if t279 = 3 then ((tilefarmlaw4_two.f).bind fun bt280 => ((plane_Valid.f k bt280.1 bt280.2.1 bt280.2.2.1 bt280.2.2.2).bind fun t286 => (if t286 = true then ((tilefarmlaw4_two.f).bind fun bt287 => ((tilefarmlaw4_two.f).bind fun bt293 => ((plane_Equal.f k bt287.1 bt287.2.1 bt287.2.2.1 bt287.2.2.2 bt293.1 bt293.2.1 bt293.2.2.1 bt293.2.2.2).bind fun t299 => (some t299)))) else (some false)))) else (some false)))) else (some false)) else (none)) else (some false)) else (some false)) else (some false)) else (some false)) else (some false)) else (none)) else (some false)) = some r := by rw [if_pos rfl] at H; exact H
    clear H
    have H := H1
    clear H1
    by_cases c7 : (t244.length : Int) = 2
    · rw [if_pos c7] at H
      have c7b0 : ((t244.length : Int) == 2) = true := beq_iff_eq.mpr c7
      have c7b1 : ((t244.length : Int) != 2) = false := bne_eq_false_iff_eq.mpr c7
      clear c7
      by_cases c8 : 1 < (t244.length : Int)
      · rw [if_pos c8] at H
        have c8b0 : decide (1 < (t244.length : Int)) = true := decide_eq_true c8
        have c8b1 : decide (1 < t244.length) = true := decide_eq_true (by omega)
        clear c8
        by_cases c9 : (rd t244 1) = 4
        · rw [if_pos c9] at H
          have c9b0 : ((rd t244 1) == 4) = true := beq_iff_eq.mpr c9
          have c9b1 : ((rd t244 1) != 4) = false := bne_eq_false_iff_eq.mpr c9
          clear c9
          by_cases c10 : t255 = true
          · subst c10
            have H1 : (if (t252.length : Int) = 3 then (if t269 = true then (if (t266.length : Int) = 4 then (if 0 < (t266.length : Int) then (if (rd t266 0) = 2 then ((tilefarmlaw4_two.f).bind fun bt273 => ((plane_At.f k bt273.1 bt273.2.1 bt273.2.2.1 bt273.2.2.2 1 0 (-1) 5).bind fun t279 => (if t279 = 3 then ((tilefarmlaw4_two.f).bind fun bt280 => ((plane_Valid.f k bt280.1 bt280.2.1 bt280.2.2.1 bt280.2.2.2).bind fun t286 => (if t286 = true then ((tilefarmlaw4_two.f).bind fun bt287 => ((tilefarmlaw4_two.f).bind fun bt293 => ((plane_Equal.f k bt287.1 bt287.2.1 bt287.2.2.1 bt287.2.2.2 bt293.1 bt293.2.1 bt293.2.2.1 bt293.2.2.2).bind fun t299 => (some t299)))) else (some false)))) else (some false)))) else (some false)) else (none)) else (some false)) else (some false)) else (some false)) = some r := by rw [if_pos rfl] at H; exact H
            clear H
            have H := H1
            clear H1
            by_cases c11 : (t252.length : Int) = 3
            · rw [if_pos c11] at H
              have c11b0 : ((t252.length : Int) == 3) = true := beq_iff_eq.mpr c11
              have c11b1 : ((t252.length : Int) != 3) = false := bne_eq_false_iff_eq.mpr c11
              clear c11
              by_cases c12 : t269 = true
              · subst c12
                have H1 : (if (t266.length : Int) = 4 then (if 0 < (t266.length : Int) then (if (rd t266 0) = 2 then ((tilefarmlaw4_two.f).bind fun bt273 => ((plane_At.f k bt273.1 bt273.2.1 bt273.2.2.1 bt273.2.2.2 1 0 (-1) 5).bind fun t279 => (if t279 = 3 then ((tilefarmlaw4_two.f).bind fun bt280 => ((plane_Valid.f k bt280.1 bt280.2.1 bt280.2.2.1 bt280.2.2.2).bind fun t286 => (if t286 = true then ((tilefarmlaw4_two.f).bind fun bt287 => ((tilefarmlaw4_two.f).bind fun bt293 => ((plane_Equal.f k bt287.1 bt287.2.1 bt287.2.2.1 bt287.2.2.2 bt293.1 bt293.2.1 bt293.2.2.1 bt293.2.2.2).bind fun t299 => (some t299)))) else (some false)))) else (some false)))) else (some false)) else (none)) else (some false)) = some r := by rw [if_pos rfl] at H; exact H
                clear H
                have H := H1
                clear H1
                by_cases c13 : (t266.length : Int) = 4
                · rw [if_pos c13] at H
                  have c13b0 : ((t266.length : Int) == 4) = true := beq_iff_eq.mpr c13
                  have c13b1 : ((t266.length : Int) != 4) = false := bne_eq_false_iff_eq.mpr c13
                  clear c13
                  by_cases c14 : 0 < (t266.length : Int)
                  · rw [if_pos c14] at H
                    have c14b0 : decide (0 < (t266.length : Int)) = true := decide_eq_true c14
                    have c14b1 : decide (0 < t266.length) = true := decide_eq_true (by omega)
                    clear c14
                    by_cases c15 : (rd t266 0) = 2
                    · rw [if_pos c15] at H
                      have c15b0 : ((rd t266 0) == 2) = true := beq_iff_eq.mpr c15
                      have c15b1 : ((rd t266 0) != 2) = false := bne_eq_false_iff_eq.mpr c15
                      clear c15
                      replace H := Option.bind_eq_some_iff.mp H
                      obtain ⟨⟨t273, t274, t275, t276⟩, A160, H⟩ := H
                      replace H : ((plane_At.f k t273 t274 t275 t276 1 0 (-1) 5).bind fun t279 => (if t279 = 3 then ((tilefarmlaw4_two.f).bind fun bt280 => ((plane_Valid.f k bt280.1 bt280.2.1 bt280.2.2.1 bt280.2.2.2).bind fun t286 => (if t286 = true then ((tilefarmlaw4_two.f).bind fun bt287 => ((tilefarmlaw4_two.f).bind fun bt293 => ((plane_Equal.f k bt287.1 bt287.2.1 bt287.2.2.1 bt287.2.2.2 bt293.1 bt293.2.1 bt293.2.2.1 bt293.2.2.2).bind fun t299 => (some t299)))) else (some false)))) else (some false))) = some r := H
                      have A16 := Aside0.mk A160
                      clear A160
                      replace H := Option.bind_eq_some_iff.mp H
                      obtain ⟨t279, A170, H⟩ := H
                      replace H : (if t279 = 3 then ((tilefarmlaw4_two.f).bind fun bt280 => ((plane_Valid.f k bt280.1 bt280.2.1 bt280.2.2.1 bt280.2.2.2).bind fun t286 => (if t286 = true then ((tilefarmlaw4_two.f).bind fun bt287 => ((tilefarmlaw4_two.f).bind fun bt293 => ((plane_Equal.f k bt287.1 bt287.2.1 bt287.2.2.1 bt287.2.2.2 bt293.1 bt293.2.1 bt293.2.2.1 bt293.2.2.2).bind fun t299 => (some t299)))) else (some false)))) else (some false)) = some r := H
                      have A17 := Aside0.mk A170
                      clear A170
                      by_cases c18 : t279 = 3
                      · rw [if_pos c18] at H
                        have c18b0 : (t279 == 3) = true := beq_iff_eq.mpr c18
                        have c18b1 : (t279 != 3) = false := bne_eq_false_iff_eq.mpr c18
                        clear c18
                        replace H := Option.bind_eq_some_iff.mp H
                        obtain ⟨⟨t280, t281, t282, t283⟩, A190, H⟩ := H
                        replace H : ((plane_Valid.f k t280 t281 t282 t283).bind fun t286 => (if t286 = true then ((tilefarmlaw4_two.f).bind fun bt287 => ((tilefarmlaw4_two.f).bind fun bt293 => ((plane_Equal.f k bt287.1 bt287.2.1 bt287.2.2.1 bt287.2.2.2 bt293.1 bt293.2.1 bt293.2.2.1 bt293.2.2.2).bind fun t299 => (some t299)))) else (some false))) = some r := H
                        have A19 := Aside0.mk A190
                        clear A190
                        replace H := Option.bind_eq_some_iff.mp H
                        obtain ⟨t286, A200, H⟩ := H
                        replace H : (if t286 = true then ((tilefarmlaw4_two.f).bind fun bt287 => ((tilefarmlaw4_two.f).bind fun bt293 => ((plane_Equal.f k bt287.1 bt287.2.1 bt287.2.2.1 bt287.2.2.2 bt293.1 bt293.2.1 bt293.2.2.1 bt293.2.2.2).bind fun t299 => (some t299)))) else (some false)) = some r := H
                        have A20 := Aside0.mk A200
                        clear A200
                        by_cases c21 : t286 = true
                        · subst c21
                          have H1 : ((tilefarmlaw4_two.f).bind fun bt287 => ((tilefarmlaw4_two.f).bind fun bt293 => ((plane_Equal.f k bt287.1 bt287.2.1 bt287.2.2.1 bt287.2.2.2 bt293.1 bt293.2.1 bt293.2.2.1 bt293.2.2.2).bind fun t299 => (some t299)))) = some r := by rw [if_pos rfl] at H; exact H
                          clear H
                          have H := H1
                          clear H1
                          replace H := Option.bind_eq_some_iff.mp H
                          obtain ⟨⟨t287, t288, t289, t290⟩, A220, H⟩ := H
                          replace H : ((tilefarmlaw4_two.f).bind fun bt293 => ((plane_Equal.f k t287 t288 t289 t290 bt293.1 bt293.2.1 bt293.2.2.1 bt293.2.2.2).bind fun t299 => (some t299))) = some r := H
                          have A22 := Aside0.mk A220
                          clear A220
                          replace H := Option.bind_eq_some_iff.mp H
                          obtain ⟨⟨t293, t294, t295, t296⟩, A230, H⟩ := H
                          replace H : ((plane_Equal.f k t287 t288 t289 t290 t293 t294 t295 t296).bind fun t299 => (some t299)) = some r := H
                          have A23 := Aside0.mk A230
                          clear A230
                          replace H := Option.bind_eq_some_iff.mp H
                          obtain ⟨t299, A240, H⟩ := H
                          replace H : (some t299) = some r := H
                          have A24 := Aside0.mk A240
                          clear A240
                          obtain rfl := Option.some.inj H
                          go_enter Try.func18, Try.ntmps18
                          try go_wp2_with (first | ((with_reducible refine gate_callee (f := 41) rfl ?_); refine goesL_ (some 8) rfl rfl Try.func41 (by kernel_rfl) rfl #[] rfl q130_ ?_; (with_reducible refine (tilefarmlaw4_two.calls  t235 t236 t237 t238 _ A1.out).mono ?_); rintro e w25 ⟨v239, rfl, ho0, hb⟩; refine ⟨_, rfl, ?_⟩; have n0_ := Aside0.mk (Kd.R_lower ho0 (below_size q133_)); have n1_ := Aside0.mk (below_step q133_ hb); clear HB; have HO240 := n0_; have HB := n1_; clear n0_ n1_; (try clear hb); (try clear hb2); (try clear hk); (try clear hi); (try clear ho0); obtain ⟨Ao26, co26, eo26⟩ := Kd.R_slice HO240.out; subst eo26) | ((with_reducible refine gate_callee (f := 13) rfl ?_); refine goesL_ (some 10) rfl rfl Try.func13 (by kernel_rfl) rfl #[.agg #[.int .i64 t235, .int .i64 t236, .int .i64 t237, .slice Ao26 t238.length co26], .agg #[.int .i64 1, .int .i64 0, .int .i64 2, .int .i64 2]] rfl q130_ ?_; (with_reducible refine (plane_Crop.calls k t235 t236 t237 _ _ t238 1 0 2 2 t241 t242 t243 t244 true _ ?side1 ?side2 A2.out).mono ?_); (case side1 => repeat (first | exact (Kd.R_reads' HO240.out).2.2 | (with_reducible refine Kd.C_alloc ?_ _) | (with_reducible refine Kd.C_drewN ?_ _) | (with_reducible refine Kd.C_drew ?_))); (case side2 => exact (Kd.R_reads' HO240.out).2.1); rintro e w27 ⟨v245, rfl, ho0, hb⟩; refine ⟨_, rfl, ?_⟩; have n0_ := Aside0.mk (Kd.R_elder' q180_ (Kd.R_base ho0) hb); have n1_ := Aside0.mk (Kd.R_lower (Kd.R_new' ho0 (Kd.R_lt q180_)) (below_size q133_)); have n2_ := Aside0.mk (below_step q133_ hb); clear HO240; clear HB; have HO240 := n0_; have HO246 := n1_; have HB := n2_; clear n0_ n1_ n2_; (try clear hb); (try clear hb2); (try clear hk); (try clear hi); (try clear ho0)) | ((with_reducible refine gate_dst (N := 1) rfl ?_); (try (refine gate_guard (by rfl) ?_; dsimp only)); refine box_event ?hg (N := 1) ?hd (cs := #[.int .i64 0, .int .i64 0, .int .i64 0, .slice none 0 0]) (t := 26) ?hr ?_; (case hd => rfl); (case hg => rfl); (case hr => first | (go_simp; done) | (go_simp; rfl)); intro gb248 hg w28 hbox hb; have n0_ := Aside0.mk (Kd.R_below q180_ hb); have n1_ := Aside0.mk (Kd.R_below q181_ hb); have n2_ := Aside0.mk (below_step q133_ hb); have n3_ := Aside0.mk (hbox); have n4_ := Aside0.mk ((q110_ : w.heap.size ≤ gb248)); have n5_ := Aside0.mk ((q110_ : w.heap.size ≤ gb248)); clear HO240; clear HO246; clear HB; have HO240 := n0_; have HO246 := n1_; have HB := n2_; have BK248 := n3_; have GW248 := n4_; have GE248 := n5_; clear n0_ n1_ n2_ n3_ n4_ n5_; clear hb hbox hg; have hcz29_0 : w28.cell? ⟨gb248, 0, none⟩ = some (.int .i64 0) := (blk_cell BK248.out 0).trans rfl; have hcz29_1 : w28.cell? ⟨gb248, 1, none⟩ = some (.int .i64 0) := (blk_cell BK248.out 1).trans rfl; have hcz29_2 : w28.cell? ⟨gb248, 2, none⟩ = some (.int .i64 0) := (blk_cell BK248.out 2).trans rfl; have hcz29_3 : w28.cell? ⟨gb248, 3, none⟩ = some (.slice none 0 0) := (blk_cell BK248.out 3).trans rfl; have hfz29_0 := blk_frozen BK248.out 0; have hfz29_1 := blk_frozen BK248.out 1; have hfz29_2 := blk_frozen BK248.out 2; have hfz29_3 := blk_frozen BK248.out 3; obtain ⟨Ao30, co30, eo30⟩ := Kd.R_slice HO246.out; subst eo30) | ((with_reducible refine gate_callee (f := 23) rfl ?_); refine goesL_ (some 14) rfl rfl Try.func23 (by kernel_rfl) rfl #[.int .i64 3, .int .i64 1, .int .i64 5] rfl q130_ ?_; (with_reducible refine (plane_New.calls 3 1 5 t249 t250 t251 t252 true _ A3.out).mono ?_); rintro e w31 ⟨v253, rfl, ho0, hb⟩; refine ⟨_, rfl, ?_⟩; have n0_ := Aside0.mk (Kd.R_elder' (by (with_reducible repeat (first | apply Kd.R_alloc | apply Kd.R_drewN | apply Kd.R_drew)); exact (Kd.R_mono (Kd.R_far (p := ⟨gb248, 3, none⟩) (Kd.R_far (p := ⟨gb248, 2, none⟩) (Kd.R_far (p := ⟨gb248, 1, none⟩) (Kd.R_far (p := ⟨gb248, 0, none⟩) (Kd.R_types HO240.out BK248.out (by decide)) (fun _ hk => hk.2) (.int .i64 t241)) (fun _ hk => hk.2) (.int .i64 t242)) (fun _ hk => hk.2) (.int .i64 t243)) (fun _ hk => hk.2) (.slice Ao30 t244.length co30)) (fun _ h_ => h_.1))) (Kd.R_base ho0) hb); have n1_ := Aside0.mk (Kd.R_elder' (by (with_reducible repeat (first | apply Kd.R_alloc | apply Kd.R_drewN | apply Kd.R_drew)); exact (Kd.R_mono (Kd.R_far (p := ⟨gb248, 3, none⟩) (Kd.R_far (p := ⟨gb248, 2, none⟩) (Kd.R_far (p := ⟨gb248, 1, none⟩) (Kd.R_far (p := ⟨gb248, 0, none⟩) (Kd.R_types HO246.out BK248.out (by decide)) (fun _ hk => hk.2) (.int .i64 t241)) (fun _ hk => hk.2) (.int .i64 t242)) (fun _ hk => hk.2) (.int .i64 t243)) (fun _ hk => hk.2) (.slice Ao30 t244.length co30)) (fun _ h_ => h_.1))) (Kd.R_base ho0) hb); have n2_ := Aside0.mk (Kd.R_lower (Kd.R_new' (Kd.R_new' ho0 (Kd.R_lt (by (with_reducible repeat (first | apply Kd.R_alloc | apply Kd.R_drewN | apply Kd.R_drew)); exact (Kd.R_mono (Kd.R_far (p := ⟨gb248, 3, none⟩) (Kd.R_far (p := ⟨gb248, 2, none⟩) (Kd.R_far (p := ⟨gb248, 1, none⟩) (Kd.R_far (p := ⟨gb248, 0, none⟩) (Kd.R_types HO240.out BK248.out (by decide)) (fun _ hk => hk.2) (.int .i64 t241)) (fun _ hk => hk.2) (.int .i64 t242)) (fun _ hk => hk.2) (.int .i64 t243)) (fun _ hk => hk.2) (.slice Ao30 t244.length co30)) (fun _ h_ => h_.1))))) (Kd.R_lt (by (with_reducible repeat (first | apply Kd.R_alloc | apply Kd.R_drewN | apply Kd.R_drew)); exact (Kd.R_mono (Kd.R_far (p := ⟨gb248, 3, none⟩) (Kd.R_far (p := ⟨gb248, 2, none⟩) (Kd.R_far (p := ⟨gb248, 1, none⟩) (Kd.R_far (p := ⟨gb248, 0, none⟩) (Kd.R_types HO246.out BK248.out (by decide)) (fun _ hk => hk.2) (.int .i64 t241)) (fun _ hk => hk.2) (.int .i64 t242)) (fun _ hk => hk.2) (.int .i64 t243)) (fun _ hk => hk.2) (.slice Ao30 t244.length co30)) (fun _ h_ => h_.1))))) (below_size q126_)); have n3_ := Aside0.mk (blk_below (g := gb248) (o := .cells #[.int .i64 t241, .int .i64 t242, .int .i64 t243, .slice Ao30 t244.length co30] 26 (0, 0)) (by (with_reducible repeat (first | refine blk_drewN ?_ _ | refine blk_drew ?_ | refine blk_alloc ?_ _)); refine blk_put (cs := #[.int .i64 t241, .int .i64 t242, .int .i64 t243, .slice none 0 0]) ?_ 3 _ rfl; (with_reducible repeat (first | refine blk_drewN ?_ _ | refine blk_drew ?_ | refine blk_alloc ?_ _)); refine blk_put (cs := #[.int .i64 t241, .int .i64 t242, .int .i64 0, .slice none 0 0]) ?_ 2 _ rfl; (with_reducible repeat (first | refine blk_drewN ?_ _ | refine blk_drew ?_ | refine blk_alloc ?_ _)); refine blk_put (cs := #[.int .i64 t241, .int .i64 0, .int .i64 0, .slice none 0 0]) ?_ 1 _ rfl; (with_reducible repeat (first | refine blk_drewN ?_ _ | refine blk_drew ?_ | refine blk_alloc ?_ _)); refine blk_put (cs := #[.int .i64 0, .int .i64 0, .int .i64 0, .slice none 0 0]) ?_ 0 _ rfl; (with_reducible repeat (first | refine blk_drewN ?_ _ | refine blk_drew ?_ | refine blk_alloc ?_ _)); exact BK248.out) hb); have n4_ := Aside0.mk (below_step q126_ hb); clear HO240; clear HO246; clear BK248; clear HB; have HO240 := n0_; have HO246 := n1_; have HO254 := n2_; have BK248 := n3_; have HB := n4_; clear n0_ n1_ n2_ n3_ n4_; (try clear hb); (try clear hb2); (try clear hk); (try clear hi); (try clear ho0)) | ((with_reducible refine gate_dst (N := 3) rfl ?_); (try (refine gate_guard (by rfl) ?_; dsimp only)); refine box_event ?hg (N := 3) ?hd (cs := #[.int .i64 0, .int .i64 0, .int .i64 0, .slice none 0 0]) (t := 26) ?hr ?_; (case hd => rfl); (case hg => rfl); (case hr => first | (go_simp; done) | (go_simp; rfl)); intro gb256 hg w32 hbox hb; have n0_ := Aside0.mk (Kd.R_below q180_ hb); have n1_ := Aside0.mk (Kd.R_below q181_ hb); have n2_ := Aside0.mk (Kd.R_below q182_ hb); have n3_ := Aside0.mk (blk_below (g := gb248) (o := .cells #[.int .i64 t241, .int .i64 t242, .int .i64 t243, .slice Ao30 t244.length co30] 26 (0, 0)) q160_ hb); have n4_ := Aside0.mk (below_step q126_ hb); have n5_ := Aside0.mk (hbox); have n6_ := Aside0.mk ((by rw [hg]; exact (below_size q126_) : w.heap.size ≤ gb256)); have n7_ := Aside0.mk ((by rw [hg]; exact (below_size q126_) : w.heap.size ≤ gb256)); have n8_ := Aside0.mk ((q35_ : gb248 ≠ gb256)); have n9_ := Aside0.mk ((q36_ : gb256 ≠ gb248)); clear HO240; clear HO246; clear HO254; clear BK248; clear HB; have HO240 := n0_; have HO246 := n1_; have HO254 := n2_; have BK248 := n3_; have HB := n4_; have BK256 := n5_; have GW256 := n6_; have GE256 := n7_; have NB248_256 := n8_; have NB256_248 := n9_; clear n0_ n1_ n2_ n3_ n4_ n5_ n6_ n7_ n8_ n9_; clear hb hbox hg; have hnb33 := NB256_248.out; have hnc33 := NB248_256.out; have hcz34_0 : w32.cell? ⟨gb256, 0, none⟩ = some (.int .i64 0) := (blk_cell BK256.out 0).trans rfl; have hcz34_1 : w32.cell? ⟨gb256, 1, none⟩ = some (.int .i64 0) := (blk_cell BK256.out 1).trans rfl; have hcz34_2 : w32.cell? ⟨gb256, 2, none⟩ = some (.int .i64 0) := (blk_cell BK256.out 2).trans rfl; have hcz34_3 : w32.cell? ⟨gb256, 3, none⟩ = some (.slice none 0 0) := (blk_cell BK256.out 3).trans rfl; have hfz34_0 := blk_frozen BK256.out 0; have hfz34_1 := blk_frozen BK256.out 1; have hfz34_2 := blk_frozen BK256.out 2; have hfz34_3 := blk_frozen BK256.out 3; obtain ⟨Ao35, co35, eo35⟩ := Kd.R_slice HO254.out; subst eo35))
                          have n0_ : Aside0 (Kd.R (Kd.int .i64) 3 ((((w32.setCell ⟨gb256, 0, none⟩ (.int .i64 t249)).setCell ⟨gb256, 1, none⟩ (.int .i64 t250)).setCell ⟨gb256, 2, none⟩ (.int .i64 t251)).setCell ⟨gb256, 3, none⟩ (.slice Ao35 t252.length co35)) w.heap.size (fun k_ => some k_ ≠ (.slice Ao30 t244.length co30 : Value).ownBlock ∧ some k_ ≠ (.slice Ao35 t252.length co35 : Value).ownBlock) (.slice Ao26 t238.length co26) t238) := ⟨by (with_reducible repeat (first | apply Kd.R_alloc | apply Kd.R_drewN | apply Kd.R_drew)); exact Kd.R_mono (Kd.R_far (p := ⟨gb256, 3, none⟩) (Kd.R_far (p := ⟨gb256, 2, none⟩) (Kd.R_far (p := ⟨gb256, 1, none⟩) (Kd.R_far (p := ⟨gb256, 0, none⟩) (Kd.R_types HO240.out BK256.out (by decide)) (fun _ hk => hk.2) (.int .i64 t249)) (fun _ hk => hk.2) (.int .i64 t250)) (fun _ hk => hk.2) (.int .i64 t251)) (fun _ hk => hk.2) (.slice Ao35 t252.length co35)) (fun _ hk => ⟨hk.1.1.2, hk.1.2⟩)⟩
                          have n1_ : Aside0 (Kd.R (Kd.int .i64) 3 ((((w32.setCell ⟨gb256, 0, none⟩ (.int .i64 t249)).setCell ⟨gb256, 1, none⟩ (.int .i64 t250)).setCell ⟨gb256, 2, none⟩ (.int .i64 t251)).setCell ⟨gb256, 3, none⟩ (.slice Ao35 t252.length co35)) w.heap.size (fun k_ => some k_ ≠ (.slice Ao26 t238.length co26 : Value).ownBlock ∧ some k_ ≠ (.slice Ao35 t252.length co35 : Value).ownBlock) (.slice Ao30 t244.length co30) t244) := ⟨by (with_reducible repeat (first | apply Kd.R_alloc | apply Kd.R_drewN | apply Kd.R_drew)); exact Kd.R_mono (Kd.R_far (p := ⟨gb256, 3, none⟩) (Kd.R_far (p := ⟨gb256, 2, none⟩) (Kd.R_far (p := ⟨gb256, 1, none⟩) (Kd.R_far (p := ⟨gb256, 0, none⟩) (Kd.R_types HO246.out BK256.out (by decide)) (fun _ hk => hk.2) (.int .i64 t249)) (fun _ hk => hk.2) (.int .i64 t250)) (fun _ hk => hk.2) (.int .i64 t251)) (fun _ hk => hk.2) (.slice Ao35 t252.length co35)) (fun _ hk => ⟨hk.1.1.2, hk.1.2⟩)⟩
                          have n2_ : Aside0 (Kd.R (Kd.int .i64) 3 ((((w32.setCell ⟨gb256, 0, none⟩ (.int .i64 t249)).setCell ⟨gb256, 1, none⟩ (.int .i64 t250)).setCell ⟨gb256, 2, none⟩ (.int .i64 t251)).setCell ⟨gb256, 3, none⟩ (.slice Ao35 t252.length co35)) w.heap.size (fun k_ => some k_ ≠ (.slice Ao26 t238.length co26 : Value).ownBlock ∧ some k_ ≠ (.slice Ao30 t244.length co30 : Value).ownBlock) (.slice Ao35 t252.length co35) t252) := ⟨by (with_reducible repeat (first | apply Kd.R_alloc | apply Kd.R_drewN | apply Kd.R_drew)); exact Kd.R_mono (Kd.R_far (p := ⟨gb256, 3, none⟩) (Kd.R_far (p := ⟨gb256, 2, none⟩) (Kd.R_far (p := ⟨gb256, 1, none⟩) (Kd.R_far (p := ⟨gb256, 0, none⟩) (Kd.R_types HO254.out BK256.out (by decide)) (fun _ hk => hk.2) (.int .i64 t249)) (fun _ hk => hk.2) (.int .i64 t250)) (fun _ hk => hk.2) (.int .i64 t251)) (fun _ hk => hk.2) (.slice Ao35 t252.length co35)) (fun _ hk => ⟨hk.1.1.2, hk.1.2⟩)⟩
                          have n3_ : Aside0 (((((w32.setCell ⟨gb256, 0, none⟩ (.int .i64 t249)).setCell ⟨gb256, 1, none⟩ (.int .i64 t250)).setCell ⟨gb256, 2, none⟩ (.int .i64 t251)).setCell ⟨gb256, 3, none⟩ (.slice Ao35 t252.length co35)).heap[gb248]? = some (.cells #[.int .i64 t241, .int .i64 t242, .int .i64 t243, .slice Ao30 t244.length co30] 26 (0, 0))) := ⟨by (with_reducible repeat (first | refine blk_drewN ?_ _ | refine blk_drew ?_ | refine blk_alloc ?_ _)); refine blk_far ?_ NB248_256.out _; (with_reducible repeat (first | refine blk_drewN ?_ _ | refine blk_drew ?_ | refine blk_alloc ?_ _)); refine blk_far ?_ NB248_256.out _; (with_reducible repeat (first | refine blk_drewN ?_ _ | refine blk_drew ?_ | refine blk_alloc ?_ _)); refine blk_far ?_ NB248_256.out _; (with_reducible repeat (first | refine blk_drewN ?_ _ | refine blk_drew ?_ | refine blk_alloc ?_ _)); refine blk_far ?_ NB248_256.out _; (with_reducible repeat (first | refine blk_drewN ?_ _ | refine blk_drew ?_ | refine blk_alloc ?_ _)); exact BK248.out⟩
                          have n4_ : Aside0 (((((w32.setCell ⟨gb256, 0, none⟩ (.int .i64 t249)).setCell ⟨gb256, 1, none⟩ (.int .i64 t250)).setCell ⟨gb256, 2, none⟩ (.int .i64 t251)).setCell ⟨gb256, 3, none⟩ (.slice Ao35 t252.length co35)).heap[gb256]? = some (.cells #[.int .i64 t249, .int .i64 t250, .int .i64 t251, .slice Ao35 t252.length co35] 26 (0, 0))) := ⟨by (with_reducible repeat (first | refine blk_drewN ?_ _ | refine blk_drew ?_ | refine blk_alloc ?_ _)); refine blk_put (cs := #[.int .i64 t249, .int .i64 t250, .int .i64 t251, .slice none 0 0]) ?_ 3 _ rfl; (with_reducible repeat (first | refine blk_drewN ?_ _ | refine blk_drew ?_ | refine blk_alloc ?_ _)); refine blk_put (cs := #[.int .i64 t249, .int .i64 t250, .int .i64 0, .slice none 0 0]) ?_ 2 _ rfl; (with_reducible repeat (first | refine blk_drewN ?_ _ | refine blk_drew ?_ | refine blk_alloc ?_ _)); refine blk_put (cs := #[.int .i64 t249, .int .i64 0, .int .i64 0, .slice none 0 0]) ?_ 1 _ rfl; (with_reducible repeat (first | refine blk_drewN ?_ _ | refine blk_drew ?_ | refine blk_alloc ?_ _)); refine blk_put (cs := #[.int .i64 0, .int .i64 0, .int .i64 0, .slice none 0 0]) ?_ 0 _ rfl; (with_reducible repeat (first | refine blk_drewN ?_ _ | refine blk_drew ?_ | refine blk_alloc ?_ _)); exact BK256.out⟩
                          have n5_ : Aside0 (Below w.heap.size w ((((w32.setCell ⟨gb256, 0, none⟩ (.int .i64 t249)).setCell ⟨gb256, 1, none⟩ (.int .i64 t250)).setCell ⟨gb256, 2, none⟩ (.int .i64 t251)).setCell ⟨gb256, 3, none⟩ (.slice Ao35 t252.length co35))) := ⟨q93_⟩
                          (try clear HO240)
                          (try clear HO246)
                          (try clear HO254)
                          (try clear BK248)
                          (try clear BK256)
                          (try clear HB)
                          generalize ((((w32.setCell ⟨gb256, 0, none⟩ (.int .i64 t249)).setCell ⟨gb256, 1, none⟩ (.int .i64 t250)).setCell ⟨gb256, 2, none⟩ (.int .i64 t251)).setCell ⟨gb256, 3, none⟩ (.slice Ao35 t252.length co35)) = w36 at n0_ n1_ n2_ n3_ n4_ n5_ ⊢
                          have HO240 := n0_
                          have HO246 := n1_
                          have HO254 := n2_
                          have BK248 := n3_
                          have BK256 := n4_
                          have HB := n5_
                          clear n0_ n1_ n2_ n3_ n4_ n5_
                          have n0_ := Aside0.mk (Kd.R_drew HO240.out)
                          have n1_ := Aside0.mk (Kd.R_drew HO246.out)
                          have n2_ := Aside0.mk (Kd.R_drew HO254.out)
                          have n3_ := Aside0.mk (blk_drew BK248.out)
                          have n4_ := Aside0.mk (blk_drew BK256.out)
                          have n5_ := Aside0.mk (below_drew1 HB.out)
                          clear HO240
                          clear HO246
                          clear HO254
                          clear BK248
                          clear BK256
                          clear HB
                          have HO240 := n0_
                          have HO246 := n1_
                          have HO254 := n2_
                          have BK248 := n3_
                          have BK256 := n4_
                          have HB := n5_
                          clear n0_ n1_ n2_ n3_ n4_ n5_
                          refine start_ (n := 9) (S := fun w' => w'.cell? ⟨gb248, 0, none⟩ = some (.int .i64 t241) ∧ w'.cell? ⟨gb248, 1, none⟩ = some (.int .i64 t242) ∧ w'.cell? ⟨gb248, 2, none⟩ = some (.int .i64 t243) ∧ w'.cell? ⟨gb248, 3, none⟩ = some (.slice Ao30 t244.length co30)) (ds := []) #[false, false, false, false, false, false, false, false, false] (by kernel_rfl) rfl rfl ⟨(blk_cell BK248.out 0).trans rfl, (blk_cell BK248.out 1).trans rfl, (blk_cell BK248.out 2).trans rfl, (blk_cell BK248.out 3).trans rfl⟩ (fun hHeld => ?_); refine with_tabW tilefarmlaw4_sane.tab3 tilefarmlaw4_sane.bits3 (fun HT_ HW_ => ?_)
                          generalize w36.drew = w37 at HO240 HO246 HO254 BK248 BK256 HB hHeld ⊢
                          refine take_ (i := 1) (N := some 19) (v := ?_) (a' := ?_) #[false, true, false, false, false, false, false, false, false] rfl rfl (take_ofW HT_.out HW_.out (by kernel_rfl)) (fun _ _ _ h => h) (Or.inl ⟨by rfl, ?_⟩) hHeld ?_ ?_
                          rotate_left
                          · rintro w' ⟨s0, s1, s2, s3⟩
                            go_simp
                            with_reducible rfl
                          rotate_left
                          · simp only [Act.put, List.setIfInBounds_toArray, List.set_cons_zero, List.set_cons_succ, i64_w, i32_w]
                            rfl
                          refine join_ (σ := Value × Value × Nat) 2 #[true, true, true, true, true, true, true, false, false] (fun s_ => [(18, .agg #[.int .i64 t257, .int .i64 t258, .int .i64 t259, s_.1]), (20, .tuple #[.agg #[.int .i64 t263, .int .i64 t264, .int .i64 t265, s_.2.1], .bool true]), (5, .pointer (some ⟨s_.2.2, 0, none⟩)), (17, .tuple #[.agg #[.int .i64 t263, .int .i64 t264, .int .i64 t265, s_.2.1], .bool true]), (21, .agg #[.int .i64 t263, .int .i64 t264, .int .i64 t265, s_.2.1]), (22, .bool true)]) (fun s_ w' => (w'.cell? ⟨gb248, 0, none⟩ = some (.int .i64 t241) ∧ w'.cell? ⟨gb248, 1, none⟩ = some (.int .i64 t242) ∧ w'.cell? ⟨gb248, 2, none⟩ = some (.int .i64 t243) ∧ w'.cell? ⟨gb248, 3, none⟩ = some (.slice Ao30 t244.length co30)) ∧ (Kd.R (Kd.int .i64) 3 w' w.heap.size (fun k_ => some k_ ≠ (.slice Ao30 t244.length co30 : Value).ownBlock ∧ some k_ ≠ (.slice Ao35 t252.length co35 : Value).ownBlock ∧ some k_ ≠ (s_.1 : Value).ownBlock ∧ some k_ ≠ (s_.2.1 : Value).ownBlock) (.slice Ao26 t238.length co26) t238) ∧ (Kd.R (Kd.int .i64) 3 w' w.heap.size (fun k_ => some k_ ≠ (.slice Ao26 t238.length co26 : Value).ownBlock ∧ some k_ ≠ (.slice Ao35 t252.length co35 : Value).ownBlock ∧ some k_ ≠ (s_.1 : Value).ownBlock ∧ some k_ ≠ (s_.2.1 : Value).ownBlock) (.slice Ao30 t244.length co30) t244) ∧ (Kd.R (Kd.int .i64) 3 w' w.heap.size (fun k_ => some k_ ≠ (.slice Ao26 t238.length co26 : Value).ownBlock ∧ some k_ ≠ (.slice Ao30 t244.length co30 : Value).ownBlock ∧ some k_ ≠ (s_.1 : Value).ownBlock ∧ some k_ ≠ (s_.2.1 : Value).ownBlock) (.slice Ao35 t252.length co35) t252) ∧ (Kd.R (Kd.int .i64) 3 w' w.heap.size (fun k_ => some k_ ≠ (.slice Ao26 t238.length co26 : Value).ownBlock ∧ some k_ ≠ (.slice Ao30 t244.length co30 : Value).ownBlock ∧ some k_ ≠ (.slice Ao35 t252.length co35 : Value).ownBlock ∧ some k_ ≠ (s_.2.1 : Value).ownBlock) s_.1 t260) ∧ (Kd.R (Kd.int .i64) 3 w' w.heap.size (fun k_ => some k_ ≠ (.slice Ao26 t238.length co26 : Value).ownBlock ∧ some k_ ≠ (.slice Ao30 t244.length co30 : Value).ownBlock ∧ some k_ ≠ (.slice Ao35 t252.length co35 : Value).ownBlock ∧ some k_ ≠ (s_.1 : Value).ownBlock) s_.2.1 t266) ∧ (w'.heap[gb248]? = some (.cells #[.int .i64 t241, .int .i64 t242, .int .i64 t243, .slice Ao30 t244.length co30] 26 (0, 0))) ∧ (w'.heap[gb256]? = some (.cells #[.int .i64 t249, .int .i64 t250, .int .i64 t251, .slice Ao35 t252.length co35] 26 (0, 0))) ∧ (w'.heap[s_.2.2]? = some (.cells #[.int .i64 0, .int .i64 0, .int .i64 0, .slice none 0 0] 26 (0, 0))) ∧ (w.heap.size ≤ s_.2.2) ∧ (w.heap.size ≤ s_.2.2) ∧ (gb248 ≠ s_.2.2) ∧ (s_.2.2 ≠ gb248) ∧ (gb256 ≠ s_.2.2) ∧ (s_.2.2 ≠ gb256) ∧ (Below w.heap.size w w')) ?_ ?_
                          rotate_left
                          · intro hCont
                            refine two_ (i := 0) (j := 6) (Ni := some 18) (Nj := some 5) #[true, true, false, false, false, false, false, false, false] #[false, true, false, false, false, false, true, false, false] rfl rfl rfl rfl (two_of HT_.out (by kernel_rfl)) (by decide) (by decide) (fun K hK => ?_) (fun K hK => ?_)
                            · skip
                              refine goes_ Try.func41 (by kernel_rfl) rfl #[] (by rfl) rfl rfl q130_ ?_
                              with_reducible refine (tilefarmlaw4_two.calls  t257 t258 t259 t260 _ A4.out).mono ?_
                              rintro e w38 ⟨v261, rfl, ho0, hb⟩
                              refine ⟨_, rfl, ?_⟩
                              have n0_ := Aside0.mk (Kd.R_elder' q180_ (Kd.R_base ho0) hb)
                              have n1_ := Aside0.mk (Kd.R_elder' q181_ (Kd.R_base ho0) hb)
                              have n2_ := Aside0.mk (Kd.R_elder' q182_ (Kd.R_base ho0) hb)
                              have n3_ := Aside0.mk (Kd.R_lower (Kd.R_new' (Kd.R_new' (Kd.R_new' ho0 (Kd.R_lt q180_)) (Kd.R_lt q181_)) (Kd.R_lt q182_)) (below_size q93_))
                              have n4_ := Aside0.mk (blk_below (g := gb248) (o := .cells #[.int .i64 t241, .int .i64 t242, .int .i64 t243, .slice Ao30 t244.length co30] 26 (0, 0)) q160_ hb)
                              have n5_ := Aside0.mk (blk_below (g := gb256) (o := .cells #[.int .i64 t249, .int .i64 t250, .int .i64 t251, .slice Ao35 t252.length co35] 26 (0, 0)) q161_ hb)
                              have n6_ := Aside0.mk (below_step q93_ hb)
                              clear HO240
                              clear HO246
                              clear HO254
                              clear BK248
                              clear BK256
                              clear HB
                              have HO240 := n0_
                              have HO246 := n1_
                              have HO254 := n2_
                              have HO262 := n3_
                              have BK248 := n4_
                              have BK256 := n5_
                              have HB := n6_
                              clear n0_ n1_ n2_ n3_ n4_ n5_ n6_
                              (try clear hb)
                              (try clear hb2)
                              (try clear hk)
                              (try clear hi)
                              (try clear ho0)
                              obtain ⟨Ao39, co39, eo39⟩ := Kd.R_slice HO262.out
                              (first | subst eo39 | (injection eo39 with f1_ f2_ f3_; have f4_ := f1_.symm; have f5_ := f3_.symm; clear f1_ f2_ f3_; subst f4_; subst f5_))
                              refine hK.out _ _ ⟨(blk_cell BK248.out 0).trans rfl, (blk_cell BK248.out 1).trans rfl, (blk_cell BK248.out 2).trans rfl, (blk_cell BK248.out 3).trans rfl⟩ (fun hHeld => ?_)
                              clear hK K
                              refine norm_ (a' := ?_) ?_ ?_
                              rotate_left
                              · show Act.put _ (some 18) _ = _
                                simp only [Act.put, List.setIfInBounds_toArray, List.set_cons_zero, List.set_cons_succ, i64_w, i32_w]
                                rfl
                              refine two_ (i := 2) (j := 6) (Ni := some 20) (Nj := some 5) #[true, true, true, false, false, false, false, false, false] #[true, true, false, false, false, false, true, false, false] rfl rfl rfl rfl (two_of HT_.out (by kernel_rfl)) (by decide) (by decide) (fun K hK => ?_) (fun K hK => ?_)
                              · skip
                                refine goes_ Try.func14 (by kernel_rfl) rfl #[.agg #[.int .i64 t257, .int .i64 t258, .int .i64 t259, .slice Ao39 t260.length co39], .agg #[.int .i64 t241, .int .i64 t242, .int .i64 t243, .slice Ao30 t244.length co30], .int .i64 0, .int .i64 0] (by rfl) rfl rfl q130_ ?_
                                with_reducible refine (plane_Blit.calls k t257 t258 t259 _ _ t260 t241 t242 t243 _ _ t244 0 0 t263 t264 t265 t266 true _ ?side1 ?side2 ?side3 ?side4 A5.out).mono ?_
                                (case side1 => repeat (first | exact (Kd.R_reads' HO262.out).2.2 | (with_reducible refine Kd.C_alloc ?_ _) | (with_reducible refine Kd.C_drewN ?_ _) | (with_reducible refine Kd.C_drew ?_)))
                                (case side2 => exact (Kd.R_reads' HO262.out).2.1)
                                (case side3 => repeat (first | exact (Kd.R_reads' HO246.out).2.2 | (with_reducible refine Kd.C_alloc ?_ _) | (with_reducible refine Kd.C_drewN ?_ _) | (with_reducible refine Kd.C_drew ?_)))
                                (case side4 => exact (Kd.R_reads' HO246.out).2.1)
                                rintro e w40 ⟨v267, rfl, ho0, hb⟩
                                refine ⟨_, rfl, ?_⟩
                                have n0_ := Aside0.mk (Kd.R_elder' q180_ (Kd.R_base ho0) hb)
                                have n1_ := Aside0.mk (Kd.R_elder' q181_ (Kd.R_base ho0) hb)
                                have n2_ := Aside0.mk (Kd.R_elder' q182_ (Kd.R_base ho0) hb)
                                have n3_ := Aside0.mk (Kd.R_elder' q183_ (Kd.R_base ho0) hb)
                                have n4_ := Aside0.mk (Kd.R_lower (Kd.R_new' (Kd.R_new' (Kd.R_new' (Kd.R_new' ho0 (Kd.R_lt q180_)) (Kd.R_lt q181_)) (Kd.R_lt q182_)) (Kd.R_lt q183_)) (below_size q93_))
                                have n5_ := Aside0.mk (blk_below (g := gb248) (o := .cells #[.int .i64 t241, .int .i64 t242, .int .i64 t243, .slice Ao30 t244.length co30] 26 (0, 0)) q160_ hb)
                                have n6_ := Aside0.mk (blk_below (g := gb256) (o := .cells #[.int .i64 t249, .int .i64 t250, .int .i64 t251, .slice Ao35 t252.length co35] 26 (0, 0)) q161_ hb)
                                have n7_ := Aside0.mk (below_step q93_ hb)
                                clear HO240
                                clear HO246
                                clear HO254
                                clear HO262
                                clear BK248
                                clear BK256
                                clear HB
                                have HO240 := n0_
                                have HO246 := n1_
                                have HO254 := n2_
                                have HO262 := n3_
                                have HO268 := n4_
                                have BK248 := n5_
                                have BK256 := n6_
                                have HB := n7_
                                clear n0_ n1_ n2_ n3_ n4_ n5_ n6_ n7_
                                (try clear hb)
                                (try clear hb2)
                                (try clear hk)
                                (try clear hi)
                                (try clear ho0)
                                refine hK.out _ _ ⟨(blk_cell BK248.out 0).trans rfl, (blk_cell BK248.out 1).trans rfl, (blk_cell BK248.out 2).trans rfl, (blk_cell BK248.out 3).trans rfl⟩ (fun hHeld => ?_)
                                clear hK K
                                refine norm_ (a' := ?_) ?_ ?_
                                rotate_left
                                · show Act.put _ (some 20) _ = _
                                  simp only [Act.put, List.setIfInBounds_toArray, List.set_cons_zero, List.set_cons_succ, i64_w, i32_w]
                                  rfl
                                refine pure_ (i := 3) (N := some 17) (v := ?_) (a' := ?_) #[true, true, true, true, false, false, false, false, false] rfl rfl (any_of HT_.out (by kernel_rfl)) (fun _ _ _ h => h) (Or.inl ⟨by rfl, ?_⟩) ?_ ?_
                                rotate_left
                                · intro w'
                                  go_simp
                                  with_reducible rfl
                                rotate_left
                                · simp only [Act.put, List.setIfInBounds_toArray, List.set_cons_zero, List.set_cons_succ, i64_w, i32_w]
                                  rfl
                                refine pure_ (i := 4) (N := some 21) (v := ?_) (a' := ?_) #[true, true, true, true, true, false, false, false, false] rfl rfl (any_of HT_.out (by kernel_rfl)) (fun _ _ _ h => h) (Or.inl ⟨by rfl, ?_⟩) ?_ ?_
                                rotate_left
                                · intro w'
                                  go_simp
                                  with_reducible rfl
                                rotate_left
                                · simp only [Act.put, List.setIfInBounds_toArray, List.set_cons_zero, List.set_cons_succ, i64_w, i32_w]
                                  rfl
                                refine pure_ (i := 5) (N := some 22) (v := ?_) (a' := ?_) #[true, true, true, true, true, true, false, false, false] rfl rfl (any_of HT_.out (by kernel_rfl)) (fun _ _ _ h => h) (Or.inl ⟨by rfl, ?_⟩) ?_ ?_
                                rotate_left
                                · intro w'
                                  go_simp
                                  with_reducible rfl
                                rotate_left
                                · simp only [Act.put, List.setIfInBounds_toArray, List.set_cons_zero, List.set_cons_succ, i64_w, i32_w]
                                  rfl
                                refine one_ (i := 6) (N := some 5) #[true, true, true, true, true, true, true, false, false] rfl rfl (one_of HT_.out (by kernel_rfl)) (by decide) (fun K hK => ?_)
                                refine box_step ?hg (N := 5) ?hd (cs := #[.int .i64 0, .int .i64 0, .int .i64 0, .slice none 0 0]) (t := 26) ?hr ?_; (case hd => rfl); (case hg => rfl); (case hr => first | (go_simp; done) | (go_simp; rfl))
                                intro gb270 hg w41 hbox hb
                                have n0_ := Aside0.mk (Kd.R_below q180_ hb)
                                have n1_ := Aside0.mk (Kd.R_below q181_ hb)
                                have n2_ := Aside0.mk (Kd.R_below q182_ hb)
                                have n3_ := Aside0.mk (Kd.R_below q183_ hb)
                                have n4_ := Aside0.mk (Kd.R_below q184_ hb)
                                have n5_ := Aside0.mk (blk_below (g := gb248) (o := .cells #[.int .i64 t241, .int .i64 t242, .int .i64 t243, .slice Ao30 t244.length co30] 26 (0, 0)) q160_ hb)
                                have n6_ := Aside0.mk (blk_below (g := gb256) (o := .cells #[.int .i64 t249, .int .i64 t250, .int .i64 t251, .slice Ao35 t252.length co35] 26 (0, 0)) q161_ hb)
                                have n7_ := Aside0.mk (below_step q93_ hb)
                                have n8_ := Aside0.mk (hbox)
                                have n9_ := Aside0.mk ((q68_ : w.heap.size ≤ gb270))
                                have n10_ := Aside0.mk ((q68_ : w.heap.size ≤ gb270))
                                have n11_ := Aside0.mk ((q35_ : gb248 ≠ gb270))
                                have n12_ := Aside0.mk ((q36_ : gb270 ≠ gb248))
                                have n13_ := Aside0.mk ((q37_ : gb256 ≠ gb270))
                                have n14_ := Aside0.mk ((q38_ : gb270 ≠ gb256))
                                clear HO240
                                clear HO246
                                clear HO254
                                clear HO262
                                clear HO268
                                clear BK248
                                clear BK256
                                clear HB
                                have HO240 := n0_
                                have HO246 := n1_
                                have HO254 := n2_
                                have HO262 := n3_
                                have HO268 := n4_
                                have BK248 := n5_
                                have BK256 := n6_
                                have HB := n7_
                                have BK270 := n8_
                                have GW270 := n9_
                                have GE270 := n10_
                                have NB248_270 := n11_
                                have NB270_248 := n12_
                                have NB256_270 := n13_
                                have NB270_256 := n14_
                                clear n0_ n1_ n2_ n3_ n4_ n5_ n6_ n7_ n8_ n9_ n10_ n11_ n12_ n13_ n14_
                                clear hb hbox hg
                                refine hK.out _ _ ⟨(blk_cell BK248.out 0).trans rfl, (blk_cell BK248.out 1).trans rfl, (blk_cell BK248.out 2).trans rfl, (blk_cell BK248.out 3).trans rfl⟩ (fun hHeld => ?_)
                                clear hK K
                                refine norm_ (a' := ?_) ?_ ?_
                                rotate_left
                                · show Act.put _ (some 5) _ = _
                                  simp only [Act.put, List.setIfInBounds_toArray, List.set_cons_zero, List.set_cons_succ, i64_w, i32_w]
                                  rfl
                                exact norm_ q194_ (hCont (.slice Ao39 t260.length co39, v267, gb270) _ ⟨hHeld, q107_, q108_, q109_, q105_, q106_, q160_, q161_, q162_, GW270.out, GE270.out, NB248_270.out, NB270_248.out, NB256_270.out, NB270_256.out, q72_⟩)
                              · skip
                                refine box_step ?hg (N := 5) ?hd (cs := #[.int .i64 0, .int .i64 0, .int .i64 0, .slice none 0 0]) (t := 26) ?hr ?_; (case hd => rfl); (case hg => rfl); (case hr => first | (go_simp; done) | (go_simp; rfl))
                                intro gb270 hg w39 hbox hb
                                have n0_ := Aside0.mk (Kd.R_below q180_ hb)
                                have n1_ := Aside0.mk (Kd.R_below q181_ hb)
                                have n2_ := Aside0.mk (Kd.R_below q182_ hb)
                                have n3_ := Aside0.mk (Kd.R_below q183_ hb)
                                have n4_ := Aside0.mk (blk_below (g := gb248) (o := .cells #[.int .i64 t241, .int .i64 t242, .int .i64 t243, .slice Ao30 t244.length co30] 26 (0, 0)) q160_ hb)
                                have n5_ := Aside0.mk (blk_below (g := gb256) (o := .cells #[.int .i64 t249, .int .i64 t250, .int .i64 t251, .slice Ao35 t252.length co35] 26 (0, 0)) q161_ hb)
                                have n6_ := Aside0.mk (below_step q93_ hb)
                                have n7_ := Aside0.mk (hbox)
                                have n8_ := Aside0.mk ((q68_ : w.heap.size ≤ gb270))
                                have n9_ := Aside0.mk ((q68_ : w.heap.size ≤ gb270))
                                have n10_ := Aside0.mk ((q35_ : gb248 ≠ gb270))
                                have n11_ := Aside0.mk ((q36_ : gb270 ≠ gb248))
                                have n12_ := Aside0.mk ((q37_ : gb256 ≠ gb270))
                                have n13_ := Aside0.mk ((q38_ : gb270 ≠ gb256))
                                clear HO240
                                clear HO246
                                clear HO254
                                clear HO262
                                clear BK248
                                clear BK256
                                clear HB
                                have HO240 := n0_
                                have HO246 := n1_
                                have HO254 := n2_
                                have HO262 := n3_
                                have BK248 := n4_
                                have BK256 := n5_
                                have HB := n6_
                                have BK270 := n7_
                                have GW270 := n8_
                                have GE270 := n9_
                                have NB248_270 := n10_
                                have NB270_248 := n11_
                                have NB256_270 := n12_
                                have NB270_256 := n13_
                                clear n0_ n1_ n2_ n3_ n4_ n5_ n6_ n7_ n8_ n9_ n10_ n11_ n12_ n13_
                                clear hb hbox hg
                                obtain ⟨Ao40, co40, eo40⟩ := Kd.R_slice HO262.out
                                (first | subst eo40 | (injection eo40 with f1_ f2_ f3_; have f4_ := f1_.symm; have f5_ := f3_.symm; clear f1_ f2_ f3_; subst f4_; subst f5_))
                                refine hK.out _ _ ⟨(blk_cell BK248.out 0).trans rfl, (blk_cell BK248.out 1).trans rfl, (blk_cell BK248.out 2).trans rfl, (blk_cell BK248.out 3).trans rfl⟩ (fun hHeld => ?_)
                                clear hK K
                                refine norm_ (a' := ?_) ?_ ?_
                                rotate_left
                                · show Act.put _ (some 5) _ = _
                                  simp only [Act.put, List.setIfInBounds_toArray, List.set_cons_zero, List.set_cons_succ, i64_w, i32_w]
                                  rfl
                                refine one_ (i := 2) (N := some 20) #[true, true, true, false, false, false, true, false, false] rfl rfl (one_of HT_.out (by kernel_rfl)) (by decide) (fun K hK => ?_)
                                refine goes_ Try.func14 (by kernel_rfl) rfl #[.agg #[.int .i64 t257, .int .i64 t258, .int .i64 t259, .slice Ao40 t260.length co40], .agg #[.int .i64 t241, .int .i64 t242, .int .i64 t243, .slice Ao30 t244.length co30], .int .i64 0, .int .i64 0] (by rfl) rfl rfl q130_ ?_
                                with_reducible refine (plane_Blit.calls k t257 t258 t259 _ _ t260 t241 t242 t243 _ _ t244 0 0 t263 t264 t265 t266 true _ ?side1 ?side2 ?side3 ?side4 A5.out).mono ?_
                                (case side1 => repeat (first | exact (Kd.R_reads' HO262.out).2.2 | (with_reducible refine Kd.C_alloc ?_ _) | (with_reducible refine Kd.C_drewN ?_ _) | (with_reducible refine Kd.C_drew ?_)))
                                (case side2 => exact (Kd.R_reads' HO262.out).2.1)
                                (case side3 => repeat (first | exact (Kd.R_reads' HO246.out).2.2 | (with_reducible refine Kd.C_alloc ?_ _) | (with_reducible refine Kd.C_drewN ?_ _) | (with_reducible refine Kd.C_drew ?_)))
                                (case side4 => exact (Kd.R_reads' HO246.out).2.1)
                                rintro e w41 ⟨v267, rfl, ho0, hb⟩
                                refine ⟨_, rfl, ?_⟩
                                have n0_ := Aside0.mk (Kd.R_elder' q180_ (Kd.R_base ho0) hb)
                                have n1_ := Aside0.mk (Kd.R_elder' q181_ (Kd.R_base ho0) hb)
                                have n2_ := Aside0.mk (Kd.R_elder' q182_ (Kd.R_base ho0) hb)
                                have n3_ := Aside0.mk (Kd.R_elder' q183_ (Kd.R_base ho0) hb)
                                have n4_ := Aside0.mk (Kd.R_lower (Kd.R_new' (Kd.R_new' (Kd.R_new' (Kd.R_new' ho0 (Kd.R_lt q180_)) (Kd.R_lt q181_)) (Kd.R_lt q182_)) (Kd.R_lt q183_)) (below_size q72_))
                                have n5_ := Aside0.mk (blk_below (g := gb248) (o := .cells #[.int .i64 t241, .int .i64 t242, .int .i64 t243, .slice Ao30 t244.length co30] 26 (0, 0)) q160_ hb)
                                have n6_ := Aside0.mk (blk_below (g := gb256) (o := .cells #[.int .i64 t249, .int .i64 t250, .int .i64 t251, .slice Ao35 t252.length co35] 26 (0, 0)) q161_ hb)
                                have n7_ := Aside0.mk (blk_below (g := gb270) (o := .cells #[.int .i64 0, .int .i64 0, .int .i64 0, .slice none 0 0] 26 (0, 0)) q162_ hb)
                                have n8_ := Aside0.mk (below_step q72_ hb)
                                clear HO240
                                clear HO246
                                clear HO254
                                clear HO262
                                clear BK248
                                clear BK256
                                clear BK270
                                clear HB
                                have HO240 := n0_
                                have HO246 := n1_
                                have HO254 := n2_
                                have HO262 := n3_
                                have HO268 := n4_
                                have BK248 := n5_
                                have BK256 := n6_
                                have BK270 := n7_
                                have HB := n8_
                                clear n0_ n1_ n2_ n3_ n4_ n5_ n6_ n7_ n8_
                                (try clear hb)
                                (try clear hb2)
                                (try clear hk)
                                (try clear hi)
                                (try clear ho0)
                                refine hK.out _ _ ⟨(blk_cell BK248.out 0).trans rfl, (blk_cell BK248.out 1).trans rfl, (blk_cell BK248.out 2).trans rfl, (blk_cell BK248.out 3).trans rfl⟩ (fun hHeld => ?_)
                                clear hK K
                                refine norm_ (a' := ?_) ?_ ?_
                                rotate_left
                                · show Act.put _ (some 20) _ = _
                                  simp only [Act.put, List.setIfInBounds_toArray, List.set_cons_zero, List.set_cons_succ, i64_w, i32_w]
                                  rfl
                                refine pure_ (i := 3) (N := some 17) (v := ?_) (a' := ?_) #[true, true, true, true, false, false, true, false, false] rfl rfl (any_of HT_.out (by kernel_rfl)) (fun _ _ _ h => h) (Or.inl ⟨by rfl, ?_⟩) ?_ ?_
                                rotate_left
                                · intro w'
                                  go_simp
                                  with_reducible rfl
                                rotate_left
                                · simp only [Act.put, List.setIfInBounds_toArray, List.set_cons_zero, List.set_cons_succ, i64_w, i32_w]
                                  rfl
                                refine pure_ (i := 4) (N := some 21) (v := ?_) (a' := ?_) #[true, true, true, true, true, false, true, false, false] rfl rfl (any_of HT_.out (by kernel_rfl)) (fun _ _ _ h => h) (Or.inl ⟨by rfl, ?_⟩) ?_ ?_
                                rotate_left
                                · intro w'
                                  go_simp
                                  with_reducible rfl
                                rotate_left
                                · simp only [Act.put, List.setIfInBounds_toArray, List.set_cons_zero, List.set_cons_succ, i64_w, i32_w]
                                  rfl
                                refine pure_ (i := 5) (N := some 22) (v := ?_) (a' := ?_) #[true, true, true, true, true, true, true, false, false] rfl rfl (any_of HT_.out (by kernel_rfl)) (fun _ _ _ h => h) (Or.inl ⟨by rfl, ?_⟩) ?_ ?_
                                rotate_left
                                · intro w'
                                  go_simp
                                  with_reducible rfl
                                rotate_left
                                · simp only [Act.put, List.setIfInBounds_toArray, List.set_cons_zero, List.set_cons_succ, i64_w, i32_w]
                                  rfl
                                exact norm_ q194_ (hCont (.slice Ao40 t260.length co40, v267, gb270) _ ⟨hHeld, q107_, q108_, q109_, q105_, q106_, q160_, q161_, q162_, GW270.out, GE270.out, NB248_270.out, NB270_248.out, NB256_270.out, NB270_256.out, q72_⟩)
                            · skip
                              refine box_step ?hg (N := 5) ?hd (cs := #[.int .i64 0, .int .i64 0, .int .i64 0, .slice none 0 0]) (t := 26) ?hr ?_; (case hd => rfl); (case hg => rfl); (case hr => first | (go_simp; done) | (go_simp; rfl))
                              intro gb270 hg w38 hbox hb
                              have n0_ := Aside0.mk (Kd.R_below q180_ hb)
                              have n1_ := Aside0.mk (Kd.R_below q181_ hb)
                              have n2_ := Aside0.mk (Kd.R_below q182_ hb)
                              have n3_ := Aside0.mk (blk_below (g := gb248) (o := .cells #[.int .i64 t241, .int .i64 t242, .int .i64 t243, .slice Ao30 t244.length co30] 26 (0, 0)) q160_ hb)
                              have n4_ := Aside0.mk (blk_below (g := gb256) (o := .cells #[.int .i64 t249, .int .i64 t250, .int .i64 t251, .slice Ao35 t252.length co35] 26 (0, 0)) q161_ hb)
                              have n5_ := Aside0.mk (below_step q93_ hb)
                              have n6_ := Aside0.mk (hbox)
                              have n7_ := Aside0.mk ((q68_ : w.heap.size ≤ gb270))
                              have n8_ := Aside0.mk ((q68_ : w.heap.size ≤ gb270))
                              have n9_ := Aside0.mk ((q35_ : gb248 ≠ gb270))
                              have n10_ := Aside0.mk ((q36_ : gb270 ≠ gb248))
                              have n11_ := Aside0.mk ((q37_ : gb256 ≠ gb270))
                              have n12_ := Aside0.mk ((q38_ : gb270 ≠ gb256))
                              clear HO240
                              clear HO246
                              clear HO254
                              clear BK248
                              clear BK256
                              clear HB
                              have HO240 := n0_
                              have HO246 := n1_
                              have HO254 := n2_
                              have BK248 := n3_
                              have BK256 := n4_
                              have HB := n5_
                              have BK270 := n6_
                              have GW270 := n7_
                              have GE270 := n8_
                              have NB248_270 := n9_
                              have NB270_248 := n10_
                              have NB256_270 := n11_
                              have NB270_256 := n12_
                              clear n0_ n1_ n2_ n3_ n4_ n5_ n6_ n7_ n8_ n9_ n10_ n11_ n12_
                              clear hb hbox hg
                              refine hK.out _ _ ⟨(blk_cell BK248.out 0).trans rfl, (blk_cell BK248.out 1).trans rfl, (blk_cell BK248.out 2).trans rfl, (blk_cell BK248.out 3).trans rfl⟩ (fun hHeld => ?_)
                              clear hK K
                              refine norm_ (a' := ?_) ?_ ?_
                              rotate_left
                              · show Act.put _ (some 5) _ = _
                                simp only [Act.put, List.setIfInBounds_toArray, List.set_cons_zero, List.set_cons_succ, i64_w, i32_w]
                                rfl
                              refine one_ (i := 0) (N := some 18) #[true, true, false, false, false, false, true, false, false] rfl rfl (one_of HT_.out (by kernel_rfl)) (by decide) (fun K hK => ?_)
                              refine goes_ Try.func41 (by kernel_rfl) rfl #[] (by rfl) rfl rfl q130_ ?_
                              with_reducible refine (tilefarmlaw4_two.calls  t257 t258 t259 t260 _ A4.out).mono ?_
                              rintro e w39 ⟨v261, rfl, ho0, hb⟩
                              refine ⟨_, rfl, ?_⟩
                              have n0_ := Aside0.mk (Kd.R_elder' q180_ (Kd.R_base ho0) hb)
                              have n1_ := Aside0.mk (Kd.R_elder' q181_ (Kd.R_base ho0) hb)
                              have n2_ := Aside0.mk (Kd.R_elder' q182_ (Kd.R_base ho0) hb)
                              have n3_ := Aside0.mk (Kd.R_lower (Kd.R_new' (Kd.R_new' (Kd.R_new' ho0 (Kd.R_lt q180_)) (Kd.R_lt q181_)) (Kd.R_lt q182_)) (below_size q72_))
                              have n4_ := Aside0.mk (blk_below (g := gb248) (o := .cells #[.int .i64 t241, .int .i64 t242, .int .i64 t243, .slice Ao30 t244.length co30] 26 (0, 0)) q160_ hb)
                              have n5_ := Aside0.mk (blk_below (g := gb256) (o := .cells #[.int .i64 t249, .int .i64 t250, .int .i64 t251, .slice Ao35 t252.length co35] 26 (0, 0)) q161_ hb)
                              have n6_ := Aside0.mk (blk_below (g := gb270) (o := .cells #[.int .i64 0, .int .i64 0, .int .i64 0, .slice none 0 0] 26 (0, 0)) q162_ hb)
                              have n7_ := Aside0.mk (below_step q72_ hb)
                              clear HO240
                              clear HO246
                              clear HO254
                              clear BK248
                              clear BK256
                              clear BK270
                              clear HB
                              have HO240 := n0_
                              have HO246 := n1_
                              have HO254 := n2_
                              have HO262 := n3_
                              have BK248 := n4_
                              have BK256 := n5_
                              have BK270 := n6_
                              have HB := n7_
                              clear n0_ n1_ n2_ n3_ n4_ n5_ n6_ n7_
                              (try clear hb)
                              (try clear hb2)
                              (try clear hk)
                              (try clear hi)
                              (try clear ho0)
                              obtain ⟨Ao40, co40, eo40⟩ := Kd.R_slice HO262.out
                              (first | subst eo40 | (injection eo40 with f1_ f2_ f3_; have f4_ := f1_.symm; have f5_ := f3_.symm; clear f1_ f2_ f3_; subst f4_; subst f5_))
                              refine hK.out _ _ ⟨(blk_cell BK248.out 0).trans rfl, (blk_cell BK248.out 1).trans rfl, (blk_cell BK248.out 2).trans rfl, (blk_cell BK248.out 3).trans rfl⟩ (fun hHeld => ?_)
                              clear hK K
                              refine norm_ (a' := ?_) ?_ ?_
                              rotate_left
                              · show Act.put _ (some 18) _ = _
                                simp only [Act.put, List.setIfInBounds_toArray, List.set_cons_zero, List.set_cons_succ, i64_w, i32_w]
                                rfl
                              refine one_ (i := 2) (N := some 20) #[true, true, true, false, false, false, true, false, false] rfl rfl (one_of HT_.out (by kernel_rfl)) (by decide) (fun K hK => ?_)
                              refine goes_ Try.func14 (by kernel_rfl) rfl #[.agg #[.int .i64 t257, .int .i64 t258, .int .i64 t259, .slice Ao40 t260.length co40], .agg #[.int .i64 t241, .int .i64 t242, .int .i64 t243, .slice Ao30 t244.length co30], .int .i64 0, .int .i64 0] (by rfl) rfl rfl q130_ ?_
                              with_reducible refine (plane_Blit.calls k t257 t258 t259 _ _ t260 t241 t242 t243 _ _ t244 0 0 t263 t264 t265 t266 true _ ?side1 ?side2 ?side3 ?side4 A5.out).mono ?_
                              (case side1 => repeat (first | exact (Kd.R_reads' HO262.out).2.2 | (with_reducible refine Kd.C_alloc ?_ _) | (with_reducible refine Kd.C_drewN ?_ _) | (with_reducible refine Kd.C_drew ?_)))
                              (case side2 => exact (Kd.R_reads' HO262.out).2.1)
                              (case side3 => repeat (first | exact (Kd.R_reads' HO246.out).2.2 | (with_reducible refine Kd.C_alloc ?_ _) | (with_reducible refine Kd.C_drewN ?_ _) | (with_reducible refine Kd.C_drew ?_)))
                              (case side4 => exact (Kd.R_reads' HO246.out).2.1)
                              rintro e w41 ⟨v267, rfl, ho0, hb⟩
                              refine ⟨_, rfl, ?_⟩
                              have n0_ := Aside0.mk (Kd.R_elder' q180_ (Kd.R_base ho0) hb)
                              have n1_ := Aside0.mk (Kd.R_elder' q181_ (Kd.R_base ho0) hb)
                              have n2_ := Aside0.mk (Kd.R_elder' q182_ (Kd.R_base ho0) hb)
                              have n3_ := Aside0.mk (Kd.R_elder' q183_ (Kd.R_base ho0) hb)
                              have n4_ := Aside0.mk (Kd.R_lower (Kd.R_new' (Kd.R_new' (Kd.R_new' (Kd.R_new' ho0 (Kd.R_lt q180_)) (Kd.R_lt q181_)) (Kd.R_lt q182_)) (Kd.R_lt q183_)) (below_size q72_))
                              have n5_ := Aside0.mk (blk_below (g := gb248) (o := .cells #[.int .i64 t241, .int .i64 t242, .int .i64 t243, .slice Ao30 t244.length co30] 26 (0, 0)) q160_ hb)
                              have n6_ := Aside0.mk (blk_below (g := gb256) (o := .cells #[.int .i64 t249, .int .i64 t250, .int .i64 t251, .slice Ao35 t252.length co35] 26 (0, 0)) q161_ hb)
                              have n7_ := Aside0.mk (blk_below (g := gb270) (o := .cells #[.int .i64 0, .int .i64 0, .int .i64 0, .slice none 0 0] 26 (0, 0)) q162_ hb)
                              have n8_ := Aside0.mk (below_step q72_ hb)
                              clear HO240
                              clear HO246
                              clear HO254
                              clear HO262
                              clear BK248
                              clear BK256
                              clear BK270
                              clear HB
                              have HO240 := n0_
                              have HO246 := n1_
                              have HO254 := n2_
                              have HO262 := n3_
                              have HO268 := n4_
                              have BK248 := n5_
                              have BK256 := n6_
                              have BK270 := n7_
                              have HB := n8_
                              clear n0_ n1_ n2_ n3_ n4_ n5_ n6_ n7_ n8_
                              (try clear hb)
                              (try clear hb2)
                              (try clear hk)
                              (try clear hi)
                              (try clear ho0)
                              refine hK.out _ _ ⟨(blk_cell BK248.out 0).trans rfl, (blk_cell BK248.out 1).trans rfl, (blk_cell BK248.out 2).trans rfl, (blk_cell BK248.out 3).trans rfl⟩ (fun hHeld => ?_)
                              clear hK K
                              refine norm_ (a' := ?_) ?_ ?_
                              rotate_left
                              · show Act.put _ (some 20) _ = _
                                simp only [Act.put, List.setIfInBounds_toArray, List.set_cons_zero, List.set_cons_succ, i64_w, i32_w]
                                rfl
                              refine pure_ (i := 3) (N := some 17) (v := ?_) (a' := ?_) #[true, true, true, true, false, false, true, false, false] rfl rfl (any_of HT_.out (by kernel_rfl)) (fun _ _ _ h => h) (Or.inl ⟨by rfl, ?_⟩) ?_ ?_
                              rotate_left
                              · intro w'
                                go_simp
                                with_reducible rfl
                              rotate_left
                              · simp only [Act.put, List.setIfInBounds_toArray, List.set_cons_zero, List.set_cons_succ, i64_w, i32_w]
                                rfl
                              refine pure_ (i := 4) (N := some 21) (v := ?_) (a' := ?_) #[true, true, true, true, true, false, true, false, false] rfl rfl (any_of HT_.out (by kernel_rfl)) (fun _ _ _ h => h) (Or.inl ⟨by rfl, ?_⟩) ?_ ?_
                              rotate_left
                              · intro w'
                                go_simp
                                with_reducible rfl
                              rotate_left
                              · simp only [Act.put, List.setIfInBounds_toArray, List.set_cons_zero, List.set_cons_succ, i64_w, i32_w]
                                rfl
                              refine pure_ (i := 5) (N := some 22) (v := ?_) (a' := ?_) #[true, true, true, true, true, true, true, false, false] rfl rfl (any_of HT_.out (by kernel_rfl)) (fun _ _ _ h => h) (Or.inl ⟨by rfl, ?_⟩) ?_ ?_
                              rotate_left
                              · intro w'
                                go_simp
                                with_reducible rfl
                              rotate_left
                              · simp only [Act.put, List.setIfInBounds_toArray, List.set_cons_zero, List.set_cons_succ, i64_w, i32_w]
                                rfl
                              exact norm_ q194_ (hCont (.slice Ao40 t260.length co40, v267, gb270) _ ⟨hHeld, q107_, q108_, q109_, q105_, q106_, q160_, q161_, q162_, GW270.out, GE270.out, NB248_270.out, NB270_248.out, NB256_270.out, NB270_256.out, q72_⟩)
                          rintro ⟨v261, v267, gb270⟩ w42 ⟨hS_, h0_, h1_, h2_, h3_, h4_, h5_, h6_, h7_, h8_, h9_, h10_, h11_, h12_, h13_, h14_⟩
                          have n0_ : Aside0 (Kd.R (Kd.int .i64) 3 w42 w.heap.size (fun k_ => some k_ ≠ (.slice Ao30 t244.length co30 : Value).ownBlock ∧ some k_ ≠ (.slice Ao35 t252.length co35 : Value).ownBlock ∧ some k_ ≠ (v261 : Value).ownBlock ∧ some k_ ≠ (v267 : Value).ownBlock) (.slice Ao26 t238.length co26) t238) := ⟨h0_⟩
                          have n1_ : Aside0 (Kd.R (Kd.int .i64) 3 w42 w.heap.size (fun k_ => some k_ ≠ (.slice Ao26 t238.length co26 : Value).ownBlock ∧ some k_ ≠ (.slice Ao35 t252.length co35 : Value).ownBlock ∧ some k_ ≠ (v261 : Value).ownBlock ∧ some k_ ≠ (v267 : Value).ownBlock) (.slice Ao30 t244.length co30) t244) := ⟨h1_⟩
                          have n2_ : Aside0 (Kd.R (Kd.int .i64) 3 w42 w.heap.size (fun k_ => some k_ ≠ (.slice Ao26 t238.length co26 : Value).ownBlock ∧ some k_ ≠ (.slice Ao30 t244.length co30 : Value).ownBlock ∧ some k_ ≠ (v261 : Value).ownBlock ∧ some k_ ≠ (v267 : Value).ownBlock) (.slice Ao35 t252.length co35) t252) := ⟨h2_⟩
                          have n3_ : Aside0 (Kd.R (Kd.int .i64) 3 w42 w.heap.size (fun k_ => some k_ ≠ (.slice Ao26 t238.length co26 : Value).ownBlock ∧ some k_ ≠ (.slice Ao30 t244.length co30 : Value).ownBlock ∧ some k_ ≠ (.slice Ao35 t252.length co35 : Value).ownBlock ∧ some k_ ≠ (v267 : Value).ownBlock) v261 t260) := ⟨h3_⟩
                          have n4_ : Aside0 (Kd.R (Kd.int .i64) 3 w42 w.heap.size (fun k_ => some k_ ≠ (.slice Ao26 t238.length co26 : Value).ownBlock ∧ some k_ ≠ (.slice Ao30 t244.length co30 : Value).ownBlock ∧ some k_ ≠ (.slice Ao35 t252.length co35 : Value).ownBlock ∧ some k_ ≠ (v261 : Value).ownBlock) v267 t266) := ⟨h4_⟩
                          have n5_ : Aside0 (w42.heap[gb248]? = some (.cells #[.int .i64 t241, .int .i64 t242, .int .i64 t243, .slice Ao30 t244.length co30] 26 (0, 0))) := ⟨h5_⟩
                          have n6_ : Aside0 (w42.heap[gb256]? = some (.cells #[.int .i64 t249, .int .i64 t250, .int .i64 t251, .slice Ao35 t252.length co35] 26 (0, 0))) := ⟨h6_⟩
                          have n7_ : Aside0 (w42.heap[gb270]? = some (.cells #[.int .i64 0, .int .i64 0, .int .i64 0, .slice none 0 0] 26 (0, 0))) := ⟨h7_⟩
                          have n8_ : Aside0 (w.heap.size ≤ gb270) := ⟨h8_⟩
                          have n9_ : Aside0 (w.heap.size ≤ gb270) := ⟨h9_⟩
                          have n10_ : Aside0 (gb248 ≠ gb270) := ⟨h10_⟩
                          have n11_ : Aside0 (gb270 ≠ gb248) := ⟨h11_⟩
                          have n12_ : Aside0 (gb256 ≠ gb270) := ⟨h12_⟩
                          have n13_ : Aside0 (gb270 ≠ gb256) := ⟨h13_⟩
                          have n14_ : Aside0 (Below w.heap.size w w42) := ⟨h14_⟩
                          clear HO240
                          clear HO246
                          clear HO254
                          clear BK248
                          clear BK256
                          clear HB
                          clear h0_ h1_ h2_ h3_ h4_ h5_ h6_ h7_ h8_ h9_ h10_ h11_ h12_ h13_ h14_
                          have HO240 := n0_
                          have HO246 := n1_
                          have HO254 := n2_
                          have HO262 := n3_
                          have HO268 := n4_
                          have BK248 := n5_
                          have BK256 := n6_
                          have BK270 := n7_
                          have GW270 := n8_
                          have GE270 := n9_
                          have NB248_270 := n10_
                          have NB270_248 := n11_
                          have NB256_270 := n12_
                          have NB270_256 := n13_
                          have HB := n14_
                          clear n0_ n1_ n2_ n3_ n4_ n5_ n6_ n7_ n8_ n9_ n10_ n11_ n12_ n13_ n14_
                          have hHeld : w42.cell? ⟨gb248, 0, none⟩ = some (.int .i64 t241) ∧ w42.cell? ⟨gb248, 1, none⟩ = some (.int .i64 t242) ∧ w42.cell? ⟨gb248, 2, none⟩ = some (.int .i64 t243) ∧ w42.cell? ⟨gb248, 3, none⟩ = some (.slice Ao30 t244.length co30) := hS_
                          obtain ⟨Ao46, co46, eo46⟩ := Kd.R_slice HO268.out
                          (first | subst eo46 | (injection eo46 with f1_ f2_ f3_; have f4_ := f1_.symm; have f5_ := f3_.symm; clear f1_ f2_ f3_; subst f4_; subst f5_))
                          refine norm_ (a' := ?_) ?_ ?_
                          rotate_left
                          · simp only [putAll, Act.put, List.setIfInBounds_toArray, List.set_cons_zero, List.set_cons_succ]
                            rfl
                          refine one_ (i := 7) (N := none) #[true, true, true, true, true, true, true, true, false] rfl rfl (one_of HT_.out (by kernel_rfl)) (by decide) (fun K hK => ?_)
                          have hs43 : w42.cell? ⟨gb270, 0, none⟩ = some (.int .i64 0) := (blk_cell BK270.out 0).trans rfl
                          have hfs43 := blk_frozen BK270.out 0
                          have hns43_0 := NB248_270.out
                          have hns43_1 := NB256_270.out
                          have hms43_0 := NB270_248.out
                          have hms43_1 := NB270_256.out
                          have hs44 : w42.cell? ⟨gb270, 1, none⟩ = some (.int .i64 0) := (blk_cell BK270.out 1).trans rfl
                          have hfs44 := blk_frozen BK270.out 1
                          have hns44_0 := NB248_270.out
                          have hns44_1 := NB256_270.out
                          have hms44_0 := NB270_248.out
                          have hms44_1 := NB270_256.out
                          have hs45 : w42.cell? ⟨gb270, 2, none⟩ = some (.int .i64 0) := (blk_cell BK270.out 2).trans rfl
                          have hfs45 := blk_frozen BK270.out 2
                          have hns45_0 := NB248_270.out
                          have hns45_1 := NB256_270.out
                          have hms45_0 := NB270_248.out
                          have hms45_1 := NB270_256.out
                          have hs47 : w42.cell? ⟨gb270, 3, none⟩ = some (.slice none 0 0) := (blk_cell BK270.out 3).trans rfl
                          have hfs47 := blk_frozen BK270.out 3
                          have hns47_0 := NB248_270.out
                          have hns47_1 := NB256_270.out
                          have hms47_0 := NB270_248.out
                          have hms47_1 := NB270_256.out
                          refine skip_ (w1 := ?_) (by rfl) rfl ?_ ?_
                          rotate_left
                          · go_simp
                            rfl
                          refine hK.out _ _ ⟨((cell_far (p := ⟨gb270, _, none⟩) NB248_270.out _).trans (((cell_far (p := ⟨gb270, _, none⟩) NB248_270.out _).trans (((cell_far (p := ⟨gb270, _, none⟩) NB248_270.out _).trans (((cell_far (p := ⟨gb270, _, none⟩) NB248_270.out _).trans (hHeld.1)))))))), ((cell_far (p := ⟨gb270, _, none⟩) NB248_270.out _).trans (((cell_far (p := ⟨gb270, _, none⟩) NB248_270.out _).trans (((cell_far (p := ⟨gb270, _, none⟩) NB248_270.out _).trans (((cell_far (p := ⟨gb270, _, none⟩) NB248_270.out _).trans (hHeld.2.1)))))))), ((cell_far (p := ⟨gb270, _, none⟩) NB248_270.out _).trans (((cell_far (p := ⟨gb270, _, none⟩) NB248_270.out _).trans (((cell_far (p := ⟨gb270, _, none⟩) NB248_270.out _).trans (((cell_far (p := ⟨gb270, _, none⟩) NB248_270.out _).trans (hHeld.2.2.1)))))))), ((cell_far (p := ⟨gb270, _, none⟩) NB248_270.out _).trans (((cell_far (p := ⟨gb270, _, none⟩) NB248_270.out _).trans (((cell_far (p := ⟨gb270, _, none⟩) NB248_270.out _).trans (((cell_far (p := ⟨gb270, _, none⟩) NB248_270.out _).trans (hHeld.2.2.2))))))))⟩ (fun hHeld => ?_)
                          clear hK K
                          refine pure_ (i := 8) (N := some 6) (v := ?_) (a' := ?_) #[true, true, true, true, true, true, true, true, true] rfl rfl (any_of HT_.out (by kernel_rfl)) (fun _ _ _ h => h) (Or.inl ⟨by rfl, ?_⟩) ?_ ?_
                          rotate_left
                          · intro w'
                            go_simp
                            with_reducible rfl
                          rotate_left
                          · simp only [Act.put, List.setIfInBounds_toArray, List.set_cons_zero, List.set_cons_succ, i64_w, i32_w]
                            rfl
                          refine done_ (done_of HT_.out (by kernel_rfl)) ?_
                          have hnb48 := NB248_270.out
                          have hnc48 := NB270_248.out
                          have hcz49_0 : w42.cell? ⟨gb248, 0, none⟩ = some (.int .i64 t241) := (blk_cell BK248.out 0).trans rfl
                          have hcz49_1 : w42.cell? ⟨gb248, 1, none⟩ = some (.int .i64 t242) := (blk_cell BK248.out 1).trans rfl
                          have hcz49_2 : w42.cell? ⟨gb248, 2, none⟩ = some (.int .i64 t243) := (blk_cell BK248.out 2).trans rfl
                          have hcz49_3 : w42.cell? ⟨gb248, 3, none⟩ = some (.slice Ao30 t244.length co30) := (blk_cell BK248.out 3).trans rfl
                          have hfz49_0 := blk_frozen BK248.out 0
                          have hfz49_1 := blk_frozen BK248.out 1
                          have hfz49_2 := blk_frozen BK248.out 2
                          have hfz49_3 := blk_frozen BK248.out 3
                          have p271 : 0 ≤ (1 : Int) := (by omega)
                          have q271 : 1 < (t244.length : Int) := of_decide_eq_true q197_
                          obtain ⟨ad271, e271, hx271_0⟩ := Kd.at_int (Kd.R_reads' HO246.out).2.2 1 p271 q271
                          cases e271
                          (try simp only [show (1 : Int).toNat = 1 from rfl, Nat.reduceMul, Nat.reduceEqDiff, Go.Addr.add, ↓reduceIte] at hx271_0)
                          have qi271 : (1 < t244.length) = True := eq_true (by omega)
                          (try rw [show ((1 : Int)).toNat = 1 from rfl] at hx271_0)
                          have hn271_0 : ad271.block ≠ gb270 := Kd.own_blk (Kd.R_ne HO246.out BK270.out (by decide))
                          have hn271_1 : ad271.block ≠ gb270 := Kd.own_blk (Kd.R_ne HO246.out BK270.out (by decide))
                          have hn271_2 : ad271.block ≠ gb270 := Kd.own_blk (Kd.R_ne HO246.out BK270.out (by decide))
                          have hn271_3 : ad271.block ≠ gb270 := Kd.own_blk (Kd.R_ne HO246.out BK270.out (by decide))
                          replace hx271_0 := (cell_far (p := ⟨gb270, 0, none⟩) (by first | (rw [add_block]; exact hn271_0) | (show (Addr.add _ _).block ≠ _; rw [add_block]; exact hn271_0) | exact hn271_0) (.int .i64 t263)).trans hx271_0
                          replace hx271_0 := (cell_far (p := ⟨gb270, 1, none⟩) (by first | (rw [add_block]; exact hn271_1) | (show (Addr.add _ _).block ≠ _; rw [add_block]; exact hn271_1) | exact hn271_1) (.int .i64 t264)).trans hx271_0
                          replace hx271_0 := (cell_far (p := ⟨gb270, 2, none⟩) (by first | (rw [add_block]; exact hn271_2) | (show (Addr.add _ _).block ≠ _; rw [add_block]; exact hn271_2) | exact hn271_2) (.int .i64 t265)).trans hx271_0
                          replace hx271_0 := (cell_far (p := ⟨gb270, 3, none⟩) (by first | (rw [add_block]; exact hn271_3) | (show (Addr.add _ _).block ≠ _; rw [add_block]; exact hn271_3) | exact hn271_3) (.slice Ao46 t266.length co46)).trans hx271_0
                          clear hn271_0
                          clear hn271_1
                          clear hn271_2
                          clear hn271_3
                          replace p271 := eq_true p271
                          replace q271 := eq_true q271
                          have hnb50 := NB256_270.out
                          have hnc50 := NB270_256.out
                          have hcz51_0 : w42.cell? ⟨gb256, 0, none⟩ = some (.int .i64 t249) := (blk_cell BK256.out 0).trans rfl
                          have hcz51_1 : w42.cell? ⟨gb256, 1, none⟩ = some (.int .i64 t250) := (blk_cell BK256.out 1).trans rfl
                          have hcz51_2 : w42.cell? ⟨gb256, 2, none⟩ = some (.int .i64 t251) := (blk_cell BK256.out 2).trans rfl
                          have hcz51_3 : w42.cell? ⟨gb256, 3, none⟩ = some (.slice Ao35 t252.length co35) := (blk_cell BK256.out 3).trans rfl
                          have hfz51_0 := blk_frozen BK256.out 0
                          have hfz51_1 := blk_frozen BK256.out 1
                          have hfz51_2 := blk_frozen BK256.out 2
                          have hfz51_3 := blk_frozen BK256.out 3
                          have hcz52_0 : w42.cell? ⟨gb270, 0, none⟩ = some (.int .i64 0) := (blk_cell BK270.out 0).trans rfl
                          have hcz52_1 : w42.cell? ⟨gb270, 1, none⟩ = some (.int .i64 0) := (blk_cell BK270.out 1).trans rfl
                          have hcz52_2 : w42.cell? ⟨gb270, 2, none⟩ = some (.int .i64 0) := (blk_cell BK270.out 2).trans rfl
                          have hcz52_3 : w42.cell? ⟨gb270, 3, none⟩ = some (.slice none 0 0) := (blk_cell BK270.out 3).trans rfl
                          have hfz52_0 := blk_frozen BK270.out 0
                          have hfz52_1 := blk_frozen BK270.out 1
                          have hfz52_2 := blk_frozen BK270.out 2
                          have hfz52_3 := blk_frozen BK270.out 3
                          have p272 : 0 ≤ (0 : Int) := (by omega)
                          have q272 : 0 < (t266.length : Int) := of_decide_eq_true q197_
                          obtain ⟨ad272, e272, hx272_0⟩ := Kd.at_int (Kd.R_reads' HO268.out).2.2 0 p272 q272
                          cases e272
                          have qi272 : (0 < t266.length) = True := eq_true (by omega)
                          (try rw [show ((0 : Int)).toNat = 0 from rfl] at hx272_0)
                          (try rw [Addr.add_zero'] at hx272_0)
                          have hn272_0 : ad272.block ≠ gb270 := Kd.own_blk (Kd.R_ne HO268.out BK270.out (by decide))
                          have hn272_1 : ad272.block ≠ gb270 := Kd.own_blk (Kd.R_ne HO268.out BK270.out (by decide))
                          have hn272_2 : ad272.block ≠ gb270 := Kd.own_blk (Kd.R_ne HO268.out BK270.out (by decide))
                          have hn272_3 : ad272.block ≠ gb270 := Kd.own_blk (Kd.R_ne HO268.out BK270.out (by decide))
                          replace hx272_0 := (cell_far (p := ⟨gb270, 0, none⟩) (by first | (rw [add_block]; exact hn272_0) | (show (Addr.add _ _).block ≠ _; rw [add_block]; exact hn272_0) | exact hn272_0) (.int .i64 t263)).trans hx272_0
                          replace hx272_0 := (cell_far (p := ⟨gb270, 1, none⟩) (by first | (rw [add_block]; exact hn272_1) | (show (Addr.add _ _).block ≠ _; rw [add_block]; exact hn272_1) | exact hn272_1) (.int .i64 t264)).trans hx272_0
                          replace hx272_0 := (cell_far (p := ⟨gb270, 2, none⟩) (by first | (rw [add_block]; exact hn272_2) | (show (Addr.add _ _).block ≠ _; rw [add_block]; exact hn272_2) | exact hn272_2) (.int .i64 t265)).trans hx272_0
                          replace hx272_0 := (cell_far (p := ⟨gb270, 3, none⟩) (by first | (rw [add_block]; exact hn272_3) | (show (Addr.add _ _).block ≠ _; rw [add_block]; exact hn272_3) | exact hn272_3) (.slice (some ad272) t266.length co46)).trans hx272_0
                          clear hn272_0
                          clear hn272_1
                          clear hn272_2
                          clear hn272_3
                          replace p272 := eq_true p272
                          replace q272 := eq_true q272
                          have mk1_ : True := trivial
                          have mk2_ : True := trivial
                          have mk3_ : True := trivial
                          have mk4_ : True := trivial
                          try go_wp2_with (first | (go_at_call 41; clear mk1_; (with_reducible refine (tilefarmlaw4_two.calls  t273 t274 t275 t276 _ A16.out).mono ?_); rintro e w53 ⟨v277, rfl, ho0, hb⟩; have n0_ := Aside0.mk (Kd.R_elder' (by (with_reducible repeat (first | apply Kd.R_alloc | apply Kd.R_drewN | apply Kd.R_drew)); exact (Kd.R_mono (Kd.R_far (p := ⟨gb270, 3, none⟩) (Kd.R_far (p := ⟨gb270, 2, none⟩) (Kd.R_far (p := ⟨gb270, 1, none⟩) (Kd.R_far (p := ⟨gb270, 0, none⟩) (Kd.R_types HO240.out BK270.out (by decide)) (fun _ hk => hk.2) (.int .i64 t263)) (fun _ hk => hk.2) (.int .i64 t264)) (fun _ hk => hk.2) (.int .i64 t265)) (fun _ hk => hk.2) (.slice (some ad272) t266.length co46)) (fun _ h_ => h_.1))) (Kd.R_base ho0) hb); have n1_ := Aside0.mk (Kd.R_elder' (by (with_reducible repeat (first | apply Kd.R_alloc | apply Kd.R_drewN | apply Kd.R_drew)); exact (Kd.R_mono (Kd.R_far (p := ⟨gb270, 3, none⟩) (Kd.R_far (p := ⟨gb270, 2, none⟩) (Kd.R_far (p := ⟨gb270, 1, none⟩) (Kd.R_far (p := ⟨gb270, 0, none⟩) (Kd.R_types HO246.out BK270.out (by decide)) (fun _ hk => hk.2) (.int .i64 t263)) (fun _ hk => hk.2) (.int .i64 t264)) (fun _ hk => hk.2) (.int .i64 t265)) (fun _ hk => hk.2) (.slice (some ad272) t266.length co46)) (fun _ h_ => h_.1))) (Kd.R_base ho0) hb); have n2_ := Aside0.mk (Kd.R_elder' (by (with_reducible repeat (first | apply Kd.R_alloc | apply Kd.R_drewN | apply Kd.R_drew)); exact (Kd.R_mono (Kd.R_far (p := ⟨gb270, 3, none⟩) (Kd.R_far (p := ⟨gb270, 2, none⟩) (Kd.R_far (p := ⟨gb270, 1, none⟩) (Kd.R_far (p := ⟨gb270, 0, none⟩) (Kd.R_types HO254.out BK270.out (by decide)) (fun _ hk => hk.2) (.int .i64 t263)) (fun _ hk => hk.2) (.int .i64 t264)) (fun _ hk => hk.2) (.int .i64 t265)) (fun _ hk => hk.2) (.slice (some ad272) t266.length co46)) (fun _ h_ => h_.1))) (Kd.R_base ho0) hb); have n3_ := Aside0.mk (Kd.R_elder' (by (with_reducible repeat (first | apply Kd.R_alloc | apply Kd.R_drewN | apply Kd.R_drew)); exact (Kd.R_mono (Kd.R_far (p := ⟨gb270, 3, none⟩) (Kd.R_far (p := ⟨gb270, 2, none⟩) (Kd.R_far (p := ⟨gb270, 1, none⟩) (Kd.R_far (p := ⟨gb270, 0, none⟩) (Kd.R_types HO262.out BK270.out (by decide)) (fun _ hk => hk.2) (.int .i64 t263)) (fun _ hk => hk.2) (.int .i64 t264)) (fun _ hk => hk.2) (.int .i64 t265)) (fun _ hk => hk.2) (.slice (some ad272) t266.length co46)) (fun _ h_ => h_.1))) (Kd.R_base ho0) hb); have n4_ := Aside0.mk (Kd.R_elder' (by (with_reducible repeat (first | apply Kd.R_alloc | apply Kd.R_drewN | apply Kd.R_drew)); exact (Kd.R_mono (Kd.R_far (p := ⟨gb270, 3, none⟩) (Kd.R_far (p := ⟨gb270, 2, none⟩) (Kd.R_far (p := ⟨gb270, 1, none⟩) (Kd.R_far (p := ⟨gb270, 0, none⟩) (Kd.R_types HO268.out BK270.out (by decide)) (fun _ hk => hk.2) (.int .i64 t263)) (fun _ hk => hk.2) (.int .i64 t264)) (fun _ hk => hk.2) (.int .i64 t265)) (fun _ hk => hk.2) (.slice (some ad272) t266.length co46)) (fun _ h_ => h_.1))) (Kd.R_base ho0) hb); have n5_ := Aside0.mk (Kd.R_lower (Kd.R_new' (Kd.R_new' (Kd.R_new' (Kd.R_new' (Kd.R_new' ho0 (Kd.R_lt (by (with_reducible repeat (first | apply Kd.R_alloc | apply Kd.R_drewN | apply Kd.R_drew)); exact (Kd.R_mono (Kd.R_far (p := ⟨gb270, 3, none⟩) (Kd.R_far (p := ⟨gb270, 2, none⟩) (Kd.R_far (p := ⟨gb270, 1, none⟩) (Kd.R_far (p := ⟨gb270, 0, none⟩) (Kd.R_types HO240.out BK270.out (by decide)) (fun _ hk => hk.2) (.int .i64 t263)) (fun _ hk => hk.2) (.int .i64 t264)) (fun _ hk => hk.2) (.int .i64 t265)) (fun _ hk => hk.2) (.slice (some ad272) t266.length co46)) (fun _ h_ => h_.1))))) (Kd.R_lt (by (with_reducible repeat (first | apply Kd.R_alloc | apply Kd.R_drewN | apply Kd.R_drew)); exact (Kd.R_mono (Kd.R_far (p := ⟨gb270, 3, none⟩) (Kd.R_far (p := ⟨gb270, 2, none⟩) (Kd.R_far (p := ⟨gb270, 1, none⟩) (Kd.R_far (p := ⟨gb270, 0, none⟩) (Kd.R_types HO246.out BK270.out (by decide)) (fun _ hk => hk.2) (.int .i64 t263)) (fun _ hk => hk.2) (.int .i64 t264)) (fun _ hk => hk.2) (.int .i64 t265)) (fun _ hk => hk.2) (.slice (some ad272) t266.length co46)) (fun _ h_ => h_.1))))) (Kd.R_lt (by (with_reducible repeat (first | apply Kd.R_alloc | apply Kd.R_drewN | apply Kd.R_drew)); exact (Kd.R_mono (Kd.R_far (p := ⟨gb270, 3, none⟩) (Kd.R_far (p := ⟨gb270, 2, none⟩) (Kd.R_far (p := ⟨gb270, 1, none⟩) (Kd.R_far (p := ⟨gb270, 0, none⟩) (Kd.R_types HO254.out BK270.out (by decide)) (fun _ hk => hk.2) (.int .i64 t263)) (fun _ hk => hk.2) (.int .i64 t264)) (fun _ hk => hk.2) (.int .i64 t265)) (fun _ hk => hk.2) (.slice (some ad272) t266.length co46)) (fun _ h_ => h_.1))))) (Kd.R_lt (by (with_reducible repeat (first | apply Kd.R_alloc | apply Kd.R_drewN | apply Kd.R_drew)); exact (Kd.R_mono (Kd.R_far (p := ⟨gb270, 3, none⟩) (Kd.R_far (p := ⟨gb270, 2, none⟩) (Kd.R_far (p := ⟨gb270, 1, none⟩) (Kd.R_far (p := ⟨gb270, 0, none⟩) (Kd.R_types HO262.out BK270.out (by decide)) (fun _ hk => hk.2) (.int .i64 t263)) (fun _ hk => hk.2) (.int .i64 t264)) (fun _ hk => hk.2) (.int .i64 t265)) (fun _ hk => hk.2) (.slice (some ad272) t266.length co46)) (fun _ h_ => h_.1))))) (Kd.R_lt (by (with_reducible repeat (first | apply Kd.R_alloc | apply Kd.R_drewN | apply Kd.R_drew)); exact (Kd.R_mono (Kd.R_far (p := ⟨gb270, 3, none⟩) (Kd.R_far (p := ⟨gb270, 2, none⟩) (Kd.R_far (p := ⟨gb270, 1, none⟩) (Kd.R_far (p := ⟨gb270, 0, none⟩) (Kd.R_types HO268.out BK270.out (by decide)) (fun _ hk => hk.2) (.int .i64 t263)) (fun _ hk => hk.2) (.int .i64 t264)) (fun _ hk => hk.2) (.int .i64 t265)) (fun _ hk => hk.2) (.slice (some ad272) t266.length co46)) (fun _ h_ => h_.1))))) (below_size q72_)); have n6_ := Aside0.mk (blk_below (g := gb248) (o := .cells #[.int .i64 t241, .int .i64 t242, .int .i64 t243, .slice (some ad271) t244.length co30] 26 (0, 0)) (by (with_reducible repeat (first | refine blk_drewN ?_ _ | refine blk_drew ?_ | refine blk_alloc ?_ _)); refine blk_far ?_ NB248_270.out _; (with_reducible repeat (first | refine blk_drewN ?_ _ | refine blk_drew ?_ | refine blk_alloc ?_ _)); refine blk_far ?_ NB248_270.out _; (with_reducible repeat (first | refine blk_drewN ?_ _ | refine blk_drew ?_ | refine blk_alloc ?_ _)); refine blk_far ?_ NB248_270.out _; (with_reducible repeat (first | refine blk_drewN ?_ _ | refine blk_drew ?_ | refine blk_alloc ?_ _)); refine blk_far ?_ NB248_270.out _; (with_reducible repeat (first | refine blk_drewN ?_ _ | refine blk_drew ?_ | refine blk_alloc ?_ _)); exact BK248.out) hb); have n7_ := Aside0.mk (blk_below (g := gb256) (o := .cells #[.int .i64 t249, .int .i64 t250, .int .i64 t251, .slice Ao35 t252.length co35] 26 (0, 0)) (by (with_reducible repeat (first | refine blk_drewN ?_ _ | refine blk_drew ?_ | refine blk_alloc ?_ _)); refine blk_far ?_ NB256_270.out _; (with_reducible repeat (first | refine blk_drewN ?_ _ | refine blk_drew ?_ | refine blk_alloc ?_ _)); refine blk_far ?_ NB256_270.out _; (with_reducible repeat (first | refine blk_drewN ?_ _ | refine blk_drew ?_ | refine blk_alloc ?_ _)); refine blk_far ?_ NB256_270.out _; (with_reducible repeat (first | refine blk_drewN ?_ _ | refine blk_drew ?_ | refine blk_alloc ?_ _)); refine blk_far ?_ NB256_270.out _; (with_reducible repeat (first | refine blk_drewN ?_ _ | refine blk_drew ?_ | refine blk_alloc ?_ _)); exact BK256.out) hb); have n8_ := Aside0.mk (blk_below (g := gb270) (o := .cells #[.int .i64 t263, .int .i64 t264, .int .i64 t265, .slice (some ad272) t266.length co46] 26 (0, 0)) (by (with_reducible repeat (first | refine blk_drewN ?_ _ | refine blk_drew ?_ | refine blk_alloc ?_ _)); refine blk_put (cs := #[.int .i64 t263, .int .i64 t264, .int .i64 t265, .slice none 0 0]) ?_ 3 _ rfl; (with_reducible repeat (first | refine blk_drewN ?_ _ | refine blk_drew ?_ | refine blk_alloc ?_ _)); refine blk_put (cs := #[.int .i64 t263, .int .i64 t264, .int .i64 0, .slice none 0 0]) ?_ 2 _ rfl; (with_reducible repeat (first | refine blk_drewN ?_ _ | refine blk_drew ?_ | refine blk_alloc ?_ _)); refine blk_put (cs := #[.int .i64 t263, .int .i64 0, .int .i64 0, .slice none 0 0]) ?_ 1 _ rfl; (with_reducible repeat (first | refine blk_drewN ?_ _ | refine blk_drew ?_ | refine blk_alloc ?_ _)); refine blk_put (cs := #[.int .i64 0, .int .i64 0, .int .i64 0, .slice none 0 0]) ?_ 0 _ rfl; (with_reducible repeat (first | refine blk_drewN ?_ _ | refine blk_drew ?_ | refine blk_alloc ?_ _)); exact BK270.out) hb); have n9_ := Aside0.mk (below_step q72_ hb); clear HO240; clear HO246; clear HO254; clear HO262; clear HO268; clear BK248; clear BK256; clear BK270; clear HB; have HO240 := n0_; have HO246 := n1_; have HO254 := n2_; have HO262 := n3_; have HO268 := n4_; have HO278 := n5_; have BK248 := n6_; have BK256 := n7_; have BK270 := n8_; have HB := n9_; clear n0_ n1_ n2_ n3_ n4_ n5_ n6_ n7_ n8_ n9_; (try clear hb); (try clear hb2); (try clear hk); (try clear hi); (try clear ho0); obtain ⟨Ao54, co54, eo54⟩ := Kd.R_slice HO278.out; subst eo54) | (go_at_call 26; (with_reducible refine (plane_At.calls k t273 t274 t275 _ _ t276 1 0 (-1) 5 t279 _ ?side1 ?side2 A17.out).mono ?_); (case side1 => repeat (first | exact (Kd.R_reads' HO278.out).2.2 | (with_reducible refine Kd.C_alloc ?_ _) | (with_reducible refine Kd.C_drewN ?_ _) | (with_reducible refine Kd.C_drew ?_))); (case side2 => exact (Kd.R_reads' HO278.out).2.1); rintro e w55 ⟨rfl, hb⟩; have n0_ := Aside0.mk (Kd.R_below q180_ hb); have n1_ := Aside0.mk (Kd.R_below q181_ hb); have n2_ := Aside0.mk (Kd.R_below q182_ hb); have n3_ := Aside0.mk (Kd.R_below q183_ hb); have n4_ := Aside0.mk (Kd.R_below q184_ hb); have n5_ := Aside0.mk (Kd.R_below q185_ hb); have n6_ := Aside0.mk (blk_below (g := gb248) (o := .cells #[.int .i64 t241, .int .i64 t242, .int .i64 t243, .slice (some ad271) t244.length co30] 26 (0, 0)) q160_ hb); have n7_ := Aside0.mk (blk_below (g := gb256) (o := .cells #[.int .i64 t249, .int .i64 t250, .int .i64 t251, .slice Ao35 t252.length co35] 26 (0, 0)) q161_ hb); have n8_ := Aside0.mk (blk_below (g := gb270) (o := .cells #[.int .i64 t263, .int .i64 t264, .int .i64 t265, .slice (some ad272) t266.length co46] 26 (0, 0)) q162_ hb); have n9_ := Aside0.mk (below_step q72_ hb); clear HO240; clear HO246; clear HO254; clear HO262; clear HO268; clear HO278; clear BK248; clear BK256; clear BK270; clear HB; have HO240 := n0_; have HO246 := n1_; have HO254 := n2_; have HO262 := n3_; have HO268 := n4_; have HO278 := n5_; have BK248 := n6_; have BK256 := n7_; have BK270 := n8_; have HB := n9_; clear n0_ n1_ n2_ n3_ n4_ n5_ n6_ n7_ n8_ n9_; (try clear hb); (try clear hb2); (try clear hk); (try clear hi)) | (go_at_call 41; clear mk2_; (with_reducible refine (tilefarmlaw4_two.calls  t280 t281 t282 t283 _ A19.out).mono ?_); rintro e w56 ⟨v284, rfl, ho0, hb⟩; have n0_ := Aside0.mk (Kd.R_elder' q180_ (Kd.R_base ho0) hb); have n1_ := Aside0.mk (Kd.R_elder' q181_ (Kd.R_base ho0) hb); have n2_ := Aside0.mk (Kd.R_elder' q182_ (Kd.R_base ho0) hb); have n3_ := Aside0.mk (Kd.R_elder' q183_ (Kd.R_base ho0) hb); have n4_ := Aside0.mk (Kd.R_elder' q184_ (Kd.R_base ho0) hb); have n5_ := Aside0.mk (Kd.R_elder' q185_ (Kd.R_base ho0) hb); have n6_ := Aside0.mk (Kd.R_lower (Kd.R_new' (Kd.R_new' (Kd.R_new' (Kd.R_new' (Kd.R_new' (Kd.R_new' ho0 (Kd.R_lt q180_)) (Kd.R_lt q181_)) (Kd.R_lt q182_)) (Kd.R_lt q183_)) (Kd.R_lt q184_)) (Kd.R_lt q185_)) (below_size q72_)); have n7_ := Aside0.mk (blk_below (g := gb248) (o := .cells #[.int .i64 t241, .int .i64 t242, .int .i64 t243, .slice (some ad271) t244.length co30] 26 (0, 0)) q160_ hb); have n8_ := Aside0.mk (blk_below (g := gb256) (o := .cells #[.int .i64 t249, .int .i64 t250, .int .i64 t251, .slice Ao35 t252.length co35] 26 (0, 0)) q161_ hb); have n9_ := Aside0.mk (blk_below (g := gb270) (o := .cells #[.int .i64 t263, .int .i64 t264, .int .i64 t265, .slice (some ad272) t266.length co46] 26 (0, 0)) q162_ hb); have n10_ := Aside0.mk (below_step q72_ hb); clear HO240; clear HO246; clear HO254; clear HO262; clear HO268; clear HO278; clear BK248; clear BK256; clear BK270; clear HB; have HO240 := n0_; have HO246 := n1_; have HO254 := n2_; have HO262 := n3_; have HO268 := n4_; have HO278 := n5_; have HO285 := n6_; have BK248 := n7_; have BK256 := n8_; have BK270 := n9_; have HB := n10_; clear n0_ n1_ n2_ n3_ n4_ n5_ n6_ n7_ n8_ n9_ n10_; (try clear hb); (try clear hb2); (try clear hk); (try clear hi); (try clear ho0); obtain ⟨Ao57, co57, eo57⟩ := Kd.R_slice HO285.out; subst eo57) | (go_at_call 17; (with_reducible refine (plane_Valid.calls k t280 t281 t282 _ _ t283 true _ ?side1 ?side2 A20.out).mono ?_); (case side1 => repeat (first | exact (Kd.R_reads' HO285.out).2.2 | (with_reducible refine Kd.C_alloc ?_ _) | (with_reducible refine Kd.C_drewN ?_ _) | (with_reducible refine Kd.C_drew ?_))); (case side2 => exact (Kd.R_reads' HO285.out).2.1); rintro e w58 ⟨rfl, hb⟩; have n0_ := Aside0.mk (Kd.R_below q180_ hb); have n1_ := Aside0.mk (Kd.R_below q181_ hb); have n2_ := Aside0.mk (Kd.R_below q182_ hb); have n3_ := Aside0.mk (Kd.R_below q183_ hb); have n4_ := Aside0.mk (Kd.R_below q184_ hb); have n5_ := Aside0.mk (Kd.R_below q185_ hb); have n6_ := Aside0.mk (Kd.R_below q186_ hb); have n7_ := Aside0.mk (blk_below (g := gb248) (o := .cells #[.int .i64 t241, .int .i64 t242, .int .i64 t243, .slice (some ad271) t244.length co30] 26 (0, 0)) q160_ hb); have n8_ := Aside0.mk (blk_below (g := gb256) (o := .cells #[.int .i64 t249, .int .i64 t250, .int .i64 t251, .slice Ao35 t252.length co35] 26 (0, 0)) q161_ hb); have n9_ := Aside0.mk (blk_below (g := gb270) (o := .cells #[.int .i64 t263, .int .i64 t264, .int .i64 t265, .slice (some ad272) t266.length co46] 26 (0, 0)) q162_ hb); have n10_ := Aside0.mk (below_step q72_ hb); clear HO240; clear HO246; clear HO254; clear HO262; clear HO268; clear HO278; clear HO285; clear BK248; clear BK256; clear BK270; clear HB; have HO240 := n0_; have HO246 := n1_; have HO254 := n2_; have HO262 := n3_; have HO268 := n4_; have HO278 := n5_; have HO285 := n6_; have BK248 := n7_; have BK256 := n8_; have BK270 := n9_; have HB := n10_; clear n0_ n1_ n2_ n3_ n4_ n5_ n6_ n7_ n8_ n9_ n10_; (try clear hb); (try clear hb2); (try clear hk); (try clear hi)) | (go_at_call 41; clear mk3_; (with_reducible refine (tilefarmlaw4_two.calls  t287 t288 t289 t290 _ A22.out).mono ?_); rintro e w59 ⟨v291, rfl, ho0, hb⟩; have n0_ := Aside0.mk (Kd.R_elder' q180_ (Kd.R_base ho0) hb); have n1_ := Aside0.mk (Kd.R_elder' q181_ (Kd.R_base ho0) hb); have n2_ := Aside0.mk (Kd.R_elder' q182_ (Kd.R_base ho0) hb); have n3_ := Aside0.mk (Kd.R_elder' q183_ (Kd.R_base ho0) hb); have n4_ := Aside0.mk (Kd.R_elder' q184_ (Kd.R_base ho0) hb); have n5_ := Aside0.mk (Kd.R_elder' q185_ (Kd.R_base ho0) hb); have n6_ := Aside0.mk (Kd.R_elder' q186_ (Kd.R_base ho0) hb); have n7_ := Aside0.mk (Kd.R_lower (Kd.R_new' (Kd.R_new' (Kd.R_new' (Kd.R_new' (Kd.R_new' (Kd.R_new' (Kd.R_new' ho0 (Kd.R_lt q180_)) (Kd.R_lt q181_)) (Kd.R_lt q182_)) (Kd.R_lt q183_)) (Kd.R_lt q184_)) (Kd.R_lt q185_)) (Kd.R_lt q186_)) (below_size q72_)); have n8_ := Aside0.mk (blk_below (g := gb248) (o := .cells #[.int .i64 t241, .int .i64 t242, .int .i64 t243, .slice (some ad271) t244.length co30] 26 (0, 0)) q160_ hb); have n9_ := Aside0.mk (blk_below (g := gb256) (o := .cells #[.int .i64 t249, .int .i64 t250, .int .i64 t251, .slice Ao35 t252.length co35] 26 (0, 0)) q161_ hb); have n10_ := Aside0.mk (blk_below (g := gb270) (o := .cells #[.int .i64 t263, .int .i64 t264, .int .i64 t265, .slice (some ad272) t266.length co46] 26 (0, 0)) q162_ hb); have n11_ := Aside0.mk (below_step q72_ hb); clear HO240; clear HO246; clear HO254; clear HO262; clear HO268; clear HO278; clear HO285; clear BK248; clear BK256; clear BK270; clear HB; have HO240 := n0_; have HO246 := n1_; have HO254 := n2_; have HO262 := n3_; have HO268 := n4_; have HO278 := n5_; have HO285 := n6_; have HO292 := n7_; have BK248 := n8_; have BK256 := n9_; have BK270 := n10_; have HB := n11_; clear n0_ n1_ n2_ n3_ n4_ n5_ n6_ n7_ n8_ n9_ n10_ n11_; (try clear hb); (try clear hb2); (try clear hk); (try clear hi); (try clear ho0)) | (go_at_call 41; clear mk4_; (with_reducible refine (tilefarmlaw4_two.calls  t293 t294 t295 t296 _ A23.out).mono ?_); rintro e w60 ⟨v297, rfl, ho0, hb⟩; have n0_ := Aside0.mk (Kd.R_elder' q180_ (Kd.R_base ho0) hb); have n1_ := Aside0.mk (Kd.R_elder' q181_ (Kd.R_base ho0) hb); have n2_ := Aside0.mk (Kd.R_elder' q182_ (Kd.R_base ho0) hb); have n3_ := Aside0.mk (Kd.R_elder' q183_ (Kd.R_base ho0) hb); have n4_ := Aside0.mk (Kd.R_elder' q184_ (Kd.R_base ho0) hb); have n5_ := Aside0.mk (Kd.R_elder' q185_ (Kd.R_base ho0) hb); have n6_ := Aside0.mk (Kd.R_elder' q186_ (Kd.R_base ho0) hb); have n7_ := Aside0.mk (Kd.R_elder' q187_ (Kd.R_base ho0) hb); have n8_ := Aside0.mk (Kd.R_lower (Kd.R_new' (Kd.R_new' (Kd.R_new' (Kd.R_new' (Kd.R_new' (Kd.R_new' (Kd.R_new' (Kd.R_new' ho0 (Kd.R_lt q180_)) (Kd.R_lt q181_)) (Kd.R_lt q182_)) (Kd.R_lt q183_)) (Kd.R_lt q184_)) (Kd.R_lt q185_)) (Kd.R_lt q186_)) (Kd.R_lt q187_)) (below_size q72_)); have n9_ := Aside0.mk (blk_below (g := gb248) (o := .cells #[.int .i64 t241, .int .i64 t242, .int .i64 t243, .slice (some ad271) t244.length co30] 26 (0, 0)) q160_ hb); have n10_ := Aside0.mk (blk_below (g := gb256) (o := .cells #[.int .i64 t249, .int .i64 t250, .int .i64 t251, .slice Ao35 t252.length co35] 26 (0, 0)) q161_ hb); have n11_ := Aside0.mk (blk_below (g := gb270) (o := .cells #[.int .i64 t263, .int .i64 t264, .int .i64 t265, .slice (some ad272) t266.length co46] 26 (0, 0)) q162_ hb); have n12_ := Aside0.mk (below_step q72_ hb); clear HO240; clear HO246; clear HO254; clear HO262; clear HO268; clear HO278; clear HO285; clear HO292; clear BK248; clear BK256; clear BK270; clear HB; have HO240 := n0_; have HO246 := n1_; have HO254 := n2_; have HO262 := n3_; have HO268 := n4_; have HO278 := n5_; have HO285 := n6_; have HO292 := n7_; have HO298 := n8_; have BK248 := n9_; have BK256 := n10_; have BK270 := n11_; have HB := n12_; clear n0_ n1_ n2_ n3_ n4_ n5_ n6_ n7_ n8_ n9_ n10_ n11_ n12_; (try clear hb); (try clear hb2); (try clear hk); (try clear hi); (try clear ho0); obtain ⟨Ao61, co61, eo61⟩ := Kd.R_slice HO292.out; subst eo61; obtain ⟨Ao62, co62, eo62⟩ := Kd.R_slice HO298.out; subst eo62) | (go_at_call 15; (with_reducible refine (plane_Equal.calls k t287 t288 t289 _ _ t290 t293 t294 t295 _ _ t296 t299 _ ?side1 ?side2 ?side3 ?side4 A24.out).mono ?_); (case side1 => repeat (first | exact (Kd.R_reads' HO292.out).2.2 | (with_reducible refine Kd.C_alloc ?_ _) | (with_reducible refine Kd.C_drewN ?_ _) | (with_reducible refine Kd.C_drew ?_))); (case side2 => exact (Kd.R_reads' HO292.out).2.1); (case side3 => repeat (first | exact (Kd.R_reads' HO298.out).2.2 | (with_reducible refine Kd.C_alloc ?_ _) | (with_reducible refine Kd.C_drewN ?_ _) | (with_reducible refine Kd.C_drew ?_))); (case side4 => exact (Kd.R_reads' HO298.out).2.1); rintro e w63 ⟨rfl, hb⟩; have n0_ := Aside0.mk (Kd.R_below q180_ hb); have n1_ := Aside0.mk (Kd.R_below q181_ hb); have n2_ := Aside0.mk (Kd.R_below q182_ hb); have n3_ := Aside0.mk (Kd.R_below q183_ hb); have n4_ := Aside0.mk (Kd.R_below q184_ hb); have n5_ := Aside0.mk (Kd.R_below q185_ hb); have n6_ := Aside0.mk (Kd.R_below q186_ hb); have n7_ := Aside0.mk (Kd.R_below q187_ hb); have n8_ := Aside0.mk (Kd.R_below (by (with_reducible repeat (first | apply Kd.R_alloc | apply Kd.R_drewN | apply Kd.R_drew)); exact HO298.out) hb); have n9_ := Aside0.mk (blk_below (g := gb248) (o := .cells #[.int .i64 t241, .int .i64 t242, .int .i64 t243, .slice (some ad271) t244.length co30] 26 (0, 0)) q160_ hb); have n10_ := Aside0.mk (blk_below (g := gb256) (o := .cells #[.int .i64 t249, .int .i64 t250, .int .i64 t251, .slice Ao35 t252.length co35] 26 (0, 0)) q161_ hb); have n11_ := Aside0.mk (blk_below (g := gb270) (o := .cells #[.int .i64 t263, .int .i64 t264, .int .i64 t265, .slice (some ad272) t266.length co46] 26 (0, 0)) q162_ hb); have n12_ := Aside0.mk (below_step q72_ hb); clear HO240; clear HO246; clear HO254; clear HO262; clear HO268; clear HO278; clear HO285; clear HO292; clear HO298; clear BK248; clear BK256; clear BK270; clear HB; have HO240 := n0_; have HO246 := n1_; have HO254 := n2_; have HO262 := n3_; have HO268 := n4_; have HO278 := n5_; have HO285 := n6_; have HO292 := n7_; have HO298 := n8_; have BK248 := n9_; have BK256 := n10_; have BK270 := n11_; have HB := n12_; clear n0_ n1_ n2_ n3_ n4_ n5_ n6_ n7_ n8_ n9_ n10_ n11_ n12_; (try clear hb); (try clear hb2); (try clear hk); (try clear hi)))
                          go_ret
                          exact ⟨q195_, q72_⟩
                        · replace c21 := Bool.eq_false_iff.mpr c21
                          subst c21
                          have H1 : (some false) = some r := by rw [if_neg (show ¬ (false = true) by decide)] at H; exact H
                          clear H
                          have H := H1
                          clear H1
                          exact absurd ((Option.some.inj H).trans HT.out) (by decide)
                      · rw [if_neg c18] at H
                        have c18b0 : (t279 == 3) = false := beq_eq_false_iff_ne.mpr c18
                        have c18b1 : (t279 != 3) = true := bne_iff_ne.mpr c18
                        exact absurd ((Option.some.inj H).trans HT.out) (by decide)
                    · rw [if_neg c15] at H
                      have c15b0 : ((rd t266 0) == 2) = false := beq_eq_false_iff_ne.mpr c15
                      have c15b1 : ((rd t266 0) != 2) = true := bne_iff_ne.mpr c15
                      exact absurd ((Option.some.inj H).trans HT.out) (by decide)
                  · rw [if_neg c14] at H
                    exact absurd H (by simp)
                · rw [if_neg c13] at H
                  have c13b0 : ((t266.length : Int) == 4) = false := beq_eq_false_iff_ne.mpr c13
                  have c13b1 : ((t266.length : Int) != 4) = true := bne_iff_ne.mpr c13
                  exact absurd ((Option.some.inj H).trans HT.out) (by decide)
              · replace c12 := Bool.eq_false_iff.mpr c12
                subst c12
                have H1 : (some false) = some r := by rw [if_neg (show ¬ (false = true) by decide)] at H; exact H
                clear H
                have H := H1
                clear H1
                exact absurd ((Option.some.inj H).trans HT.out) (by decide)
            · rw [if_neg c11] at H
              have c11b0 : ((t252.length : Int) == 3) = false := beq_eq_false_iff_ne.mpr c11
              have c11b1 : ((t252.length : Int) != 3) = true := bne_iff_ne.mpr c11
              exact absurd ((Option.some.inj H).trans HT.out) (by decide)
          · replace c10 := Bool.eq_false_iff.mpr c10
            subst c10
            have H1 : (some false) = some r := by rw [if_neg (show ¬ (false = true) by decide)] at H; exact H
            clear H
            have H := H1
            clear H1
            exact absurd ((Option.some.inj H).trans HT.out) (by decide)
        · rw [if_neg c9] at H
          have c9b0 : ((rd t244 1) == 4) = false := beq_eq_false_iff_ne.mpr c9
          have c9b1 : ((rd t244 1) != 4) = true := bne_iff_ne.mpr c9
          exact absurd ((Option.some.inj H).trans HT.out) (by decide)
      · rw [if_neg c8] at H
        exact absurd H (by simp)
    · rw [if_neg c7] at H
      have c7b0 : ((t244.length : Int) == 2) = false := beq_eq_false_iff_ne.mpr c7
      have c7b1 : ((t244.length : Int) != 2) = true := bne_iff_ne.mpr c7
      exact absurd ((Option.some.inj H).trans HT.out) (by decide)
  · replace c6 := Bool.eq_false_iff.mpr c6
    subst c6
    have H1 : (some false) = some r := by rw [if_neg (show ¬ (false = true) by decide)] at H; exact H
    clear H
    have H := H1
    clear H1
    exact absurd ((Option.some.inj H).trans HT.out) (by decide)

end Go.Proofs.Ytgkccacenlcebaa.PPlaneShares
