-- Written by a program of the session (wip/tools/pack.py): the printed texts, pruned; checked by Lean.
import Derived.Test.YtgkccacenlcebaaKPlaneBlitsa
import Derived.Test.YtgkccacenlcebaaKPlaneBlitsx0
import Derived.Test.YtgkccacenlcebaaKPlaneBlitsx4
import Derived.Test.YtgkccacenlcebaaKPlaneBlitsx7
import Derived.Test.YtgkccacenlcebaaKPlaneBlitsx9
import Derived.Test.YtgkccacenlcebaaKPlaneBlitsx10
namespace Go.Proofs.Ytgkccacenlcebaa.PPlaneBlits
open Go.RowKit Go.Proofs.YtgkccacenlcebaaW.PrintWords Go.Proofs.YtgkccacenlcebaaW.PrintLast Go.Proofs.YtgkccacenlcebaaW.PrintMore
attribute [local go_sem] max2_int min2_int max_two min_two max_three min_three max_four min_four   -- for this text's walks alone
set_option linter.unusedVariables false
set_option linter.unusedSimpArgs false
def tilefarmlaw4_sane.f (k : Nat)  : Option (Bool) := (tilefarmlaw4_two.f).bind fun bt226 => ((plane_Crop.f k bt226.1 bt226.2.1 bt226.2.2.1 bt226.2.2.2 1 0 2 2).bind fun bt232 => ((plane_New.f 3 1 5).bind fun bt240 => ((tilefarmlaw4_two.f).bind fun bt248 => ((plane_Blit.f k bt248.1 bt248.2.1 bt248.2.2.1 bt248.2.2.2 bt232.1 bt232.2.1 bt232.2.2.1 bt232.2.2.2.1 0 0).bind fun bt254 => (if bt232.2.2.2.2 = true then (if (bt232.2.2.2.1.length : Int) = 2 then (if 1 < (bt232.2.2.2.1.length : Int) then (if (rd bt232.2.2.2.1 1) = 4 then (if bt240.2.2.2.2 = true then (if (bt240.2.2.2.1.length : Int) = 3 then (if bt254.2.2.2.2 = true then (if (bt254.2.2.2.1.length : Int) = 4 then (if 0 < (bt254.2.2.2.1.length : Int) then (if (rd bt254.2.2.2.1 0) = 2 then ((tilefarmlaw4_two.f).bind fun bt264 => ((plane_At.f k bt264.1 bt264.2.1 bt264.2.2.1 bt264.2.2.2 1 0 (-1) 5).bind fun t270 => (if t270 = 3 then ((tilefarmlaw4_two.f).bind fun bt271 => ((plane_Valid.f k bt271.1 bt271.2.1 bt271.2.2.1 bt271.2.2.2).bind fun t277 => (if t277 = true then ((tilefarmlaw4_two.f).bind fun bt278 => ((tilefarmlaw4_two.f).bind fun bt284 => ((plane_Equal.f k bt278.1 bt278.2.1 bt278.2.2.1 bt278.2.2.2 bt284.1 bt284.2.1 bt284.2.2.1 bt284.2.2.2).bind fun t290 => (some t290)))) else (some false)))) else (some false)))) else (some false)) else (none)) else (some false)) else (some false)) else (some false)) else (some false)) else (some false)) else (none)) else (some false)) else (some false))))))
theorem tilefarmlaw4_sane.mono : ∀ k, LeO (tilefarmlaw4_sane.f k ) (tilefarmlaw4_sane.f (k + 1) ) := by
  intro  k
  unfold tilefarmlaw4_sane.f
  repeat' first
      | (with_reducible exact plane_At.mono _ _ _ _ _ _ _ _ _)
      | (with_reducible exact plane_Blit.mono _ _ _ _ _ _ _ _ _ _ _)
      | (with_reducible exact plane_Crop.mono _ _ _ _ _ _ _ _ _)
      | (with_reducible exact plane_Equal.mono _ _ _ _ _ _ _ _ _)
      | (with_reducible exact plane_Valid.mono _ _ _ _ _)
      | (with_reducible exact LeO.refl _)
      | (with_reducible exact LeO.none _)
      | (with_reducible refine LeO.ite ?_ ?_)
      | (with_reducible refine LeO.bind ?_ (fun _ => ?_))
      | exact plane_At.mono _ _ _ _ _ _ _ _ _
      | exact plane_Blit.mono _ _ _ _ _ _ _ _ _ _ _
      | exact plane_Crop.mono _ _ _ _ _ _ _ _ _
      | exact plane_Equal.mono _ _ _ _ _ _ _ _ _
      | exact plane_Valid.mono _ _ _ _ _
      | exact LeO.none _
      | refine LeO.ite ?_ ?_
      | refine LeO.bind ?_ (fun _ => ?_)
def tilefarmlaw4_sane.T3 : Bool × List (List Nat × List Nat) := (true, [([], []), ([], []), ([0, 1, 0], [0, 1]), ([2], [2]), ([3], [3]), ([3], [3]), ([], []), ([6, 4, 2, 0, 1, 2, 3, 4, 6], [4, 6]), ([5, 7, 0, 1, 2, 3, 4, 5, 6, 7], [5])])
def tilefarmlaw4_sane.B3 : List Nat := [0, 0, 3, 7, 15, 15, 0, 95, 255]
theorem tilefarmlaw4_sane.tab3 : rtab .any (opsOf Try.f18 3) = tilefarmlaw4_sane.T3 := by kernel_rfl
theorem tilefarmlaw4_sane.bits3 : waitsOk tilefarmlaw4_sane.T3.2 tilefarmlaw4_sane.B3 = true := by kernel_rfl
set_option maxHeartbeats 8000000 in
set_option maxRecDepth 100000 in
theorem tilefarmlaw4_sane.calls (k : Nat)  (r : Bool) (w : World) (h : tilefarmlaw4_sane.f k  = some r) (hT : r = true := by first | rfl | assumption | exact HT.out) :
    Calls Try.prog 18 #[] w fun e w' => e = .returned (.bool r) ∧ Below w.heap.size w w' := by
  have HT := Aside0.mk hT
  clear hT
  have hu31 := Try.underlying31
  have hu26 := Try.underlying26
  have hu45 := Try.underlying45
  have HB := Aside0.mk (Below.refl w.heap.size w)
  have H : ((tilefarmlaw4_two.f).bind fun bt226 => ((plane_Crop.f k bt226.1 bt226.2.1 bt226.2.2.1 bt226.2.2.2 1 0 2 2).bind fun bt232 => ((plane_New.f 3 1 5).bind fun bt240 => ((tilefarmlaw4_two.f).bind fun bt248 => ((plane_Blit.f k bt248.1 bt248.2.1 bt248.2.2.1 bt248.2.2.2 bt232.1 bt232.2.1 bt232.2.2.1 bt232.2.2.2.1 0 0).bind fun bt254 => (if bt232.2.2.2.2 = true then (if (bt232.2.2.2.1.length : Int) = 2 then (if 1 < (bt232.2.2.2.1.length : Int) then (if (rd bt232.2.2.2.1 1) = 4 then (if bt240.2.2.2.2 = true then (if (bt240.2.2.2.1.length : Int) = 3 then (if bt254.2.2.2.2 = true then (if (bt254.2.2.2.1.length : Int) = 4 then (if 0 < (bt254.2.2.2.1.length : Int) then (if (rd bt254.2.2.2.1 0) = 2 then ((tilefarmlaw4_two.f).bind fun bt264 => ((plane_At.f k bt264.1 bt264.2.1 bt264.2.2.1 bt264.2.2.2 1 0 (-1) 5).bind fun t270 => (if t270 = 3 then ((tilefarmlaw4_two.f).bind fun bt271 => ((plane_Valid.f k bt271.1 bt271.2.1 bt271.2.2.1 bt271.2.2.2).bind fun t277 => (if t277 = true then ((tilefarmlaw4_two.f).bind fun bt278 => ((tilefarmlaw4_two.f).bind fun bt284 => ((plane_Equal.f k bt278.1 bt278.2.1 bt278.2.2.1 bt278.2.2.2 bt284.1 bt284.2.1 bt284.2.2.1 bt284.2.2.2).bind fun t290 => (some t290)))) else (some false)))) else (some false)))) else (some false)) else (none)) else (some false)) else (some false)) else (some false)) else (some false)) else (some false)) else (none)) else (some false)) else (some false))))))) = some r := h
  clear h
  replace H := Option.bind_eq_some_iff.mp H
  obtain ⟨⟨t226, t227, t228, t229⟩, A10, H⟩ := H
  replace H : ((plane_Crop.f k t226 t227 t228 t229 1 0 2 2).bind fun bt232 => ((plane_New.f 3 1 5).bind fun bt240 => ((tilefarmlaw4_two.f).bind fun bt248 => ((plane_Blit.f k bt248.1 bt248.2.1 bt248.2.2.1 bt248.2.2.2 bt232.1 bt232.2.1 bt232.2.2.1 bt232.2.2.2.1 0 0).bind fun bt254 => (if bt232.2.2.2.2 = true then (if (bt232.2.2.2.1.length : Int) = 2 then (if 1 < (bt232.2.2.2.1.length : Int) then (if (rd bt232.2.2.2.1 1) = 4 then (if bt240.2.2.2.2 = true then (if (bt240.2.2.2.1.length : Int) = 3 then (if bt254.2.2.2.2 = true then (if (bt254.2.2.2.1.length : Int) = 4 then (if 0 < (bt254.2.2.2.1.length : Int) then (if (rd bt254.2.2.2.1 0) = 2 then ((tilefarmlaw4_two.f).bind fun bt264 => ((plane_At.f k bt264.1 bt264.2.1 bt264.2.2.1 bt264.2.2.2 1 0 (-1) 5).bind fun t270 => (if t270 = 3 then ((tilefarmlaw4_two.f).bind fun bt271 => ((plane_Valid.f k bt271.1 bt271.2.1 bt271.2.2.1 bt271.2.2.2).bind fun t277 => (if t277 = true then ((tilefarmlaw4_two.f).bind fun bt278 => ((tilefarmlaw4_two.f).bind fun bt284 => ((plane_Equal.f k bt278.1 bt278.2.1 bt278.2.2.1 bt278.2.2.2 bt284.1 bt284.2.1 bt284.2.2.1 bt284.2.2.2).bind fun t290 => (some t290)))) else (some false)))) else (some false)))) else (some false)) else (none)) else (some false)) else (some false)) else (some false)) else (some false)) else (some false)) else (none)) else (some false)) else (some false)))))) = some r := H
  have A1 := Aside0.mk A10
  clear A10
  replace H := Option.bind_eq_some_iff.mp H
  obtain ⟨⟨t232, t233, t234, t235, t238⟩, A20, H⟩ := H
  replace H : ((plane_New.f 3 1 5).bind fun bt240 => ((tilefarmlaw4_two.f).bind fun bt248 => ((plane_Blit.f k bt248.1 bt248.2.1 bt248.2.2.1 bt248.2.2.2 t232 t233 t234 t235 0 0).bind fun bt254 => (if t238 = true then (if (t235.length : Int) = 2 then (if 1 < (t235.length : Int) then (if (rd t235 1) = 4 then (if bt240.2.2.2.2 = true then (if (bt240.2.2.2.1.length : Int) = 3 then (if bt254.2.2.2.2 = true then (if (bt254.2.2.2.1.length : Int) = 4 then (if 0 < (bt254.2.2.2.1.length : Int) then (if (rd bt254.2.2.2.1 0) = 2 then ((tilefarmlaw4_two.f).bind fun bt264 => ((plane_At.f k bt264.1 bt264.2.1 bt264.2.2.1 bt264.2.2.2 1 0 (-1) 5).bind fun t270 => (if t270 = 3 then ((tilefarmlaw4_two.f).bind fun bt271 => ((plane_Valid.f k bt271.1 bt271.2.1 bt271.2.2.1 bt271.2.2.2).bind fun t277 => (if t277 = true then ((tilefarmlaw4_two.f).bind fun bt278 => ((tilefarmlaw4_two.f).bind fun bt284 => ((plane_Equal.f k bt278.1 bt278.2.1 bt278.2.2.1 bt278.2.2.2 bt284.1 bt284.2.1 bt284.2.2.1 bt284.2.2.2).bind fun t290 => (some t290)))) else (some false)))) else (some false)))) else (some false)) else (none)) else (some false)) else (some false)) else (some false)) else (some false)) else (some false)) else (none)) else (some false)) else (some false))))) = some r := H
  have A2 := Aside0.mk A20
  clear A20
  replace H := Option.bind_eq_some_iff.mp H
  obtain ⟨⟨t240, t241, t242, t243, t246⟩, A30, H⟩ := H
  replace H : ((tilefarmlaw4_two.f).bind fun bt248 => ((plane_Blit.f k bt248.1 bt248.2.1 bt248.2.2.1 bt248.2.2.2 t232 t233 t234 t235 0 0).bind fun bt254 => (if t238 = true then (if (t235.length : Int) = 2 then (if 1 < (t235.length : Int) then (if (rd t235 1) = 4 then (if t246 = true then (if (t243.length : Int) = 3 then (if bt254.2.2.2.2 = true then (if (bt254.2.2.2.1.length : Int) = 4 then (if 0 < (bt254.2.2.2.1.length : Int) then (if (rd bt254.2.2.2.1 0) = 2 then ((tilefarmlaw4_two.f).bind fun bt264 => ((plane_At.f k bt264.1 bt264.2.1 bt264.2.2.1 bt264.2.2.2 1 0 (-1) 5).bind fun t270 => (if t270 = 3 then ((tilefarmlaw4_two.f).bind fun bt271 => ((plane_Valid.f k bt271.1 bt271.2.1 bt271.2.2.1 bt271.2.2.2).bind fun t277 => (if t277 = true then ((tilefarmlaw4_two.f).bind fun bt278 => ((tilefarmlaw4_two.f).bind fun bt284 => ((plane_Equal.f k bt278.1 bt278.2.1 bt278.2.2.1 bt278.2.2.2 bt284.1 bt284.2.1 bt284.2.2.1 bt284.2.2.2).bind fun t290 => (some t290)))) else (some false)))) else (some false)))) else (some false)) else (none)) else (some false)) else (some false)) else (some false)) else (some false)) else (some false)) else (none)) else (some false)) else (some false)))) = some r := H
  have A3 := Aside0.mk A30
  clear A30
  replace H := Option.bind_eq_some_iff.mp H
  obtain ⟨⟨t248, t249, t250, t251⟩, A40, H⟩ := H
  replace H : ((plane_Blit.f k t248 t249 t250 t251 t232 t233 t234 t235 0 0).bind fun bt254 => (if t238 = true then (if (t235.length : Int) = 2 then (if 1 < (t235.length : Int) then (if (rd t235 1) = 4 then (if t246 = true then (if (t243.length : Int) = 3 then (if bt254.2.2.2.2 = true then (if (bt254.2.2.2.1.length : Int) = 4 then (if 0 < (bt254.2.2.2.1.length : Int) then (if (rd bt254.2.2.2.1 0) = 2 then ((tilefarmlaw4_two.f).bind fun bt264 => ((plane_At.f k bt264.1 bt264.2.1 bt264.2.2.1 bt264.2.2.2 1 0 (-1) 5).bind fun t270 => (if t270 = 3 then ((tilefarmlaw4_two.f).bind fun bt271 => ((plane_Valid.f k bt271.1 bt271.2.1 bt271.2.2.1 bt271.2.2.2).bind fun t277 => (if t277 = true then ((tilefarmlaw4_two.f).bind fun bt278 => ((tilefarmlaw4_two.f).bind fun bt284 => ((plane_Equal.f k bt278.1 bt278.2.1 bt278.2.2.1 bt278.2.2.2 bt284.1 bt284.2.1 bt284.2.2.1 bt284.2.2.2).bind fun t290 => (some t290)))) else (some false)))) else (some false)))) else (some false)) else (none)) else (some false)) else (some false)) else (some false)) else (some false)) else (some false)) else (none)) else (some false)) else (some false))) = some r := H
  have A4 := Aside0.mk A40
  clear A40
  replace H := Option.bind_eq_some_iff.mp H
  obtain ⟨⟨t254, t255, t256, t257, t260⟩, A50, H⟩ := H
  replace H : (if t238 = true then (if (t235.length : Int) = 2 then (if 1 < (t235.length : Int) then (if (rd t235 1) = 4 then (if t246 = true then (if (t243.length : Int) = 3 then (if t260 = true then (if (t257.length : Int) = 4 then (if 0 < (t257.length : Int) then (if (rd t257 0) = 2 then ((tilefarmlaw4_two.f).bind fun bt264 => ((plane_At.f k bt264.1 bt264.2.1 bt264.2.2.1 bt264.2.2.2 1 0 (-1) 5).bind fun t270 => (if t270 = 3 then ((tilefarmlaw4_two.f).bind fun bt271 => ((plane_Valid.f k bt271.1 bt271.2.1 bt271.2.2.1 bt271.2.2.2).bind fun t277 => (if t277 = true then ((tilefarmlaw4_two.f).bind fun bt278 => ((tilefarmlaw4_two.f).bind fun bt284 => ((plane_Equal.f k bt278.1 bt278.2.1 bt278.2.2.1 bt278.2.2.2 bt284.1 bt284.2.1 bt284.2.2.1 bt284.2.2.2).bind fun t290 => (some t290)))) else (some false)))) else (some false)))) else (some false)) else (none)) else (some false)) else (some false)) else (some false)) else (some false)) else (some false)) else (none)) else (some false)) else (some false)) = some r := H
  have A5 := Aside0.mk A50
  clear A50
  by_cases c6 : t238 = true
  · subst c6
    have H1 : (if (t235.length : Int) = 2 then (if 1 < (t235.length : Int) then (if (rd t235 1) = 4 then (if t246 = true then (if (t243.length : Int) = 3 then (if t260 = true then (if (t257.length : Int) = 4 then (if 0 < (t257.length : Int) then (if (rd t257 0) = 2 then ((tilefarmlaw4_two.f).bind fun bt264 => ((plane_At.f k bt264.1 bt264.2.1 bt264.2.2.1 bt264.2.2.2 1 0 (-1) 5).bind fun t270 => (if t270 = 3 then ((tilefarmlaw4_two.f).bind fun bt271 => ((plane_Valid.f k bt271.1 bt271.2.1 bt271.2.2.1 bt271.2.2.2).bind fun t277 => (if t277 = true then ((tilefarmlaw4_two.f).bind fun bt278 => ((tilefarmlaw4_two.f).bind fun bt284 => ((plane_Equal.f k bt278.1 bt278.2.1 bt278.2.2.1 bt278.2.2.2 bt284.1 bt284.2.1 bt284.2.2.1 bt284.2.2.2).bind fun t290 => (some t290)))) else (some false)))) else (some false)))) else (some false)) else (none)) else (some false)) else (some false)) else (some false)) else (some false)) else (some false)) else (none)) else (some false)) = some r := by rw [if_pos rfl] at H; exact H
    clear H
    have H := H1
    clear H1
    by_cases c7 : (t235.length : Int) = 2
    · rw [if_pos c7] at H
      have c7b0 : ((t235.length : Int) == 2) = true := beq_iff_eq.mpr c7
      have c7b1 : ((t235.length : Int) != 2) = false := bne_eq_false_iff_eq.mpr c7
      clear c7
      by_cases c8 : 1 < (t235.length : Int)
      · rw [if_pos c8] at H
        have c8b0 : decide (1 < (t235.length : Int)) = true := decide_eq_true c8
        have c8b1 : decide (1 < t235.length) = true := decide_eq_true (by omega)
        clear c8
        by_cases c9 : (rd t235 1) = 4
        · rw [if_pos c9] at H
          have c9b0 : ((rd t235 1) == 4) = true := beq_iff_eq.mpr c9
          have c9b1 : ((rd t235 1) != 4) = false := bne_eq_false_iff_eq.mpr c9
          clear c9
          by_cases c10 : t246 = true
          · subst c10
            have H1 : (if (t243.length : Int) = 3 then (if t260 = true then (if (t257.length : Int) = 4 then (if 0 < (t257.length : Int) then (if (rd t257 0) = 2 then ((tilefarmlaw4_two.f).bind fun bt264 => ((plane_At.f k bt264.1 bt264.2.1 bt264.2.2.1 bt264.2.2.2 1 0 (-1) 5).bind fun t270 => (if t270 = 3 then ((tilefarmlaw4_two.f).bind fun bt271 => ((plane_Valid.f k bt271.1 bt271.2.1 bt271.2.2.1 bt271.2.2.2).bind fun t277 => (if t277 = true then ((tilefarmlaw4_two.f).bind fun bt278 => ((tilefarmlaw4_two.f).bind fun bt284 => ((plane_Equal.f k bt278.1 bt278.2.1 bt278.2.2.1 bt278.2.2.2 bt284.1 bt284.2.1 bt284.2.2.1 bt284.2.2.2).bind fun t290 => (some t290)))) else (some false)))) else (some false)))) else (some false)) else (none)) else (some false)) else (some false)) else (some false)) = some r := by rw [if_pos rfl] at H; exact H
            clear H
            have H := H1
            clear H1
            by_cases c11 : (t243.length : Int) = 3
            · rw [if_pos c11] at H
              have c11b0 : ((t243.length : Int) == 3) = true := beq_iff_eq.mpr c11
              have c11b1 : ((t243.length : Int) != 3) = false := bne_eq_false_iff_eq.mpr c11
              clear c11
              by_cases c12 : t260 = true
              · subst c12
                have H1 : (if (t257.length : Int) = 4 then (if 0 < (t257.length : Int) then (if (rd t257 0) = 2 then ((tilefarmlaw4_two.f).bind fun bt264 => ((plane_At.f k bt264.1 bt264.2.1 bt264.2.2.1 bt264.2.2.2 1 0 (-1) 5).bind fun t270 => (if t270 = 3 then ((tilefarmlaw4_two.f).bind fun bt271 => ((plane_Valid.f k bt271.1 bt271.2.1 bt271.2.2.1 bt271.2.2.2).bind fun t277 => (if t277 = true then ((tilefarmlaw4_two.f).bind fun bt278 => ((tilefarmlaw4_two.f).bind fun bt284 => ((plane_Equal.f k bt278.1 bt278.2.1 bt278.2.2.1 bt278.2.2.2 bt284.1 bt284.2.1 bt284.2.2.1 bt284.2.2.2).bind fun t290 => (some t290)))) else (some false)))) else (some false)))) else (some false)) else (none)) else (some false)) = some r := by rw [if_pos rfl] at H; exact H
                clear H
                have H := H1
                clear H1
                by_cases c13 : (t257.length : Int) = 4
                · rw [if_pos c13] at H
                  have c13b0 : ((t257.length : Int) == 4) = true := beq_iff_eq.mpr c13
                  have c13b1 : ((t257.length : Int) != 4) = false := bne_eq_false_iff_eq.mpr c13
                  clear c13
                  by_cases c14 : 0 < (t257.length : Int)
                  · rw [if_pos c14] at H
                    have c14b0 : decide (0 < (t257.length : Int)) = true := decide_eq_true c14
                    have c14b1 : decide (0 < t257.length) = true := decide_eq_true (by omega)
                    clear c14
                    by_cases c15 : (rd t257 0) = 2
                    · rw [if_pos c15] at H
                      have c15b0 : ((rd t257 0) == 2) = true := beq_iff_eq.mpr c15
                      have c15b1 : ((rd t257 0) != 2) = false := bne_eq_false_iff_eq.mpr c15
                      clear c15
                      replace H := Option.bind_eq_some_iff.mp H
                      obtain ⟨⟨t264, t265, t266, t267⟩, A160, H⟩ := H
                      replace H : ((plane_At.f k t264 t265 t266 t267 1 0 (-1) 5).bind fun t270 => (if t270 = 3 then ((tilefarmlaw4_two.f).bind fun bt271 => ((plane_Valid.f k bt271.1 bt271.2.1 bt271.2.2.1 bt271.2.2.2).bind fun t277 => (if t277 = true then ((tilefarmlaw4_two.f).bind fun bt278 => ((tilefarmlaw4_two.f).bind fun bt284 => ((plane_Equal.f k bt278.1 bt278.2.1 bt278.2.2.1 bt278.2.2.2 bt284.1 bt284.2.1 bt284.2.2.1 bt284.2.2.2).bind fun t290 => (some t290)))) else (some false)))) else (some false))) = some r := H
                      have A16 := Aside0.mk A160
                      clear A160
                      replace H := Option.bind_eq_some_iff.mp H
                      obtain ⟨t270, A170, H⟩ := H
                      replace H : (if t270 = 3 then ((tilefarmlaw4_two.f).bind fun bt271 => ((plane_Valid.f k bt271.1 bt271.2.1 bt271.2.2.1 bt271.2.2.2).bind fun t277 => (if t277 = true then ((tilefarmlaw4_two.f).bind fun bt278 => ((tilefarmlaw4_two.f).bind fun bt284 => ((plane_Equal.f k bt278.1 bt278.2.1 bt278.2.2.1 bt278.2.2.2 bt284.1 bt284.2.1 bt284.2.2.1 bt284.2.2.2).bind fun t290 => (some t290)))) else (some false)))) else (some false)) = some r := H
                      have A17 := Aside0.mk A170
                      clear A170
                      by_cases c18 : t270 = 3
                      · rw [if_pos c18] at H
                        have c18b0 : (t270 == 3) = true := beq_iff_eq.mpr c18
                        have c18b1 : (t270 != 3) = false := bne_eq_false_iff_eq.mpr c18
                        clear c18
                        replace H := Option.bind_eq_some_iff.mp H
                        obtain ⟨⟨t271, t272, t273, t274⟩, A190, H⟩ := H
                        replace H : ((plane_Valid.f k t271 t272 t273 t274).bind fun t277 => (if t277 = true then ((tilefarmlaw4_two.f).bind fun bt278 => ((tilefarmlaw4_two.f).bind fun bt284 => ((plane_Equal.f k bt278.1 bt278.2.1 bt278.2.2.1 bt278.2.2.2 bt284.1 bt284.2.1 bt284.2.2.1 bt284.2.2.2).bind fun t290 => (some t290)))) else (some false))) = some r := H
                        have A19 := Aside0.mk A190
                        clear A190
                        replace H := Option.bind_eq_some_iff.mp H
                        obtain ⟨t277, A200, H⟩ := H
                        replace H : (if t277 = true then ((tilefarmlaw4_two.f).bind fun bt278 => ((tilefarmlaw4_two.f).bind fun bt284 => ((plane_Equal.f k bt278.1 bt278.2.1 bt278.2.2.1 bt278.2.2.2 bt284.1 bt284.2.1 bt284.2.2.1 bt284.2.2.2).bind fun t290 => (some t290)))) else (some false)) = some r := H
                        have A20 := Aside0.mk A200
                        clear A200
                        by_cases c21 : t277 = true
                        · subst c21
                          have H1 : ((tilefarmlaw4_two.f).bind fun bt278 => ((tilefarmlaw4_two.f).bind fun bt284 => ((plane_Equal.f k bt278.1 bt278.2.1 bt278.2.2.1 bt278.2.2.2 bt284.1 bt284.2.1 bt284.2.2.1 bt284.2.2.2).bind fun t290 => (some t290)))) = some r := by rw [if_pos rfl] at H; exact H
                          clear H
                          have H := H1
                          clear H1
                          replace H := Option.bind_eq_some_iff.mp H
                          obtain ⟨⟨t278, t279, t280, t281⟩, A220, H⟩ := H
                          replace H : ((tilefarmlaw4_two.f).bind fun bt284 => ((plane_Equal.f k t278 t279 t280 t281 bt284.1 bt284.2.1 bt284.2.2.1 bt284.2.2.2).bind fun t290 => (some t290))) = some r := H
                          have A22 := Aside0.mk A220
                          clear A220
                          replace H := Option.bind_eq_some_iff.mp H
                          obtain ⟨⟨t284, t285, t286, t287⟩, A230, H⟩ := H
                          replace H : ((plane_Equal.f k t278 t279 t280 t281 t284 t285 t286 t287).bind fun t290 => (some t290)) = some r := H
                          have A23 := Aside0.mk A230
                          clear A230
                          replace H := Option.bind_eq_some_iff.mp H
                          obtain ⟨t290, A240, H⟩ := H
                          replace H : (some t290) = some r := H
                          have A24 := Aside0.mk A240
                          clear A240
                          obtain rfl := Option.some.inj H
                          go_enter Try.func18, Try.ntmps18
                          try go_wp2_with (first | ((with_reducible refine gate_callee (f := 41) rfl ?_); refine goesL_ (some 8) rfl rfl Try.func41 (by kernel_rfl) rfl #[] rfl q108_ ?_; (with_reducible refine (tilefarmlaw4_two.calls  t226 t227 t228 t229 _ A1.out).mono ?_); rintro e w25 ⟨v230, rfl, ho0, hb⟩; refine ⟨_, rfl, ?_⟩; have n0_ := Aside0.mk (Kd.R_lower ho0 (below_size q111_)); have n1_ := Aside0.mk (below_step q111_ hb); clear HB; have HO231 := n0_; have HB := n1_; clear n0_ n1_; (try clear hb); (try clear hb2); (try clear hk); (try clear hi); (try clear ho0); obtain ⟨Ao26, co26, eo26⟩ := Kd.R_slice HO231.out; subst eo26) | ((with_reducible refine gate_callee (f := 13) rfl ?_); refine goesL_ (some 10) rfl rfl Try.func13 (by kernel_rfl) rfl #[.agg #[.int .i64 t226, .int .i64 t227, .int .i64 t228, .slice Ao26 t229.length co26], .agg #[.int .i64 1, .int .i64 0, .int .i64 2, .int .i64 2]] rfl q108_ ?_; (with_reducible refine (plane_Crop.calls k t226 t227 t228 _ _ t229 1 0 2 2 t232 t233 t234 t235 true _ ?side1 ?side2 A2.out).mono ?_); (case side1 => repeat (first | exact (Kd.R_reads' HO231.out).2.2 | (with_reducible refine Kd.C_alloc ?_ _) | (with_reducible refine Kd.C_drewN ?_ _) | (with_reducible refine Kd.C_drew ?_))); (case side2 => exact (Kd.R_reads' HO231.out).2.1); rintro e w27 ⟨v236, rfl, ho0, hb⟩; refine ⟨_, rfl, ?_⟩; have n0_ := Aside0.mk (Kd.R_elder' q152_ (Kd.R_base ho0) hb); have n1_ := Aside0.mk (Kd.R_lower (Kd.R_new' ho0 (Kd.R_lt q152_)) (below_size q111_)); have n2_ := Aside0.mk (below_step q111_ hb); clear HO231; clear HB; have HO231 := n0_; have HO237 := n1_; have HB := n2_; clear n0_ n1_ n2_; (try clear hb); (try clear hb2); (try clear hk); (try clear hi); (try clear ho0)) | ((with_reducible refine gate_dst (N := 1) rfl ?_); (try (refine gate_guard (by rfl) ?_; dsimp only)); refine box_event ?hg (N := 1) ?hd (cs := #[.int .i64 0, .int .i64 0, .int .i64 0, .slice none 0 0]) (t := 26) ?hr ?_; (case hd => rfl); (case hg => rfl); (case hr => first | (go_simp; done) | (go_simp; rfl)); intro gb239 hg w28 hbox hb; have n0_ := Aside0.mk (Kd.R_below q152_ hb); have n1_ := Aside0.mk (Kd.R_below q153_ hb); have n2_ := Aside0.mk (below_step q111_ hb); have n3_ := Aside0.mk (hbox); have n4_ := Aside0.mk ((q88_ : w.heap.size ≤ gb239)); have n5_ := Aside0.mk ((q88_ : w.heap.size ≤ gb239)); clear HO231; clear HO237; clear HB; have HO231 := n0_; have HO237 := n1_; have HB := n2_; have BK239 := n3_; have GW239 := n4_; have GE239 := n5_; clear n0_ n1_ n2_ n3_ n4_ n5_; clear hb hbox hg; have hcz29_0 : w28.cell? ⟨gb239, 0, none⟩ = some (.int .i64 0) := (blk_cell BK239.out 0).trans rfl; have hcz29_1 : w28.cell? ⟨gb239, 1, none⟩ = some (.int .i64 0) := (blk_cell BK239.out 1).trans rfl; have hcz29_2 : w28.cell? ⟨gb239, 2, none⟩ = some (.int .i64 0) := (blk_cell BK239.out 2).trans rfl; have hcz29_3 : w28.cell? ⟨gb239, 3, none⟩ = some (.slice none 0 0) := (blk_cell BK239.out 3).trans rfl; have hfz29_0 := blk_frozen BK239.out 0; have hfz29_1 := blk_frozen BK239.out 1; have hfz29_2 := blk_frozen BK239.out 2; have hfz29_3 := blk_frozen BK239.out 3; obtain ⟨Ao30, co30, eo30⟩ := Kd.R_slice HO237.out; subst eo30) | ((with_reducible refine gate_callee (f := 23) rfl ?_); refine goesL_ (some 14) rfl rfl Try.func23 (by kernel_rfl) rfl #[.int .i64 3, .int .i64 1, .int .i64 5] rfl q108_ ?_; (with_reducible refine (plane_New.calls 3 1 5 t240 t241 t242 t243 true _ A3.out).mono ?_); rintro e w31 ⟨v244, rfl, ho0, hb⟩; refine ⟨_, rfl, ?_⟩; have n0_ := Aside0.mk (Kd.R_elder' (by (with_reducible repeat (first | apply Kd.R_alloc | apply Kd.R_drewN | apply Kd.R_drew)); exact (Kd.R_mono (Kd.R_far (p := ⟨gb239, 3, none⟩) (Kd.R_far (p := ⟨gb239, 2, none⟩) (Kd.R_far (p := ⟨gb239, 1, none⟩) (Kd.R_far (p := ⟨gb239, 0, none⟩) (Kd.R_types HO231.out BK239.out (by decide)) (fun _ hk => hk.2) (.int .i64 t232)) (fun _ hk => hk.2) (.int .i64 t233)) (fun _ hk => hk.2) (.int .i64 t234)) (fun _ hk => hk.2) (.slice Ao30 t235.length co30)) (fun _ h_ => h_.1))) (Kd.R_base ho0) hb); have n1_ := Aside0.mk (Kd.R_elder' (by (with_reducible repeat (first | apply Kd.R_alloc | apply Kd.R_drewN | apply Kd.R_drew)); exact (Kd.R_mono (Kd.R_far (p := ⟨gb239, 3, none⟩) (Kd.R_far (p := ⟨gb239, 2, none⟩) (Kd.R_far (p := ⟨gb239, 1, none⟩) (Kd.R_far (p := ⟨gb239, 0, none⟩) (Kd.R_types HO237.out BK239.out (by decide)) (fun _ hk => hk.2) (.int .i64 t232)) (fun _ hk => hk.2) (.int .i64 t233)) (fun _ hk => hk.2) (.int .i64 t234)) (fun _ hk => hk.2) (.slice Ao30 t235.length co30)) (fun _ h_ => h_.1))) (Kd.R_base ho0) hb); have n2_ := Aside0.mk (Kd.R_lower (Kd.R_new' (Kd.R_new' ho0 (Kd.R_lt (by (with_reducible repeat (first | apply Kd.R_alloc | apply Kd.R_drewN | apply Kd.R_drew)); exact (Kd.R_mono (Kd.R_far (p := ⟨gb239, 3, none⟩) (Kd.R_far (p := ⟨gb239, 2, none⟩) (Kd.R_far (p := ⟨gb239, 1, none⟩) (Kd.R_far (p := ⟨gb239, 0, none⟩) (Kd.R_types HO231.out BK239.out (by decide)) (fun _ hk => hk.2) (.int .i64 t232)) (fun _ hk => hk.2) (.int .i64 t233)) (fun _ hk => hk.2) (.int .i64 t234)) (fun _ hk => hk.2) (.slice Ao30 t235.length co30)) (fun _ h_ => h_.1))))) (Kd.R_lt (by (with_reducible repeat (first | apply Kd.R_alloc | apply Kd.R_drewN | apply Kd.R_drew)); exact (Kd.R_mono (Kd.R_far (p := ⟨gb239, 3, none⟩) (Kd.R_far (p := ⟨gb239, 2, none⟩) (Kd.R_far (p := ⟨gb239, 1, none⟩) (Kd.R_far (p := ⟨gb239, 0, none⟩) (Kd.R_types HO237.out BK239.out (by decide)) (fun _ hk => hk.2) (.int .i64 t232)) (fun _ hk => hk.2) (.int .i64 t233)) (fun _ hk => hk.2) (.int .i64 t234)) (fun _ hk => hk.2) (.slice Ao30 t235.length co30)) (fun _ h_ => h_.1))))) (below_size q102_)); have n3_ := Aside0.mk (blk_below (g := gb239) (o := .cells #[.int .i64 t232, .int .i64 t233, .int .i64 t234, .slice Ao30 t235.length co30] 26 (0, 0)) (by (with_reducible repeat (first | refine blk_drewN ?_ _ | refine blk_drew ?_ | refine blk_alloc ?_ _)); refine blk_put (cs := #[.int .i64 t232, .int .i64 t233, .int .i64 t234, .slice none 0 0]) ?_ 3 _ rfl; (with_reducible repeat (first | refine blk_drewN ?_ _ | refine blk_drew ?_ | refine blk_alloc ?_ _)); refine blk_put (cs := #[.int .i64 t232, .int .i64 t233, .int .i64 0, .slice none 0 0]) ?_ 2 _ rfl; (with_reducible repeat (first | refine blk_drewN ?_ _ | refine blk_drew ?_ | refine blk_alloc ?_ _)); refine blk_put (cs := #[.int .i64 t232, .int .i64 0, .int .i64 0, .slice none 0 0]) ?_ 1 _ rfl; (with_reducible repeat (first | refine blk_drewN ?_ _ | refine blk_drew ?_ | refine blk_alloc ?_ _)); refine blk_put (cs := #[.int .i64 0, .int .i64 0, .int .i64 0, .slice none 0 0]) ?_ 0 _ rfl; (with_reducible repeat (first | refine blk_drewN ?_ _ | refine blk_drew ?_ | refine blk_alloc ?_ _)); exact BK239.out) hb); have n4_ := Aside0.mk (below_step q102_ hb); clear HO231; clear HO237; clear BK239; clear HB; have HO231 := n0_; have HO237 := n1_; have HO245 := n2_; have BK239 := n3_; have HB := n4_; clear n0_ n1_ n2_ n3_ n4_; (try clear hb); (try clear hb2); (try clear hk); (try clear hi); (try clear ho0)) | ((with_reducible refine gate_dst (N := 3) rfl ?_); (try (refine gate_guard (by rfl) ?_; dsimp only)); refine box_event ?hg (N := 3) ?hd (cs := #[.int .i64 0, .int .i64 0, .int .i64 0, .slice none 0 0]) (t := 26) ?hr ?_; (case hd => rfl); (case hg => rfl); (case hr => first | (go_simp; done) | (go_simp; rfl)); intro gb247 hg w32 hbox hb; have n0_ := Aside0.mk (Kd.R_below q152_ hb); have n1_ := Aside0.mk (Kd.R_below q153_ hb); have n2_ := Aside0.mk (Kd.R_below q154_ hb); have n3_ := Aside0.mk (blk_below (g := gb239) (o := .cells #[.int .i64 t232, .int .i64 t233, .int .i64 t234, .slice Ao30 t235.length co30] 26 (0, 0)) q136_ hb); have n4_ := Aside0.mk (below_step q102_ hb); have n5_ := Aside0.mk (hbox); have n6_ := Aside0.mk ((by rw [hg]; exact (below_size q102_) : w.heap.size ≤ gb247)); have n7_ := Aside0.mk ((by rw [hg]; exact (below_size q102_) : w.heap.size ≤ gb247)); have n8_ := Aside0.mk ((q24_ : gb239 ≠ gb247)); have n9_ := Aside0.mk ((q25_ : gb247 ≠ gb239)); clear HO231; clear HO237; clear HO245; clear BK239; clear HB; have HO231 := n0_; have HO237 := n1_; have HO245 := n2_; have BK239 := n3_; have HB := n4_; have BK247 := n5_; have GW247 := n6_; have GE247 := n7_; have NB239_247 := n8_; have NB247_239 := n9_; clear n0_ n1_ n2_ n3_ n4_ n5_ n6_ n7_ n8_ n9_; clear hb hbox hg; have hnb33 := NB247_239.out; have hnc33 := NB239_247.out; have hcz34_0 : w32.cell? ⟨gb247, 0, none⟩ = some (.int .i64 0) := (blk_cell BK247.out 0).trans rfl; have hcz34_1 : w32.cell? ⟨gb247, 1, none⟩ = some (.int .i64 0) := (blk_cell BK247.out 1).trans rfl; have hcz34_2 : w32.cell? ⟨gb247, 2, none⟩ = some (.int .i64 0) := (blk_cell BK247.out 2).trans rfl; have hcz34_3 : w32.cell? ⟨gb247, 3, none⟩ = some (.slice none 0 0) := (blk_cell BK247.out 3).trans rfl; have hfz34_0 := blk_frozen BK247.out 0; have hfz34_1 := blk_frozen BK247.out 1; have hfz34_2 := blk_frozen BK247.out 2; have hfz34_3 := blk_frozen BK247.out 3; obtain ⟨Ao35, co35, eo35⟩ := Kd.R_slice HO245.out; subst eo35))
                          have n0_ : Aside0 (Kd.R (Kd.int .i64) 3 ((((w32.setCell ⟨gb247, 0, none⟩ (.int .i64 t240)).setCell ⟨gb247, 1, none⟩ (.int .i64 t241)).setCell ⟨gb247, 2, none⟩ (.int .i64 t242)).setCell ⟨gb247, 3, none⟩ (.slice Ao35 t243.length co35)) w.heap.size (fun k_ => some k_ ≠ (.slice Ao30 t235.length co30 : Value).ownBlock ∧ some k_ ≠ (.slice Ao35 t243.length co35 : Value).ownBlock) (.slice Ao26 t229.length co26) t229) := ⟨by (with_reducible repeat (first | apply Kd.R_alloc | apply Kd.R_drewN | apply Kd.R_drew)); exact Kd.R_mono (Kd.R_far (p := ⟨gb247, 3, none⟩) (Kd.R_far (p := ⟨gb247, 2, none⟩) (Kd.R_far (p := ⟨gb247, 1, none⟩) (Kd.R_far (p := ⟨gb247, 0, none⟩) (Kd.R_types HO231.out BK247.out (by decide)) (fun _ hk => hk.2) (.int .i64 t240)) (fun _ hk => hk.2) (.int .i64 t241)) (fun _ hk => hk.2) (.int .i64 t242)) (fun _ hk => hk.2) (.slice Ao35 t243.length co35)) (fun _ hk => ⟨hk.1.1.2, hk.1.2⟩)⟩
                          have n1_ : Aside0 (Kd.R (Kd.int .i64) 3 ((((w32.setCell ⟨gb247, 0, none⟩ (.int .i64 t240)).setCell ⟨gb247, 1, none⟩ (.int .i64 t241)).setCell ⟨gb247, 2, none⟩ (.int .i64 t242)).setCell ⟨gb247, 3, none⟩ (.slice Ao35 t243.length co35)) w.heap.size (fun k_ => some k_ ≠ (.slice Ao26 t229.length co26 : Value).ownBlock ∧ some k_ ≠ (.slice Ao35 t243.length co35 : Value).ownBlock) (.slice Ao30 t235.length co30) t235) := ⟨by (with_reducible repeat (first | apply Kd.R_alloc | apply Kd.R_drewN | apply Kd.R_drew)); exact Kd.R_mono (Kd.R_far (p := ⟨gb247, 3, none⟩) (Kd.R_far (p := ⟨gb247, 2, none⟩) (Kd.R_far (p := ⟨gb247, 1, none⟩) (Kd.R_far (p := ⟨gb247, 0, none⟩) (Kd.R_types HO237.out BK247.out (by decide)) (fun _ hk => hk.2) (.int .i64 t240)) (fun _ hk => hk.2) (.int .i64 t241)) (fun _ hk => hk.2) (.int .i64 t242)) (fun _ hk => hk.2) (.slice Ao35 t243.length co35)) (fun _ hk => ⟨hk.1.1.2, hk.1.2⟩)⟩
                          have n2_ : Aside0 (Kd.R (Kd.int .i64) 3 ((((w32.setCell ⟨gb247, 0, none⟩ (.int .i64 t240)).setCell ⟨gb247, 1, none⟩ (.int .i64 t241)).setCell ⟨gb247, 2, none⟩ (.int .i64 t242)).setCell ⟨gb247, 3, none⟩ (.slice Ao35 t243.length co35)) w.heap.size (fun k_ => some k_ ≠ (.slice Ao26 t229.length co26 : Value).ownBlock ∧ some k_ ≠ (.slice Ao30 t235.length co30 : Value).ownBlock) (.slice Ao35 t243.length co35) t243) := ⟨by (with_reducible repeat (first | apply Kd.R_alloc | apply Kd.R_drewN | apply Kd.R_drew)); exact Kd.R_mono (Kd.R_far (p := ⟨gb247, 3, none⟩) (Kd.R_far (p := ⟨gb247, 2, none⟩) (Kd.R_far (p := ⟨gb247, 1, none⟩) (Kd.R_far (p := ⟨gb247, 0, none⟩) (Kd.R_types HO245.out BK247.out (by decide)) (fun _ hk => hk.2) (.int .i64 t240)) (fun _ hk => hk.2) (.int .i64 t241)) (fun _ hk => hk.2) (.int .i64 t242)) (fun _ hk => hk.2) (.slice Ao35 t243.length co35)) (fun _ hk => ⟨hk.1.1.2, hk.1.2⟩)⟩
                          have n3_ : Aside0 (((((w32.setCell ⟨gb247, 0, none⟩ (.int .i64 t240)).setCell ⟨gb247, 1, none⟩ (.int .i64 t241)).setCell ⟨gb247, 2, none⟩ (.int .i64 t242)).setCell ⟨gb247, 3, none⟩ (.slice Ao35 t243.length co35)).heap[gb239]? = some (.cells #[.int .i64 t232, .int .i64 t233, .int .i64 t234, .slice Ao30 t235.length co30] 26 (0, 0))) := ⟨by (with_reducible repeat (first | refine blk_drewN ?_ _ | refine blk_drew ?_ | refine blk_alloc ?_ _)); refine blk_far ?_ NB239_247.out _; (with_reducible repeat (first | refine blk_drewN ?_ _ | refine blk_drew ?_ | refine blk_alloc ?_ _)); refine blk_far ?_ NB239_247.out _; (with_reducible repeat (first | refine blk_drewN ?_ _ | refine blk_drew ?_ | refine blk_alloc ?_ _)); refine blk_far ?_ NB239_247.out _; (with_reducible repeat (first | refine blk_drewN ?_ _ | refine blk_drew ?_ | refine blk_alloc ?_ _)); refine blk_far ?_ NB239_247.out _; (with_reducible repeat (first | refine blk_drewN ?_ _ | refine blk_drew ?_ | refine blk_alloc ?_ _)); exact BK239.out⟩
                          have n4_ : Aside0 (((((w32.setCell ⟨gb247, 0, none⟩ (.int .i64 t240)).setCell ⟨gb247, 1, none⟩ (.int .i64 t241)).setCell ⟨gb247, 2, none⟩ (.int .i64 t242)).setCell ⟨gb247, 3, none⟩ (.slice Ao35 t243.length co35)).heap[gb247]? = some (.cells #[.int .i64 t240, .int .i64 t241, .int .i64 t242, .slice Ao35 t243.length co35] 26 (0, 0))) := ⟨by (with_reducible repeat (first | refine blk_drewN ?_ _ | refine blk_drew ?_ | refine blk_alloc ?_ _)); refine blk_put (cs := #[.int .i64 t240, .int .i64 t241, .int .i64 t242, .slice none 0 0]) ?_ 3 _ rfl; (with_reducible repeat (first | refine blk_drewN ?_ _ | refine blk_drew ?_ | refine blk_alloc ?_ _)); refine blk_put (cs := #[.int .i64 t240, .int .i64 t241, .int .i64 0, .slice none 0 0]) ?_ 2 _ rfl; (with_reducible repeat (first | refine blk_drewN ?_ _ | refine blk_drew ?_ | refine blk_alloc ?_ _)); refine blk_put (cs := #[.int .i64 t240, .int .i64 0, .int .i64 0, .slice none 0 0]) ?_ 1 _ rfl; (with_reducible repeat (first | refine blk_drewN ?_ _ | refine blk_drew ?_ | refine blk_alloc ?_ _)); refine blk_put (cs := #[.int .i64 0, .int .i64 0, .int .i64 0, .slice none 0 0]) ?_ 0 _ rfl; (with_reducible repeat (first | refine blk_drewN ?_ _ | refine blk_drew ?_ | refine blk_alloc ?_ _)); exact BK247.out⟩
                          have n5_ : Aside0 (Below w.heap.size w ((((w32.setCell ⟨gb247, 0, none⟩ (.int .i64 t240)).setCell ⟨gb247, 1, none⟩ (.int .i64 t241)).setCell ⟨gb247, 2, none⟩ (.int .i64 t242)).setCell ⟨gb247, 3, none⟩ (.slice Ao35 t243.length co35))) := ⟨q77_⟩
                          (try clear HO231)
                          (try clear HO237)
                          (try clear HO245)
                          (try clear BK239)
                          (try clear BK247)
                          (try clear HB)
                          generalize ((((w32.setCell ⟨gb247, 0, none⟩ (.int .i64 t240)).setCell ⟨gb247, 1, none⟩ (.int .i64 t241)).setCell ⟨gb247, 2, none⟩ (.int .i64 t242)).setCell ⟨gb247, 3, none⟩ (.slice Ao35 t243.length co35)) = w36 at n0_ n1_ n2_ n3_ n4_ n5_ ⊢
                          have HO231 := n0_
                          have HO237 := n1_
                          have HO245 := n2_
                          have BK239 := n3_
                          have BK247 := n4_
                          have HB := n5_
                          clear n0_ n1_ n2_ n3_ n4_ n5_
                          have n0_ := Aside0.mk (Kd.R_drew HO231.out)
                          have n1_ := Aside0.mk (Kd.R_drew HO237.out)
                          have n2_ := Aside0.mk (Kd.R_drew HO245.out)
                          have n3_ := Aside0.mk (blk_drew BK239.out)
                          have n4_ := Aside0.mk (blk_drew BK247.out)
                          have n5_ := Aside0.mk (below_drew1 HB.out)
                          clear HO231
                          clear HO237
                          clear HO245
                          clear BK239
                          clear BK247
                          clear HB
                          have HO231 := n0_
                          have HO237 := n1_
                          have HO245 := n2_
                          have BK239 := n3_
                          have BK247 := n4_
                          have HB := n5_
                          clear n0_ n1_ n2_ n3_ n4_ n5_
                          refine start_ (n := 9) (S := fun w' => w'.cell? ⟨gb239, 0, none⟩ = some (.int .i64 t232) ∧ w'.cell? ⟨gb239, 1, none⟩ = some (.int .i64 t233) ∧ w'.cell? ⟨gb239, 2, none⟩ = some (.int .i64 t234) ∧ w'.cell? ⟨gb239, 3, none⟩ = some (.slice Ao30 t235.length co30)) (ds := []) #[false, false, false, false, false, false, false, false, false] (by kernel_rfl) rfl rfl ⟨(blk_cell BK239.out 0).trans rfl, (blk_cell BK239.out 1).trans rfl, (blk_cell BK239.out 2).trans rfl, (blk_cell BK239.out 3).trans rfl⟩ (fun hHeld => ?_); refine with_tabW tilefarmlaw4_sane.tab3 tilefarmlaw4_sane.bits3 (fun HT_ HW_ => ?_)
                          generalize w36.drew = w37 at HO231 HO237 HO245 BK239 BK247 HB hHeld ⊢
                          refine take_ (i := 1) (N := some 19) (v := ?_) (a' := ?_) #[false, true, false, false, false, false, false, false, false] rfl rfl (take_ofW HT_.out HW_.out (by kernel_rfl)) (fun _ _ _ h => h) (Or.inl ⟨by rfl, ?_⟩) hHeld ?_ ?_
                          rotate_left
                          · rintro w' ⟨s0, s1, s2, s3⟩
                            go_simp
                            with_reducible rfl
                          rotate_left
                          · simp only [Act.put, List.setIfInBounds_toArray, List.set_cons_zero, List.set_cons_succ, i64_w, i32_w]
                            rfl
                          refine join_ (σ := Value × Value × Nat) 2 #[true, true, true, true, true, true, true, false, false] (fun s_ => [(18, .agg #[.int .i64 t248, .int .i64 t249, .int .i64 t250, s_.1]), (20, .tuple #[.agg #[.int .i64 t254, .int .i64 t255, .int .i64 t256, s_.2.1], .bool true]), (5, .pointer (some ⟨s_.2.2, 0, none⟩)), (17, .tuple #[.agg #[.int .i64 t254, .int .i64 t255, .int .i64 t256, s_.2.1], .bool true]), (21, .agg #[.int .i64 t254, .int .i64 t255, .int .i64 t256, s_.2.1]), (22, .bool true)]) (fun s_ w' => (w'.cell? ⟨gb239, 0, none⟩ = some (.int .i64 t232) ∧ w'.cell? ⟨gb239, 1, none⟩ = some (.int .i64 t233) ∧ w'.cell? ⟨gb239, 2, none⟩ = some (.int .i64 t234) ∧ w'.cell? ⟨gb239, 3, none⟩ = some (.slice Ao30 t235.length co30)) ∧ (Kd.R (Kd.int .i64) 3 w' w.heap.size (fun k_ => some k_ ≠ (.slice Ao30 t235.length co30 : Value).ownBlock ∧ some k_ ≠ (.slice Ao35 t243.length co35 : Value).ownBlock ∧ some k_ ≠ (s_.1 : Value).ownBlock ∧ some k_ ≠ (s_.2.1 : Value).ownBlock) (.slice Ao26 t229.length co26) t229) ∧ (Kd.R (Kd.int .i64) 3 w' w.heap.size (fun k_ => some k_ ≠ (.slice Ao26 t229.length co26 : Value).ownBlock ∧ some k_ ≠ (.slice Ao35 t243.length co35 : Value).ownBlock ∧ some k_ ≠ (s_.1 : Value).ownBlock ∧ some k_ ≠ (s_.2.1 : Value).ownBlock) (.slice Ao30 t235.length co30) t235) ∧ (Kd.R (Kd.int .i64) 3 w' w.heap.size (fun k_ => some k_ ≠ (.slice Ao26 t229.length co26 : Value).ownBlock ∧ some k_ ≠ (.slice Ao30 t235.length co30 : Value).ownBlock ∧ some k_ ≠ (s_.1 : Value).ownBlock ∧ some k_ ≠ (s_.2.1 : Value).ownBlock) (.slice Ao35 t243.length co35) t243) ∧ (Kd.R (Kd.int .i64) 3 w' w.heap.size (fun k_ => some k_ ≠ (.slice Ao26 t229.length co26 : Value).ownBlock ∧ some k_ ≠ (.slice Ao30 t235.length co30 : Value).ownBlock ∧ some k_ ≠ (.slice Ao35 t243.length co35 : Value).ownBlock ∧ some k_ ≠ (s_.2.1 : Value).ownBlock) s_.1 t251) ∧ (Kd.R (Kd.int .i64) 3 w' w.heap.size (fun k_ => some k_ ≠ (.slice Ao26 t229.length co26 : Value).ownBlock ∧ some k_ ≠ (.slice Ao30 t235.length co30 : Value).ownBlock ∧ some k_ ≠ (.slice Ao35 t243.length co35 : Value).ownBlock ∧ some k_ ≠ (s_.1 : Value).ownBlock) s_.2.1 t257) ∧ (w'.heap[gb239]? = some (.cells #[.int .i64 t232, .int .i64 t233, .int .i64 t234, .slice Ao30 t235.length co30] 26 (0, 0))) ∧ (w'.heap[gb247]? = some (.cells #[.int .i64 t240, .int .i64 t241, .int .i64 t242, .slice Ao35 t243.length co35] 26 (0, 0))) ∧ (w'.heap[s_.2.2]? = some (.cells #[.int .i64 0, .int .i64 0, .int .i64 0, .slice none 0 0] 26 (0, 0))) ∧ (w.heap.size ≤ s_.2.2) ∧ (w.heap.size ≤ s_.2.2) ∧ (gb239 ≠ s_.2.2) ∧ (s_.2.2 ≠ gb239) ∧ (gb247 ≠ s_.2.2) ∧ (s_.2.2 ≠ gb247) ∧ (Below w.heap.size w w')) ?_ ?_
                          rotate_left
                          · intro hCont
                            refine two_ (i := 0) (j := 6) (Ni := some 18) (Nj := some 5) #[true, true, false, false, false, false, false, false, false] #[false, true, false, false, false, false, true, false, false] rfl rfl rfl rfl (two_of HT_.out (by kernel_rfl)) (by decide) (by decide) (fun K hK => ?_) (fun K hK => ?_)
                            · skip
                              refine goes_ Try.func41 (by kernel_rfl) rfl #[] (by rfl) rfl rfl q108_ ?_
                              with_reducible refine (tilefarmlaw4_two.calls  t248 t249 t250 t251 _ A4.out).mono ?_
                              rintro e w38 ⟨v252, rfl, ho0, hb⟩
                              refine ⟨_, rfl, ?_⟩
                              have n0_ := Aside0.mk (Kd.R_elder' q152_ (Kd.R_base ho0) hb)
                              have n1_ := Aside0.mk (Kd.R_elder' q153_ (Kd.R_base ho0) hb)
                              have n2_ := Aside0.mk (Kd.R_elder' q154_ (Kd.R_base ho0) hb)
                              have n3_ := Aside0.mk (Kd.R_lower (Kd.R_new' (Kd.R_new' (Kd.R_new' ho0 (Kd.R_lt q152_)) (Kd.R_lt q153_)) (Kd.R_lt q154_)) (below_size q77_))
                              have n4_ := Aside0.mk (blk_below (g := gb239) (o := .cells #[.int .i64 t232, .int .i64 t233, .int .i64 t234, .slice Ao30 t235.length co30] 26 (0, 0)) q136_ hb)
                              have n5_ := Aside0.mk (blk_below (g := gb247) (o := .cells #[.int .i64 t240, .int .i64 t241, .int .i64 t242, .slice Ao35 t243.length co35] 26 (0, 0)) q137_ hb)
                              have n6_ := Aside0.mk (below_step q77_ hb)
                              clear HO231
                              clear HO237
                              clear HO245
                              clear BK239
                              clear BK247
                              clear HB
                              have HO231 := n0_
                              have HO237 := n1_
                              have HO245 := n2_
                              have HO253 := n3_
                              have BK239 := n4_
                              have BK247 := n5_
                              have HB := n6_
                              clear n0_ n1_ n2_ n3_ n4_ n5_ n6_
                              (try clear hb)
                              (try clear hb2)
                              (try clear hk)
                              (try clear hi)
                              (try clear ho0)
                              obtain ⟨Ao39, co39, eo39⟩ := Kd.R_slice HO253.out
                              (first | subst eo39 | (injection eo39 with f1_ f2_ f3_; have f4_ := f1_.symm; have f5_ := f3_.symm; clear f1_ f2_ f3_; subst f4_; subst f5_))
                              refine hK.out _ _ ⟨(blk_cell BK239.out 0).trans rfl, (blk_cell BK239.out 1).trans rfl, (blk_cell BK239.out 2).trans rfl, (blk_cell BK239.out 3).trans rfl⟩ (fun hHeld => ?_)
                              clear hK K
                              refine norm_ (a' := ?_) ?_ ?_
                              rotate_left
                              · show Act.put _ (some 18) _ = _
                                simp only [Act.put, List.setIfInBounds_toArray, List.set_cons_zero, List.set_cons_succ, i64_w, i32_w]
                                rfl
                              refine two_ (i := 2) (j := 6) (Ni := some 20) (Nj := some 5) #[true, true, true, false, false, false, false, false, false] #[true, true, false, false, false, false, true, false, false] rfl rfl rfl rfl (two_of HT_.out (by kernel_rfl)) (by decide) (by decide) (fun K hK => ?_) (fun K hK => ?_)
                              · skip
                                refine goes_ Try.func14 (by kernel_rfl) rfl #[.agg #[.int .i64 t248, .int .i64 t249, .int .i64 t250, .slice Ao39 t251.length co39], .agg #[.int .i64 t232, .int .i64 t233, .int .i64 t234, .slice Ao30 t235.length co30], .int .i64 0, .int .i64 0] (by rfl) rfl rfl q108_ ?_
                                with_reducible refine (plane_Blit.calls k t248 t249 t250 _ _ t251 t232 t233 t234 _ _ t235 0 0 t254 t255 t256 t257 true _ ?side1 ?side2 ?side3 ?side4 A5.out).mono ?_
                                (case side1 => repeat (first | exact (Kd.R_reads' HO253.out).2.2 | (with_reducible refine Kd.C_alloc ?_ _) | (with_reducible refine Kd.C_drewN ?_ _) | (with_reducible refine Kd.C_drew ?_)))
                                (case side2 => exact (Kd.R_reads' HO253.out).2.1)
                                (case side3 => repeat (first | exact (Kd.R_reads' HO237.out).2.2 | (with_reducible refine Kd.C_alloc ?_ _) | (with_reducible refine Kd.C_drewN ?_ _) | (with_reducible refine Kd.C_drew ?_)))
                                (case side4 => exact (Kd.R_reads' HO237.out).2.1)
                                rintro e w40 ⟨v258, rfl, ho0, hb⟩
                                refine ⟨_, rfl, ?_⟩
                                have n0_ := Aside0.mk (Kd.R_elder' q152_ (Kd.R_base ho0) hb)
                                have n1_ := Aside0.mk (Kd.R_elder' q153_ (Kd.R_base ho0) hb)
                                have n2_ := Aside0.mk (Kd.R_elder' q154_ (Kd.R_base ho0) hb)
                                have n3_ := Aside0.mk (Kd.R_elder' q155_ (Kd.R_base ho0) hb)
                                have n4_ := Aside0.mk (Kd.R_lower (Kd.R_new' (Kd.R_new' (Kd.R_new' (Kd.R_new' ho0 (Kd.R_lt q152_)) (Kd.R_lt q153_)) (Kd.R_lt q154_)) (Kd.R_lt q155_)) (below_size q77_))
                                have n5_ := Aside0.mk (blk_below (g := gb239) (o := .cells #[.int .i64 t232, .int .i64 t233, .int .i64 t234, .slice Ao30 t235.length co30] 26 (0, 0)) q136_ hb)
                                have n6_ := Aside0.mk (blk_below (g := gb247) (o := .cells #[.int .i64 t240, .int .i64 t241, .int .i64 t242, .slice Ao35 t243.length co35] 26 (0, 0)) q137_ hb)
                                have n7_ := Aside0.mk (below_step q77_ hb)
                                clear HO231
                                clear HO237
                                clear HO245
                                clear HO253
                                clear BK239
                                clear BK247
                                clear HB
                                have HO231 := n0_
                                have HO237 := n1_
                                have HO245 := n2_
                                have HO253 := n3_
                                have HO259 := n4_
                                have BK239 := n5_
                                have BK247 := n6_
                                have HB := n7_
                                clear n0_ n1_ n2_ n3_ n4_ n5_ n6_ n7_
                                (try clear hb)
                                (try clear hb2)
                                (try clear hk)
                                (try clear hi)
                                (try clear ho0)
                                refine hK.out _ _ ⟨(blk_cell BK239.out 0).trans rfl, (blk_cell BK239.out 1).trans rfl, (blk_cell BK239.out 2).trans rfl, (blk_cell BK239.out 3).trans rfl⟩ (fun hHeld => ?_)
                                clear hK K
                                refine norm_ (a' := ?_) ?_ ?_
                                rotate_left
                                · show Act.put _ (some 20) _ = _
                                  simp only [Act.put, List.setIfInBounds_toArray, List.set_cons_zero, List.set_cons_succ, i64_w, i32_w]
                                  rfl
                                refine pure_ (i := 3) (N := some 17) (v := ?_) (a' := ?_) #[true, true, true, true, false, false, false, false, false] rfl rfl (any_of HT_.out (by kernel_rfl)) (fun _ _ _ h => h) (Or.inl ⟨by rfl, ?_⟩) ?_ ?_
                                rotate_left
                                · intro w'
                                  go_simp
                                  with_reducible rfl
                                rotate_left
                                · simp only [Act.put, List.setIfInBounds_toArray, List.set_cons_zero, List.set_cons_succ, i64_w, i32_w]
                                  rfl
                                refine pure_ (i := 4) (N := some 21) (v := ?_) (a' := ?_) #[true, true, true, true, true, false, false, false, false] rfl rfl (any_of HT_.out (by kernel_rfl)) (fun _ _ _ h => h) (Or.inl ⟨by rfl, ?_⟩) ?_ ?_
                                rotate_left
                                · intro w'
                                  go_simp
                                  with_reducible rfl
                                rotate_left
                                · simp only [Act.put, List.setIfInBounds_toArray, List.set_cons_zero, List.set_cons_succ, i64_w, i32_w]
                                  rfl
                                refine pure_ (i := 5) (N := some 22) (v := ?_) (a' := ?_) #[true, true, true, true, true, true, false, false, false] rfl rfl (any_of HT_.out (by kernel_rfl)) (fun _ _ _ h => h) (Or.inl ⟨by rfl, ?_⟩) ?_ ?_
                                rotate_left
                                · intro w'
                                  go_simp
                                  with_reducible rfl
                                rotate_left
                                · simp only [Act.put, List.setIfInBounds_toArray, List.set_cons_zero, List.set_cons_succ, i64_w, i32_w]
                                  rfl
                                refine one_ (i := 6) (N := some 5) #[true, true, true, true, true, true, true, false, false] rfl rfl (one_of HT_.out (by kernel_rfl)) (by decide) (fun K hK => ?_)
                                refine box_step ?hg (N := 5) ?hd (cs := #[.int .i64 0, .int .i64 0, .int .i64 0, .slice none 0 0]) (t := 26) ?hr ?_; (case hd => rfl); (case hg => rfl); (case hr => first | (go_simp; done) | (go_simp; rfl))
                                intro gb261 hg w41 hbox hb
                                have n0_ := Aside0.mk (Kd.R_below q152_ hb)
                                have n1_ := Aside0.mk (Kd.R_below q153_ hb)
                                have n2_ := Aside0.mk (Kd.R_below q154_ hb)
                                have n3_ := Aside0.mk (Kd.R_below q155_ hb)
                                have n4_ := Aside0.mk (Kd.R_below q156_ hb)
                                have n5_ := Aside0.mk (blk_below (g := gb239) (o := .cells #[.int .i64 t232, .int .i64 t233, .int .i64 t234, .slice Ao30 t235.length co30] 26 (0, 0)) q136_ hb)
                                have n6_ := Aside0.mk (blk_below (g := gb247) (o := .cells #[.int .i64 t240, .int .i64 t241, .int .i64 t242, .slice Ao35 t243.length co35] 26 (0, 0)) q137_ hb)
                                have n7_ := Aside0.mk (below_step q77_ hb)
                                have n8_ := Aside0.mk (hbox)
                                have n9_ := Aside0.mk ((q53_ : w.heap.size ≤ gb261))
                                have n10_ := Aside0.mk ((q53_ : w.heap.size ≤ gb261))
                                have n11_ := Aside0.mk ((q24_ : gb239 ≠ gb261))
                                have n12_ := Aside0.mk ((q25_ : gb261 ≠ gb239))
                                have n13_ := Aside0.mk ((q26_ : gb247 ≠ gb261))
                                have n14_ := Aside0.mk ((q27_ : gb261 ≠ gb247))
                                clear HO231
                                clear HO237
                                clear HO245
                                clear HO253
                                clear HO259
                                clear BK239
                                clear BK247
                                clear HB
                                have HO231 := n0_
                                have HO237 := n1_
                                have HO245 := n2_
                                have HO253 := n3_
                                have HO259 := n4_
                                have BK239 := n5_
                                have BK247 := n6_
                                have HB := n7_
                                have BK261 := n8_
                                have GW261 := n9_
                                have GE261 := n10_
                                have NB239_261 := n11_
                                have NB261_239 := n12_
                                have NB247_261 := n13_
                                have NB261_247 := n14_
                                clear n0_ n1_ n2_ n3_ n4_ n5_ n6_ n7_ n8_ n9_ n10_ n11_ n12_ n13_ n14_
                                clear hb hbox hg
                                refine hK.out _ _ ⟨(blk_cell BK239.out 0).trans rfl, (blk_cell BK239.out 1).trans rfl, (blk_cell BK239.out 2).trans rfl, (blk_cell BK239.out 3).trans rfl⟩ (fun hHeld => ?_)
                                clear hK K
                                refine norm_ (a' := ?_) ?_ ?_
                                rotate_left
                                · show Act.put _ (some 5) _ = _
                                  simp only [Act.put, List.setIfInBounds_toArray, List.set_cons_zero, List.set_cons_succ, i64_w, i32_w]
                                  rfl
                                exact norm_ q163_ (hCont (.slice Ao39 t251.length co39, v258, gb261) _ ⟨hHeld, q85_, q86_, q87_, q83_, q84_, q136_, q137_, q138_, GW261.out, GE261.out, NB239_261.out, NB261_239.out, NB247_261.out, NB261_247.out, q57_⟩)
                              · skip
                                refine box_step ?hg (N := 5) ?hd (cs := #[.int .i64 0, .int .i64 0, .int .i64 0, .slice none 0 0]) (t := 26) ?hr ?_; (case hd => rfl); (case hg => rfl); (case hr => first | (go_simp; done) | (go_simp; rfl))
                                intro gb261 hg w39 hbox hb
                                have n0_ := Aside0.mk (Kd.R_below q152_ hb)
                                have n1_ := Aside0.mk (Kd.R_below q153_ hb)
                                have n2_ := Aside0.mk (Kd.R_below q154_ hb)
                                have n3_ := Aside0.mk (Kd.R_below q155_ hb)
                                have n4_ := Aside0.mk (blk_below (g := gb239) (o := .cells #[.int .i64 t232, .int .i64 t233, .int .i64 t234, .slice Ao30 t235.length co30] 26 (0, 0)) q136_ hb)
                                have n5_ := Aside0.mk (blk_below (g := gb247) (o := .cells #[.int .i64 t240, .int .i64 t241, .int .i64 t242, .slice Ao35 t243.length co35] 26 (0, 0)) q137_ hb)
                                have n6_ := Aside0.mk (below_step q77_ hb)
                                have n7_ := Aside0.mk (hbox)
                                have n8_ := Aside0.mk ((q53_ : w.heap.size ≤ gb261))
                                have n9_ := Aside0.mk ((q53_ : w.heap.size ≤ gb261))
                                have n10_ := Aside0.mk ((q24_ : gb239 ≠ gb261))
                                have n11_ := Aside0.mk ((q25_ : gb261 ≠ gb239))
                                have n12_ := Aside0.mk ((q26_ : gb247 ≠ gb261))
                                have n13_ := Aside0.mk ((q27_ : gb261 ≠ gb247))
                                clear HO231
                                clear HO237
                                clear HO245
                                clear HO253
                                clear BK239
                                clear BK247
                                clear HB
                                have HO231 := n0_
                                have HO237 := n1_
                                have HO245 := n2_
                                have HO253 := n3_
                                have BK239 := n4_
                                have BK247 := n5_
                                have HB := n6_
                                have BK261 := n7_
                                have GW261 := n8_
                                have GE261 := n9_
                                have NB239_261 := n10_
                                have NB261_239 := n11_
                                have NB247_261 := n12_
                                have NB261_247 := n13_
                                clear n0_ n1_ n2_ n3_ n4_ n5_ n6_ n7_ n8_ n9_ n10_ n11_ n12_ n13_
                                clear hb hbox hg
                                obtain ⟨Ao40, co40, eo40⟩ := Kd.R_slice HO253.out
                                (first | subst eo40 | (injection eo40 with f1_ f2_ f3_; have f4_ := f1_.symm; have f5_ := f3_.symm; clear f1_ f2_ f3_; subst f4_; subst f5_))
                                refine hK.out _ _ ⟨(blk_cell BK239.out 0).trans rfl, (blk_cell BK239.out 1).trans rfl, (blk_cell BK239.out 2).trans rfl, (blk_cell BK239.out 3).trans rfl⟩ (fun hHeld => ?_)
                                clear hK K
                                refine norm_ (a' := ?_) ?_ ?_
                                rotate_left
                                · show Act.put _ (some 5) _ = _
                                  simp only [Act.put, List.setIfInBounds_toArray, List.set_cons_zero, List.set_cons_succ, i64_w, i32_w]
                                  rfl
                                refine one_ (i := 2) (N := some 20) #[true, true, true, false, false, false, true, false, false] rfl rfl (one_of HT_.out (by kernel_rfl)) (by decide) (fun K hK => ?_)
                                refine goes_ Try.func14 (by kernel_rfl) rfl #[.agg #[.int .i64 t248, .int .i64 t249, .int .i64 t250, .slice Ao40 t251.length co40], .agg #[.int .i64 t232, .int .i64 t233, .int .i64 t234, .slice Ao30 t235.length co30], .int .i64 0, .int .i64 0] (by rfl) rfl rfl q108_ ?_
                                with_reducible refine (plane_Blit.calls k t248 t249 t250 _ _ t251 t232 t233 t234 _ _ t235 0 0 t254 t255 t256 t257 true _ ?side1 ?side2 ?side3 ?side4 A5.out).mono ?_
                                (case side1 => repeat (first | exact (Kd.R_reads' HO253.out).2.2 | (with_reducible refine Kd.C_alloc ?_ _) | (with_reducible refine Kd.C_drewN ?_ _) | (with_reducible refine Kd.C_drew ?_)))
                                (case side2 => exact (Kd.R_reads' HO253.out).2.1)
                                (case side3 => repeat (first | exact (Kd.R_reads' HO237.out).2.2 | (with_reducible refine Kd.C_alloc ?_ _) | (with_reducible refine Kd.C_drewN ?_ _) | (with_reducible refine Kd.C_drew ?_)))
                                (case side4 => exact (Kd.R_reads' HO237.out).2.1)
                                rintro e w41 ⟨v258, rfl, ho0, hb⟩
                                refine ⟨_, rfl, ?_⟩
                                have n0_ := Aside0.mk (Kd.R_elder' q152_ (Kd.R_base ho0) hb)
                                have n1_ := Aside0.mk (Kd.R_elder' q153_ (Kd.R_base ho0) hb)
                                have n2_ := Aside0.mk (Kd.R_elder' q154_ (Kd.R_base ho0) hb)
                                have n3_ := Aside0.mk (Kd.R_elder' q155_ (Kd.R_base ho0) hb)
                                have n4_ := Aside0.mk (Kd.R_lower (Kd.R_new' (Kd.R_new' (Kd.R_new' (Kd.R_new' ho0 (Kd.R_lt q152_)) (Kd.R_lt q153_)) (Kd.R_lt q154_)) (Kd.R_lt q155_)) (below_size q57_))
                                have n5_ := Aside0.mk (blk_below (g := gb239) (o := .cells #[.int .i64 t232, .int .i64 t233, .int .i64 t234, .slice Ao30 t235.length co30] 26 (0, 0)) q136_ hb)
                                have n6_ := Aside0.mk (blk_below (g := gb247) (o := .cells #[.int .i64 t240, .int .i64 t241, .int .i64 t242, .slice Ao35 t243.length co35] 26 (0, 0)) q137_ hb)
                                have n7_ := Aside0.mk (blk_below (g := gb261) (o := .cells #[.int .i64 0, .int .i64 0, .int .i64 0, .slice none 0 0] 26 (0, 0)) q138_ hb)
                                have n8_ := Aside0.mk (below_step q57_ hb)
                                clear HO231
                                clear HO237
                                clear HO245
                                clear HO253
                                clear BK239
                                clear BK247
                                clear BK261
                                clear HB
                                have HO231 := n0_
                                have HO237 := n1_
                                have HO245 := n2_
                                have HO253 := n3_
                                have HO259 := n4_
                                have BK239 := n5_
                                have BK247 := n6_
                                have BK261 := n7_
                                have HB := n8_
                                clear n0_ n1_ n2_ n3_ n4_ n5_ n6_ n7_ n8_
                                (try clear hb)
                                (try clear hb2)
                                (try clear hk)
                                (try clear hi)
                                (try clear ho0)
                                refine hK.out _ _ ⟨(blk_cell BK239.out 0).trans rfl, (blk_cell BK239.out 1).trans rfl, (blk_cell BK239.out 2).trans rfl, (blk_cell BK239.out 3).trans rfl⟩ (fun hHeld => ?_)
                                clear hK K
                                refine norm_ (a' := ?_) ?_ ?_
                                rotate_left
                                · show Act.put _ (some 20) _ = _
                                  simp only [Act.put, List.setIfInBounds_toArray, List.set_cons_zero, List.set_cons_succ, i64_w, i32_w]
                                  rfl
                                refine pure_ (i := 3) (N := some 17) (v := ?_) (a' := ?_) #[true, true, true, true, false, false, true, false, false] rfl rfl (any_of HT_.out (by kernel_rfl)) (fun _ _ _ h => h) (Or.inl ⟨by rfl, ?_⟩) ?_ ?_
                                rotate_left
                                · intro w'
                                  go_simp
                                  with_reducible rfl
                                rotate_left
                                · simp only [Act.put, List.setIfInBounds_toArray, List.set_cons_zero, List.set_cons_succ, i64_w, i32_w]
                                  rfl
                                refine pure_ (i := 4) (N := some 21) (v := ?_) (a' := ?_) #[true, true, true, true, true, false, true, false, false] rfl rfl (any_of HT_.out (by kernel_rfl)) (fun _ _ _ h => h) (Or.inl ⟨by rfl, ?_⟩) ?_ ?_
                                rotate_left
                                · intro w'
                                  go_simp
                                  with_reducible rfl
                                rotate_left
                                · simp only [Act.put, List.setIfInBounds_toArray, List.set_cons_zero, List.set_cons_succ, i64_w, i32_w]
                                  rfl
                                refine pure_ (i := 5) (N := some 22) (v := ?_) (a' := ?_) #[true, true, true, true, true, true, true, false, false] rfl rfl (any_of HT_.out (by kernel_rfl)) (fun _ _ _ h => h) (Or.inl ⟨by rfl, ?_⟩) ?_ ?_
                                rotate_left
                                · intro w'
                                  go_simp
                                  with_reducible rfl
                                rotate_left
                                · simp only [Act.put, List.setIfInBounds_toArray, List.set_cons_zero, List.set_cons_succ, i64_w, i32_w]
                                  rfl
                                exact norm_ q163_ (hCont (.slice Ao40 t251.length co40, v258, gb261) _ ⟨hHeld, q85_, q86_, q87_, q83_, q84_, q136_, q137_, q138_, GW261.out, GE261.out, NB239_261.out, NB261_239.out, NB247_261.out, NB261_247.out, q57_⟩)
                            · skip
                              refine box_step ?hg (N := 5) ?hd (cs := #[.int .i64 0, .int .i64 0, .int .i64 0, .slice none 0 0]) (t := 26) ?hr ?_; (case hd => rfl); (case hg => rfl); (case hr => first | (go_simp; done) | (go_simp; rfl))
                              intro gb261 hg w38 hbox hb
                              have n0_ := Aside0.mk (Kd.R_below q152_ hb)
                              have n1_ := Aside0.mk (Kd.R_below q153_ hb)
                              have n2_ := Aside0.mk (Kd.R_below q154_ hb)
                              have n3_ := Aside0.mk (blk_below (g := gb239) (o := .cells #[.int .i64 t232, .int .i64 t233, .int .i64 t234, .slice Ao30 t235.length co30] 26 (0, 0)) q136_ hb)
                              have n4_ := Aside0.mk (blk_below (g := gb247) (o := .cells #[.int .i64 t240, .int .i64 t241, .int .i64 t242, .slice Ao35 t243.length co35] 26 (0, 0)) q137_ hb)
                              have n5_ := Aside0.mk (below_step q77_ hb)
                              have n6_ := Aside0.mk (hbox)
                              have n7_ := Aside0.mk ((q53_ : w.heap.size ≤ gb261))
                              have n8_ := Aside0.mk ((q53_ : w.heap.size ≤ gb261))
                              have n9_ := Aside0.mk ((q24_ : gb239 ≠ gb261))
                              have n10_ := Aside0.mk ((q25_ : gb261 ≠ gb239))
                              have n11_ := Aside0.mk ((q26_ : gb247 ≠ gb261))
                              have n12_ := Aside0.mk ((q27_ : gb261 ≠ gb247))
                              clear HO231
                              clear HO237
                              clear HO245
                              clear BK239
                              clear BK247
                              clear HB
                              have HO231 := n0_
                              have HO237 := n1_
                              have HO245 := n2_
                              have BK239 := n3_
                              have BK247 := n4_
                              have HB := n5_
                              have BK261 := n6_
                              have GW261 := n7_
                              have GE261 := n8_
                              have NB239_261 := n9_
                              have NB261_239 := n10_
                              have NB247_261 := n11_
                              have NB261_247 := n12_
                              clear n0_ n1_ n2_ n3_ n4_ n5_ n6_ n7_ n8_ n9_ n10_ n11_ n12_
                              clear hb hbox hg
                              refine hK.out _ _ ⟨(blk_cell BK239.out 0).trans rfl, (blk_cell BK239.out 1).trans rfl, (blk_cell BK239.out 2).trans rfl, (blk_cell BK239.out 3).trans rfl⟩ (fun hHeld => ?_)
                              clear hK K
                              refine norm_ (a' := ?_) ?_ ?_
                              rotate_left
                              · show Act.put _ (some 5) _ = _
                                simp only [Act.put, List.setIfInBounds_toArray, List.set_cons_zero, List.set_cons_succ, i64_w, i32_w]
                                rfl
                              refine one_ (i := 0) (N := some 18) #[true, true, false, false, false, false, true, false, false] rfl rfl (one_of HT_.out (by kernel_rfl)) (by decide) (fun K hK => ?_)
                              refine goes_ Try.func41 (by kernel_rfl) rfl #[] (by rfl) rfl rfl q108_ ?_
                              with_reducible refine (tilefarmlaw4_two.calls  t248 t249 t250 t251 _ A4.out).mono ?_
                              rintro e w39 ⟨v252, rfl, ho0, hb⟩
                              refine ⟨_, rfl, ?_⟩
                              have n0_ := Aside0.mk (Kd.R_elder' q152_ (Kd.R_base ho0) hb)
                              have n1_ := Aside0.mk (Kd.R_elder' q153_ (Kd.R_base ho0) hb)
                              have n2_ := Aside0.mk (Kd.R_elder' q154_ (Kd.R_base ho0) hb)
                              have n3_ := Aside0.mk (Kd.R_lower (Kd.R_new' (Kd.R_new' (Kd.R_new' ho0 (Kd.R_lt q152_)) (Kd.R_lt q153_)) (Kd.R_lt q154_)) (below_size q57_))
                              have n4_ := Aside0.mk (blk_below (g := gb239) (o := .cells #[.int .i64 t232, .int .i64 t233, .int .i64 t234, .slice Ao30 t235.length co30] 26 (0, 0)) q136_ hb)
                              have n5_ := Aside0.mk (blk_below (g := gb247) (o := .cells #[.int .i64 t240, .int .i64 t241, .int .i64 t242, .slice Ao35 t243.length co35] 26 (0, 0)) q137_ hb)
                              have n6_ := Aside0.mk (blk_below (g := gb261) (o := .cells #[.int .i64 0, .int .i64 0, .int .i64 0, .slice none 0 0] 26 (0, 0)) q138_ hb)
                              have n7_ := Aside0.mk (below_step q57_ hb)
                              clear HO231
                              clear HO237
                              clear HO245
                              clear BK239
                              clear BK247
                              clear BK261
                              clear HB
                              have HO231 := n0_
                              have HO237 := n1_
                              have HO245 := n2_
                              have HO253 := n3_
                              have BK239 := n4_
                              have BK247 := n5_
                              have BK261 := n6_
                              have HB := n7_
                              clear n0_ n1_ n2_ n3_ n4_ n5_ n6_ n7_
                              (try clear hb)
                              (try clear hb2)
                              (try clear hk)
                              (try clear hi)
                              (try clear ho0)
                              obtain ⟨Ao40, co40, eo40⟩ := Kd.R_slice HO253.out
                              (first | subst eo40 | (injection eo40 with f1_ f2_ f3_; have f4_ := f1_.symm; have f5_ := f3_.symm; clear f1_ f2_ f3_; subst f4_; subst f5_))
                              refine hK.out _ _ ⟨(blk_cell BK239.out 0).trans rfl, (blk_cell BK239.out 1).trans rfl, (blk_cell BK239.out 2).trans rfl, (blk_cell BK239.out 3).trans rfl⟩ (fun hHeld => ?_)
                              clear hK K
                              refine norm_ (a' := ?_) ?_ ?_
                              rotate_left
                              · show Act.put _ (some 18) _ = _
                                simp only [Act.put, List.setIfInBounds_toArray, List.set_cons_zero, List.set_cons_succ, i64_w, i32_w]
                                rfl
                              refine one_ (i := 2) (N := some 20) #[true, true, true, false, false, false, true, false, false] rfl rfl (one_of HT_.out (by kernel_rfl)) (by decide) (fun K hK => ?_)
                              refine goes_ Try.func14 (by kernel_rfl) rfl #[.agg #[.int .i64 t248, .int .i64 t249, .int .i64 t250, .slice Ao40 t251.length co40], .agg #[.int .i64 t232, .int .i64 t233, .int .i64 t234, .slice Ao30 t235.length co30], .int .i64 0, .int .i64 0] (by rfl) rfl rfl q108_ ?_
                              with_reducible refine (plane_Blit.calls k t248 t249 t250 _ _ t251 t232 t233 t234 _ _ t235 0 0 t254 t255 t256 t257 true _ ?side1 ?side2 ?side3 ?side4 A5.out).mono ?_
                              (case side1 => repeat (first | exact (Kd.R_reads' HO253.out).2.2 | (with_reducible refine Kd.C_alloc ?_ _) | (with_reducible refine Kd.C_drewN ?_ _) | (with_reducible refine Kd.C_drew ?_)))
                              (case side2 => exact (Kd.R_reads' HO253.out).2.1)
                              (case side3 => repeat (first | exact (Kd.R_reads' HO237.out).2.2 | (with_reducible refine Kd.C_alloc ?_ _) | (with_reducible refine Kd.C_drewN ?_ _) | (with_reducible refine Kd.C_drew ?_)))
                              (case side4 => exact (Kd.R_reads' HO237.out).2.1)
                              rintro e w41 ⟨v258, rfl, ho0, hb⟩
                              refine ⟨_, rfl, ?_⟩
                              have n0_ := Aside0.mk (Kd.R_elder' q152_ (Kd.R_base ho0) hb)
                              have n1_ := Aside0.mk (Kd.R_elder' q153_ (Kd.R_base ho0) hb)
                              have n2_ := Aside0.mk (Kd.R_elder' q154_ (Kd.R_base ho0) hb)
                              have n3_ := Aside0.mk (Kd.R_elder' q155_ (Kd.R_base ho0) hb)
                              have n4_ := Aside0.mk (Kd.R_lower (Kd.R_new' (Kd.R_new' (Kd.R_new' (Kd.R_new' ho0 (Kd.R_lt q152_)) (Kd.R_lt q153_)) (Kd.R_lt q154_)) (Kd.R_lt q155_)) (below_size q57_))
                              have n5_ := Aside0.mk (blk_below (g := gb239) (o := .cells #[.int .i64 t232, .int .i64 t233, .int .i64 t234, .slice Ao30 t235.length co30] 26 (0, 0)) q136_ hb)
                              have n6_ := Aside0.mk (blk_below (g := gb247) (o := .cells #[.int .i64 t240, .int .i64 t241, .int .i64 t242, .slice Ao35 t243.length co35] 26 (0, 0)) q137_ hb)
                              have n7_ := Aside0.mk (blk_below (g := gb261) (o := .cells #[.int .i64 0, .int .i64 0, .int .i64 0, .slice none 0 0] 26 (0, 0)) q138_ hb)
                              have n8_ := Aside0.mk (below_step q57_ hb)
                              clear HO231
                              clear HO237
                              clear HO245
                              clear HO253
                              clear BK239
                              clear BK247
                              clear BK261
                              clear HB
                              have HO231 := n0_
                              have HO237 := n1_
                              have HO245 := n2_
                              have HO253 := n3_
                              have HO259 := n4_
                              have BK239 := n5_
                              have BK247 := n6_
                              have BK261 := n7_
                              have HB := n8_
                              clear n0_ n1_ n2_ n3_ n4_ n5_ n6_ n7_ n8_
                              (try clear hb)
                              (try clear hb2)
                              (try clear hk)
                              (try clear hi)
                              (try clear ho0)
                              refine hK.out _ _ ⟨(blk_cell BK239.out 0).trans rfl, (blk_cell BK239.out 1).trans rfl, (blk_cell BK239.out 2).trans rfl, (blk_cell BK239.out 3).trans rfl⟩ (fun hHeld => ?_)
                              clear hK K
                              refine norm_ (a' := ?_) ?_ ?_
                              rotate_left
                              · show Act.put _ (some 20) _ = _
                                simp only [Act.put, List.setIfInBounds_toArray, List.set_cons_zero, List.set_cons_succ, i64_w, i32_w]
                                rfl
                              refine pure_ (i := 3) (N := some 17) (v := ?_) (a' := ?_) #[true, true, true, true, false, false, true, false, false] rfl rfl (any_of HT_.out (by kernel_rfl)) (fun _ _ _ h => h) (Or.inl ⟨by rfl, ?_⟩) ?_ ?_
                              rotate_left
                              · intro w'
                                go_simp
                                with_reducible rfl
                              rotate_left
                              · simp only [Act.put, List.setIfInBounds_toArray, List.set_cons_zero, List.set_cons_succ, i64_w, i32_w]
                                rfl
                              refine pure_ (i := 4) (N := some 21) (v := ?_) (a' := ?_) #[true, true, true, true, true, false, true, false, false] rfl rfl (any_of HT_.out (by kernel_rfl)) (fun _ _ _ h => h) (Or.inl ⟨by rfl, ?_⟩) ?_ ?_
                              rotate_left
                              · intro w'
                                go_simp
                                with_reducible rfl
                              rotate_left
                              · simp only [Act.put, List.setIfInBounds_toArray, List.set_cons_zero, List.set_cons_succ, i64_w, i32_w]
                                rfl
                              refine pure_ (i := 5) (N := some 22) (v := ?_) (a' := ?_) #[true, true, true, true, true, true, true, false, false] rfl rfl (any_of HT_.out (by kernel_rfl)) (fun _ _ _ h => h) (Or.inl ⟨by rfl, ?_⟩) ?_ ?_
                              rotate_left
                              · intro w'
                                go_simp
                                with_reducible rfl
                              rotate_left
                              · simp only [Act.put, List.setIfInBounds_toArray, List.set_cons_zero, List.set_cons_succ, i64_w, i32_w]
                                rfl
                              exact norm_ q163_ (hCont (.slice Ao40 t251.length co40, v258, gb261) _ ⟨hHeld, q85_, q86_, q87_, q83_, q84_, q136_, q137_, q138_, GW261.out, GE261.out, NB239_261.out, NB261_239.out, NB247_261.out, NB261_247.out, q57_⟩)
                          rintro ⟨v252, v258, gb261⟩ w42 ⟨hS_, h0_, h1_, h2_, h3_, h4_, h5_, h6_, h7_, h8_, h9_, h10_, h11_, h12_, h13_, h14_⟩
                          have n0_ : Aside0 (Kd.R (Kd.int .i64) 3 w42 w.heap.size (fun k_ => some k_ ≠ (.slice Ao30 t235.length co30 : Value).ownBlock ∧ some k_ ≠ (.slice Ao35 t243.length co35 : Value).ownBlock ∧ some k_ ≠ (v252 : Value).ownBlock ∧ some k_ ≠ (v258 : Value).ownBlock) (.slice Ao26 t229.length co26) t229) := ⟨h0_⟩
                          have n1_ : Aside0 (Kd.R (Kd.int .i64) 3 w42 w.heap.size (fun k_ => some k_ ≠ (.slice Ao26 t229.length co26 : Value).ownBlock ∧ some k_ ≠ (.slice Ao35 t243.length co35 : Value).ownBlock ∧ some k_ ≠ (v252 : Value).ownBlock ∧ some k_ ≠ (v258 : Value).ownBlock) (.slice Ao30 t235.length co30) t235) := ⟨h1_⟩
                          have n2_ : Aside0 (Kd.R (Kd.int .i64) 3 w42 w.heap.size (fun k_ => some k_ ≠ (.slice Ao26 t229.length co26 : Value).ownBlock ∧ some k_ ≠ (.slice Ao30 t235.length co30 : Value).ownBlock ∧ some k_ ≠ (v252 : Value).ownBlock ∧ some k_ ≠ (v258 : Value).ownBlock) (.slice Ao35 t243.length co35) t243) := ⟨h2_⟩
                          have n3_ : Aside0 (Kd.R (Kd.int .i64) 3 w42 w.heap.size (fun k_ => some k_ ≠ (.slice Ao26 t229.length co26 : Value).ownBlock ∧ some k_ ≠ (.slice Ao30 t235.length co30 : Value).ownBlock ∧ some k_ ≠ (.slice Ao35 t243.length co35 : Value).ownBlock ∧ some k_ ≠ (v258 : Value).ownBlock) v252 t251) := ⟨h3_⟩
                          have n4_ : Aside0 (Kd.R (Kd.int .i64) 3 w42 w.heap.size (fun k_ => some k_ ≠ (.slice Ao26 t229.length co26 : Value).ownBlock ∧ some k_ ≠ (.slice Ao30 t235.length co30 : Value).ownBlock ∧ some k_ ≠ (.slice Ao35 t243.length co35 : Value).ownBlock ∧ some k_ ≠ (v252 : Value).ownBlock) v258 t257) := ⟨h4_⟩
                          have n5_ : Aside0 (w42.heap[gb239]? = some (.cells #[.int .i64 t232, .int .i64 t233, .int .i64 t234, .slice Ao30 t235.length co30] 26 (0, 0))) := ⟨h5_⟩
                          have n6_ : Aside0 (w42.heap[gb247]? = some (.cells #[.int .i64 t240, .int .i64 t241, .int .i64 t242, .slice Ao35 t243.length co35] 26 (0, 0))) := ⟨h6_⟩
                          have n7_ : Aside0 (w42.heap[gb261]? = some (.cells #[.int .i64 0, .int .i64 0, .int .i64 0, .slice none 0 0] 26 (0, 0))) := ⟨h7_⟩
                          have n8_ : Aside0 (w.heap.size ≤ gb261) := ⟨h8_⟩
                          have n9_ : Aside0 (w.heap.size ≤ gb261) := ⟨h9_⟩
                          have n10_ : Aside0 (gb239 ≠ gb261) := ⟨h10_⟩
                          have n11_ : Aside0 (gb261 ≠ gb239) := ⟨h11_⟩
                          have n12_ : Aside0 (gb247 ≠ gb261) := ⟨h12_⟩
                          have n13_ : Aside0 (gb261 ≠ gb247) := ⟨h13_⟩
                          have n14_ : Aside0 (Below w.heap.size w w42) := ⟨h14_⟩
                          clear HO231
                          clear HO237
                          clear HO245
                          clear BK239
                          clear BK247
                          clear HB
                          clear h0_ h1_ h2_ h3_ h4_ h5_ h6_ h7_ h8_ h9_ h10_ h11_ h12_ h13_ h14_
                          have HO231 := n0_
                          have HO237 := n1_
                          have HO245 := n2_
                          have HO253 := n3_
                          have HO259 := n4_
                          have BK239 := n5_
                          have BK247 := n6_
                          have BK261 := n7_
                          have GW261 := n8_
                          have GE261 := n9_
                          have NB239_261 := n10_
                          have NB261_239 := n11_
                          have NB247_261 := n12_
                          have NB261_247 := n13_
                          have HB := n14_
                          clear n0_ n1_ n2_ n3_ n4_ n5_ n6_ n7_ n8_ n9_ n10_ n11_ n12_ n13_ n14_
                          have hHeld : w42.cell? ⟨gb239, 0, none⟩ = some (.int .i64 t232) ∧ w42.cell? ⟨gb239, 1, none⟩ = some (.int .i64 t233) ∧ w42.cell? ⟨gb239, 2, none⟩ = some (.int .i64 t234) ∧ w42.cell? ⟨gb239, 3, none⟩ = some (.slice Ao30 t235.length co30) := hS_
                          obtain ⟨Ao46, co46, eo46⟩ := Kd.R_slice HO259.out
                          (first | subst eo46 | (injection eo46 with f1_ f2_ f3_; have f4_ := f1_.symm; have f5_ := f3_.symm; clear f1_ f2_ f3_; subst f4_; subst f5_))
                          refine norm_ (a' := ?_) ?_ ?_
                          rotate_left
                          · simp only [putAll, Act.put, List.setIfInBounds_toArray, List.set_cons_zero, List.set_cons_succ]
                            rfl
                          refine one_ (i := 7) (N := none) #[true, true, true, true, true, true, true, true, false] rfl rfl (one_of HT_.out (by kernel_rfl)) (by decide) (fun K hK => ?_)
                          have hs43 : w42.cell? ⟨gb261, 0, none⟩ = some (.int .i64 0) := (blk_cell BK261.out 0).trans rfl
                          have hfs43 := blk_frozen BK261.out 0
                          have hns43_0 := NB239_261.out
                          have hns43_1 := NB247_261.out
                          have hms43_0 := NB261_239.out
                          have hms43_1 := NB261_247.out
                          have hs44 : w42.cell? ⟨gb261, 1, none⟩ = some (.int .i64 0) := (blk_cell BK261.out 1).trans rfl
                          have hfs44 := blk_frozen BK261.out 1
                          have hns44_0 := NB239_261.out
                          have hns44_1 := NB247_261.out
                          have hms44_0 := NB261_239.out
                          have hms44_1 := NB261_247.out
                          have hs45 : w42.cell? ⟨gb261, 2, none⟩ = some (.int .i64 0) := (blk_cell BK261.out 2).trans rfl
                          have hfs45 := blk_frozen BK261.out 2
                          have hns45_0 := NB239_261.out
                          have hns45_1 := NB247_261.out
                          have hms45_0 := NB261_239.out
                          have hms45_1 := NB261_247.out
                          have hs47 : w42.cell? ⟨gb261, 3, none⟩ = some (.slice none 0 0) := (blk_cell BK261.out 3).trans rfl
                          have hfs47 := blk_frozen BK261.out 3
                          have hns47_0 := NB239_261.out
                          have hns47_1 := NB247_261.out
                          have hms47_0 := NB261_239.out
                          have hms47_1 := NB261_247.out
                          refine skip_ (w1 := ?_) (by rfl) rfl ?_ ?_
                          rotate_left
                          · go_simp
                            rfl
                          refine hK.out _ _ ⟨((cell_far (p := ⟨gb261, _, none⟩) NB239_261.out _).trans (((cell_far (p := ⟨gb261, _, none⟩) NB239_261.out _).trans (((cell_far (p := ⟨gb261, _, none⟩) NB239_261.out _).trans (((cell_far (p := ⟨gb261, _, none⟩) NB239_261.out _).trans (hHeld.1)))))))), ((cell_far (p := ⟨gb261, _, none⟩) NB239_261.out _).trans (((cell_far (p := ⟨gb261, _, none⟩) NB239_261.out _).trans (((cell_far (p := ⟨gb261, _, none⟩) NB239_261.out _).trans (((cell_far (p := ⟨gb261, _, none⟩) NB239_261.out _).trans (hHeld.2.1)))))))), ((cell_far (p := ⟨gb261, _, none⟩) NB239_261.out _).trans (((cell_far (p := ⟨gb261, _, none⟩) NB239_261.out _).trans (((cell_far (p := ⟨gb261, _, none⟩) NB239_261.out _).trans (((cell_far (p := ⟨gb261, _, none⟩) NB239_261.out _).trans (hHeld.2.2.1)))))))), ((cell_far (p := ⟨gb261, _, none⟩) NB239_261.out _).trans (((cell_far (p := ⟨gb261, _, none⟩) NB239_261.out _).trans (((cell_far (p := ⟨gb261, _, none⟩) NB239_261.out _).trans (((cell_far (p := ⟨gb261, _, none⟩) NB239_261.out _).trans (hHeld.2.2.2))))))))⟩ (fun hHeld => ?_)
                          clear hK K
                          refine pure_ (i := 8) (N := some 6) (v := ?_) (a' := ?_) #[true, true, true, true, true, true, true, true, true] rfl rfl (any_of HT_.out (by kernel_rfl)) (fun _ _ _ h => h) (Or.inl ⟨by rfl, ?_⟩) ?_ ?_
                          rotate_left
                          · intro w'
                            go_simp
                            with_reducible rfl
                          rotate_left
                          · simp only [Act.put, List.setIfInBounds_toArray, List.set_cons_zero, List.set_cons_succ, i64_w, i32_w]
                            rfl
                          refine done_ (done_of HT_.out (by kernel_rfl)) ?_
                          have hnb48 := NB239_261.out
                          have hnc48 := NB261_239.out
                          have hcz49_0 : w42.cell? ⟨gb239, 0, none⟩ = some (.int .i64 t232) := (blk_cell BK239.out 0).trans rfl
                          have hcz49_1 : w42.cell? ⟨gb239, 1, none⟩ = some (.int .i64 t233) := (blk_cell BK239.out 1).trans rfl
                          have hcz49_2 : w42.cell? ⟨gb239, 2, none⟩ = some (.int .i64 t234) := (blk_cell BK239.out 2).trans rfl
                          have hcz49_3 : w42.cell? ⟨gb239, 3, none⟩ = some (.slice Ao30 t235.length co30) := (blk_cell BK239.out 3).trans rfl
                          have hfz49_0 := blk_frozen BK239.out 0
                          have hfz49_1 := blk_frozen BK239.out 1
                          have hfz49_2 := blk_frozen BK239.out 2
                          have hfz49_3 := blk_frozen BK239.out 3
                          have p262 : 0 ≤ (1 : Int) := (by omega)
                          have q262 : 1 < (t235.length : Int) := of_decide_eq_true q166_
                          obtain ⟨ad262, e262, hx262_0⟩ := Kd.at_int (Kd.R_reads' HO237.out).2.2 1 p262 q262
                          cases e262
                          (try simp only [show (1 : Int).toNat = 1 from rfl, Nat.reduceMul, Nat.reduceEqDiff, Go.Addr.add, ↓reduceIte] at hx262_0)
                          have qi262 : (1 < t235.length) = True := eq_true (by omega)
                          (try rw [show ((1 : Int)).toNat = 1 from rfl] at hx262_0)
                          have hn262_0 : ad262.block ≠ gb261 := Kd.own_blk (Kd.R_ne HO237.out BK261.out (by decide))
                          have hn262_1 : ad262.block ≠ gb261 := Kd.own_blk (Kd.R_ne HO237.out BK261.out (by decide))
                          have hn262_2 : ad262.block ≠ gb261 := Kd.own_blk (Kd.R_ne HO237.out BK261.out (by decide))
                          have hn262_3 : ad262.block ≠ gb261 := Kd.own_blk (Kd.R_ne HO237.out BK261.out (by decide))
                          replace hx262_0 := (cell_far (p := ⟨gb261, 0, none⟩) (by first | (rw [add_block]; exact hn262_0) | (show (Addr.add _ _).block ≠ _; rw [add_block]; exact hn262_0) | exact hn262_0) (.int .i64 t254)).trans hx262_0
                          replace hx262_0 := (cell_far (p := ⟨gb261, 1, none⟩) (by first | (rw [add_block]; exact hn262_1) | (show (Addr.add _ _).block ≠ _; rw [add_block]; exact hn262_1) | exact hn262_1) (.int .i64 t255)).trans hx262_0
                          replace hx262_0 := (cell_far (p := ⟨gb261, 2, none⟩) (by first | (rw [add_block]; exact hn262_2) | (show (Addr.add _ _).block ≠ _; rw [add_block]; exact hn262_2) | exact hn262_2) (.int .i64 t256)).trans hx262_0
                          replace hx262_0 := (cell_far (p := ⟨gb261, 3, none⟩) (by first | (rw [add_block]; exact hn262_3) | (show (Addr.add _ _).block ≠ _; rw [add_block]; exact hn262_3) | exact hn262_3) (.slice Ao46 t257.length co46)).trans hx262_0
                          clear hn262_0
                          clear hn262_1
                          clear hn262_2
                          clear hn262_3
                          replace p262 := eq_true p262
                          replace q262 := eq_true q262
                          have hnb50 := NB247_261.out
                          have hnc50 := NB261_247.out
                          have hcz51_0 : w42.cell? ⟨gb247, 0, none⟩ = some (.int .i64 t240) := (blk_cell BK247.out 0).trans rfl
                          have hcz51_1 : w42.cell? ⟨gb247, 1, none⟩ = some (.int .i64 t241) := (blk_cell BK247.out 1).trans rfl
                          have hcz51_2 : w42.cell? ⟨gb247, 2, none⟩ = some (.int .i64 t242) := (blk_cell BK247.out 2).trans rfl
                          have hcz51_3 : w42.cell? ⟨gb247, 3, none⟩ = some (.slice Ao35 t243.length co35) := (blk_cell BK247.out 3).trans rfl
                          have hfz51_0 := blk_frozen BK247.out 0
                          have hfz51_1 := blk_frozen BK247.out 1
                          have hfz51_2 := blk_frozen BK247.out 2
                          have hfz51_3 := blk_frozen BK247.out 3
                          have hcz52_0 : w42.cell? ⟨gb261, 0, none⟩ = some (.int .i64 0) := (blk_cell BK261.out 0).trans rfl
                          have hcz52_1 : w42.cell? ⟨gb261, 1, none⟩ = some (.int .i64 0) := (blk_cell BK261.out 1).trans rfl
                          have hcz52_2 : w42.cell? ⟨gb261, 2, none⟩ = some (.int .i64 0) := (blk_cell BK261.out 2).trans rfl
                          have hcz52_3 : w42.cell? ⟨gb261, 3, none⟩ = some (.slice none 0 0) := (blk_cell BK261.out 3).trans rfl
                          have hfz52_0 := blk_frozen BK261.out 0
                          have hfz52_1 := blk_frozen BK261.out 1
                          have hfz52_2 := blk_frozen BK261.out 2
                          have hfz52_3 := blk_frozen BK261.out 3
                          have p263 : 0 ≤ (0 : Int) := (by omega)
                          have q263 : 0 < (t257.length : Int) := of_decide_eq_true q166_
                          obtain ⟨ad263, e263, hx263_0⟩ := Kd.at_int (Kd.R_reads' HO259.out).2.2 0 p263 q263
                          cases e263
                          have qi263 : (0 < t257.length) = True := eq_true (by omega)
                          (try rw [show ((0 : Int)).toNat = 0 from rfl] at hx263_0)
                          (try rw [Addr.add_zero'] at hx263_0)
                          have hn263_0 : ad263.block ≠ gb261 := Kd.own_blk (Kd.R_ne HO259.out BK261.out (by decide))
                          have hn263_1 : ad263.block ≠ gb261 := Kd.own_blk (Kd.R_ne HO259.out BK261.out (by decide))
                          have hn263_2 : ad263.block ≠ gb261 := Kd.own_blk (Kd.R_ne HO259.out BK261.out (by decide))
                          have hn263_3 : ad263.block ≠ gb261 := Kd.own_blk (Kd.R_ne HO259.out BK261.out (by decide))
                          replace hx263_0 := (cell_far (p := ⟨gb261, 0, none⟩) (by first | (rw [add_block]; exact hn263_0) | (show (Addr.add _ _).block ≠ _; rw [add_block]; exact hn263_0) | exact hn263_0) (.int .i64 t254)).trans hx263_0
                          replace hx263_0 := (cell_far (p := ⟨gb261, 1, none⟩) (by first | (rw [add_block]; exact hn263_1) | (show (Addr.add _ _).block ≠ _; rw [add_block]; exact hn263_1) | exact hn263_1) (.int .i64 t255)).trans hx263_0
                          replace hx263_0 := (cell_far (p := ⟨gb261, 2, none⟩) (by first | (rw [add_block]; exact hn263_2) | (show (Addr.add _ _).block ≠ _; rw [add_block]; exact hn263_2) | exact hn263_2) (.int .i64 t256)).trans hx263_0
                          replace hx263_0 := (cell_far (p := ⟨gb261, 3, none⟩) (by first | (rw [add_block]; exact hn263_3) | (show (Addr.add _ _).block ≠ _; rw [add_block]; exact hn263_3) | exact hn263_3) (.slice (some ad263) t257.length co46)).trans hx263_0
                          clear hn263_0
                          clear hn263_1
                          clear hn263_2
                          clear hn263_3
                          replace p263 := eq_true p263
                          replace q263 := eq_true q263
                          have mk1_ : True := trivial
                          have mk2_ : True := trivial
                          have mk3_ : True := trivial
                          have mk4_ : True := trivial
                          try go_wp2_with (first | (go_at_call 41; clear mk1_; (with_reducible refine (tilefarmlaw4_two.calls  t264 t265 t266 t267 _ A16.out).mono ?_); rintro e w53 ⟨v268, rfl, ho0, hb⟩; have n0_ := Aside0.mk (Kd.R_elder' (by (with_reducible repeat (first | apply Kd.R_alloc | apply Kd.R_drewN | apply Kd.R_drew)); exact (Kd.R_mono (Kd.R_far (p := ⟨gb261, 3, none⟩) (Kd.R_far (p := ⟨gb261, 2, none⟩) (Kd.R_far (p := ⟨gb261, 1, none⟩) (Kd.R_far (p := ⟨gb261, 0, none⟩) (Kd.R_types HO231.out BK261.out (by decide)) (fun _ hk => hk.2) (.int .i64 t254)) (fun _ hk => hk.2) (.int .i64 t255)) (fun _ hk => hk.2) (.int .i64 t256)) (fun _ hk => hk.2) (.slice (some ad263) t257.length co46)) (fun _ h_ => h_.1))) (Kd.R_base ho0) hb); have n1_ := Aside0.mk (Kd.R_elder' (by (with_reducible repeat (first | apply Kd.R_alloc | apply Kd.R_drewN | apply Kd.R_drew)); exact (Kd.R_mono (Kd.R_far (p := ⟨gb261, 3, none⟩) (Kd.R_far (p := ⟨gb261, 2, none⟩) (Kd.R_far (p := ⟨gb261, 1, none⟩) (Kd.R_far (p := ⟨gb261, 0, none⟩) (Kd.R_types HO237.out BK261.out (by decide)) (fun _ hk => hk.2) (.int .i64 t254)) (fun _ hk => hk.2) (.int .i64 t255)) (fun _ hk => hk.2) (.int .i64 t256)) (fun _ hk => hk.2) (.slice (some ad263) t257.length co46)) (fun _ h_ => h_.1))) (Kd.R_base ho0) hb); have n2_ := Aside0.mk (Kd.R_elder' (by (with_reducible repeat (first | apply Kd.R_alloc | apply Kd.R_drewN | apply Kd.R_drew)); exact (Kd.R_mono (Kd.R_far (p := ⟨gb261, 3, none⟩) (Kd.R_far (p := ⟨gb261, 2, none⟩) (Kd.R_far (p := ⟨gb261, 1, none⟩) (Kd.R_far (p := ⟨gb261, 0, none⟩) (Kd.R_types HO245.out BK261.out (by decide)) (fun _ hk => hk.2) (.int .i64 t254)) (fun _ hk => hk.2) (.int .i64 t255)) (fun _ hk => hk.2) (.int .i64 t256)) (fun _ hk => hk.2) (.slice (some ad263) t257.length co46)) (fun _ h_ => h_.1))) (Kd.R_base ho0) hb); have n3_ := Aside0.mk (Kd.R_elder' (by (with_reducible repeat (first | apply Kd.R_alloc | apply Kd.R_drewN | apply Kd.R_drew)); exact (Kd.R_mono (Kd.R_far (p := ⟨gb261, 3, none⟩) (Kd.R_far (p := ⟨gb261, 2, none⟩) (Kd.R_far (p := ⟨gb261, 1, none⟩) (Kd.R_far (p := ⟨gb261, 0, none⟩) (Kd.R_types HO253.out BK261.out (by decide)) (fun _ hk => hk.2) (.int .i64 t254)) (fun _ hk => hk.2) (.int .i64 t255)) (fun _ hk => hk.2) (.int .i64 t256)) (fun _ hk => hk.2) (.slice (some ad263) t257.length co46)) (fun _ h_ => h_.1))) (Kd.R_base ho0) hb); have n4_ := Aside0.mk (Kd.R_elder' (by (with_reducible repeat (first | apply Kd.R_alloc | apply Kd.R_drewN | apply Kd.R_drew)); exact (Kd.R_mono (Kd.R_far (p := ⟨gb261, 3, none⟩) (Kd.R_far (p := ⟨gb261, 2, none⟩) (Kd.R_far (p := ⟨gb261, 1, none⟩) (Kd.R_far (p := ⟨gb261, 0, none⟩) (Kd.R_types HO259.out BK261.out (by decide)) (fun _ hk => hk.2) (.int .i64 t254)) (fun _ hk => hk.2) (.int .i64 t255)) (fun _ hk => hk.2) (.int .i64 t256)) (fun _ hk => hk.2) (.slice (some ad263) t257.length co46)) (fun _ h_ => h_.1))) (Kd.R_base ho0) hb); have n5_ := Aside0.mk (Kd.R_lower (Kd.R_new' (Kd.R_new' (Kd.R_new' (Kd.R_new' (Kd.R_new' ho0 (Kd.R_lt (by (with_reducible repeat (first | apply Kd.R_alloc | apply Kd.R_drewN | apply Kd.R_drew)); exact (Kd.R_mono (Kd.R_far (p := ⟨gb261, 3, none⟩) (Kd.R_far (p := ⟨gb261, 2, none⟩) (Kd.R_far (p := ⟨gb261, 1, none⟩) (Kd.R_far (p := ⟨gb261, 0, none⟩) (Kd.R_types HO231.out BK261.out (by decide)) (fun _ hk => hk.2) (.int .i64 t254)) (fun _ hk => hk.2) (.int .i64 t255)) (fun _ hk => hk.2) (.int .i64 t256)) (fun _ hk => hk.2) (.slice (some ad263) t257.length co46)) (fun _ h_ => h_.1))))) (Kd.R_lt (by (with_reducible repeat (first | apply Kd.R_alloc | apply Kd.R_drewN | apply Kd.R_drew)); exact (Kd.R_mono (Kd.R_far (p := ⟨gb261, 3, none⟩) (Kd.R_far (p := ⟨gb261, 2, none⟩) (Kd.R_far (p := ⟨gb261, 1, none⟩) (Kd.R_far (p := ⟨gb261, 0, none⟩) (Kd.R_types HO237.out BK261.out (by decide)) (fun _ hk => hk.2) (.int .i64 t254)) (fun _ hk => hk.2) (.int .i64 t255)) (fun _ hk => hk.2) (.int .i64 t256)) (fun _ hk => hk.2) (.slice (some ad263) t257.length co46)) (fun _ h_ => h_.1))))) (Kd.R_lt (by (with_reducible repeat (first | apply Kd.R_alloc | apply Kd.R_drewN | apply Kd.R_drew)); exact (Kd.R_mono (Kd.R_far (p := ⟨gb261, 3, none⟩) (Kd.R_far (p := ⟨gb261, 2, none⟩) (Kd.R_far (p := ⟨gb261, 1, none⟩) (Kd.R_far (p := ⟨gb261, 0, none⟩) (Kd.R_types HO245.out BK261.out (by decide)) (fun _ hk => hk.2) (.int .i64 t254)) (fun _ hk => hk.2) (.int .i64 t255)) (fun _ hk => hk.2) (.int .i64 t256)) (fun _ hk => hk.2) (.slice (some ad263) t257.length co46)) (fun _ h_ => h_.1))))) (Kd.R_lt (by (with_reducible repeat (first | apply Kd.R_alloc | apply Kd.R_drewN | apply Kd.R_drew)); exact (Kd.R_mono (Kd.R_far (p := ⟨gb261, 3, none⟩) (Kd.R_far (p := ⟨gb261, 2, none⟩) (Kd.R_far (p := ⟨gb261, 1, none⟩) (Kd.R_far (p := ⟨gb261, 0, none⟩) (Kd.R_types HO253.out BK261.out (by decide)) (fun _ hk => hk.2) (.int .i64 t254)) (fun _ hk => hk.2) (.int .i64 t255)) (fun _ hk => hk.2) (.int .i64 t256)) (fun _ hk => hk.2) (.slice (some ad263) t257.length co46)) (fun _ h_ => h_.1))))) (Kd.R_lt (by (with_reducible repeat (first | apply Kd.R_alloc | apply Kd.R_drewN | apply Kd.R_drew)); exact (Kd.R_mono (Kd.R_far (p := ⟨gb261, 3, none⟩) (Kd.R_far (p := ⟨gb261, 2, none⟩) (Kd.R_far (p := ⟨gb261, 1, none⟩) (Kd.R_far (p := ⟨gb261, 0, none⟩) (Kd.R_types HO259.out BK261.out (by decide)) (fun _ hk => hk.2) (.int .i64 t254)) (fun _ hk => hk.2) (.int .i64 t255)) (fun _ hk => hk.2) (.int .i64 t256)) (fun _ hk => hk.2) (.slice (some ad263) t257.length co46)) (fun _ h_ => h_.1))))) (below_size q57_)); have n6_ := Aside0.mk (blk_below (g := gb239) (o := .cells #[.int .i64 t232, .int .i64 t233, .int .i64 t234, .slice (some ad262) t235.length co30] 26 (0, 0)) (by (with_reducible repeat (first | refine blk_drewN ?_ _ | refine blk_drew ?_ | refine blk_alloc ?_ _)); refine blk_far ?_ NB239_261.out _; (with_reducible repeat (first | refine blk_drewN ?_ _ | refine blk_drew ?_ | refine blk_alloc ?_ _)); refine blk_far ?_ NB239_261.out _; (with_reducible repeat (first | refine blk_drewN ?_ _ | refine blk_drew ?_ | refine blk_alloc ?_ _)); refine blk_far ?_ NB239_261.out _; (with_reducible repeat (first | refine blk_drewN ?_ _ | refine blk_drew ?_ | refine blk_alloc ?_ _)); refine blk_far ?_ NB239_261.out _; (with_reducible repeat (first | refine blk_drewN ?_ _ | refine blk_drew ?_ | refine blk_alloc ?_ _)); exact BK239.out) hb); have n7_ := Aside0.mk (blk_below (g := gb247) (o := .cells #[.int .i64 t240, .int .i64 t241, .int .i64 t242, .slice Ao35 t243.length co35] 26 (0, 0)) (by (with_reducible repeat (first | refine blk_drewN ?_ _ | refine blk_drew ?_ | refine blk_alloc ?_ _)); refine blk_far ?_ NB247_261.out _; (with_reducible repeat (first | refine blk_drewN ?_ _ | refine blk_drew ?_ | refine blk_alloc ?_ _)); refine blk_far ?_ NB247_261.out _; (with_reducible repeat (first | refine blk_drewN ?_ _ | refine blk_drew ?_ | refine blk_alloc ?_ _)); refine blk_far ?_ NB247_261.out _; (with_reducible repeat (first | refine blk_drewN ?_ _ | refine blk_drew ?_ | refine blk_alloc ?_ _)); refine blk_far ?_ NB247_261.out _; (with_reducible repeat (first | refine blk_drewN ?_ _ | refine blk_drew ?_ | refine blk_alloc ?_ _)); exact BK247.out) hb); have n8_ := Aside0.mk (blk_below (g := gb261) (o := .cells #[.int .i64 t254, .int .i64 t255, .int .i64 t256, .slice (some ad263) t257.length co46] 26 (0, 0)) (by (with_reducible repeat (first | refine blk_drewN ?_ _ | refine blk_drew ?_ | refine blk_alloc ?_ _)); refine blk_put (cs := #[.int .i64 t254, .int .i64 t255, .int .i64 t256, .slice none 0 0]) ?_ 3 _ rfl; (with_reducible repeat (first | refine blk_drewN ?_ _ | refine blk_drew ?_ | refine blk_alloc ?_ _)); refine blk_put (cs := #[.int .i64 t254, .int .i64 t255, .int .i64 0, .slice none 0 0]) ?_ 2 _ rfl; (with_reducible repeat (first | refine blk_drewN ?_ _ | refine blk_drew ?_ | refine blk_alloc ?_ _)); refine blk_put (cs := #[.int .i64 t254, .int .i64 0, .int .i64 0, .slice none 0 0]) ?_ 1 _ rfl; (with_reducible repeat (first | refine blk_drewN ?_ _ | refine blk_drew ?_ | refine blk_alloc ?_ _)); refine blk_put (cs := #[.int .i64 0, .int .i64 0, .int .i64 0, .slice none 0 0]) ?_ 0 _ rfl; (with_reducible repeat (first | refine blk_drewN ?_ _ | refine blk_drew ?_ | refine blk_alloc ?_ _)); exact BK261.out) hb); have n9_ := Aside0.mk (below_step q57_ hb); clear HO231; clear HO237; clear HO245; clear HO253; clear HO259; clear BK239; clear BK247; clear BK261; clear HB; have HO231 := n0_; have HO237 := n1_; have HO245 := n2_; have HO253 := n3_; have HO259 := n4_; have HO269 := n5_; have BK239 := n6_; have BK247 := n7_; have BK261 := n8_; have HB := n9_; clear n0_ n1_ n2_ n3_ n4_ n5_ n6_ n7_ n8_ n9_; (try clear hb); (try clear hb2); (try clear hk); (try clear hi); (try clear ho0); obtain ⟨Ao54, co54, eo54⟩ := Kd.R_slice HO269.out; subst eo54) | (go_at_call 26; (with_reducible refine (plane_At.calls k t264 t265 t266 _ _ t267 1 0 (-1) 5 t270 _ ?side1 ?side2 A17.out).mono ?_); (case side1 => repeat (first | exact (Kd.R_reads' HO269.out).2.2 | (with_reducible refine Kd.C_alloc ?_ _) | (with_reducible refine Kd.C_drewN ?_ _) | (with_reducible refine Kd.C_drew ?_))); (case side2 => exact (Kd.R_reads' HO269.out).2.1); rintro e w55 ⟨rfl, hb⟩; have n0_ := Aside0.mk (Kd.R_below q152_ hb); have n1_ := Aside0.mk (Kd.R_below q153_ hb); have n2_ := Aside0.mk (Kd.R_below q154_ hb); have n3_ := Aside0.mk (Kd.R_below q155_ hb); have n4_ := Aside0.mk (Kd.R_below q156_ hb); have n5_ := Aside0.mk (Kd.R_below q157_ hb); have n6_ := Aside0.mk (blk_below (g := gb239) (o := .cells #[.int .i64 t232, .int .i64 t233, .int .i64 t234, .slice (some ad262) t235.length co30] 26 (0, 0)) q136_ hb); have n7_ := Aside0.mk (blk_below (g := gb247) (o := .cells #[.int .i64 t240, .int .i64 t241, .int .i64 t242, .slice Ao35 t243.length co35] 26 (0, 0)) q137_ hb); have n8_ := Aside0.mk (blk_below (g := gb261) (o := .cells #[.int .i64 t254, .int .i64 t255, .int .i64 t256, .slice (some ad263) t257.length co46] 26 (0, 0)) q138_ hb); have n9_ := Aside0.mk (below_step q57_ hb); clear HO231; clear HO237; clear HO245; clear HO253; clear HO259; clear HO269; clear BK239; clear BK247; clear BK261; clear HB; have HO231 := n0_; have HO237 := n1_; have HO245 := n2_; have HO253 := n3_; have HO259 := n4_; have HO269 := n5_; have BK239 := n6_; have BK247 := n7_; have BK261 := n8_; have HB := n9_; clear n0_ n1_ n2_ n3_ n4_ n5_ n6_ n7_ n8_ n9_; (try clear hb); (try clear hb2); (try clear hk); (try clear hi)) | (go_at_call 41; clear mk2_; (with_reducible refine (tilefarmlaw4_two.calls  t271 t272 t273 t274 _ A19.out).mono ?_); rintro e w56 ⟨v275, rfl, ho0, hb⟩; have n0_ := Aside0.mk (Kd.R_elder' q152_ (Kd.R_base ho0) hb); have n1_ := Aside0.mk (Kd.R_elder' q153_ (Kd.R_base ho0) hb); have n2_ := Aside0.mk (Kd.R_elder' q154_ (Kd.R_base ho0) hb); have n3_ := Aside0.mk (Kd.R_elder' q155_ (Kd.R_base ho0) hb); have n4_ := Aside0.mk (Kd.R_elder' q156_ (Kd.R_base ho0) hb); have n5_ := Aside0.mk (Kd.R_elder' q157_ (Kd.R_base ho0) hb); have n6_ := Aside0.mk (Kd.R_lower (Kd.R_new' (Kd.R_new' (Kd.R_new' (Kd.R_new' (Kd.R_new' (Kd.R_new' ho0 (Kd.R_lt q152_)) (Kd.R_lt q153_)) (Kd.R_lt q154_)) (Kd.R_lt q155_)) (Kd.R_lt q156_)) (Kd.R_lt q157_)) (below_size q57_)); have n7_ := Aside0.mk (blk_below (g := gb239) (o := .cells #[.int .i64 t232, .int .i64 t233, .int .i64 t234, .slice (some ad262) t235.length co30] 26 (0, 0)) q136_ hb); have n8_ := Aside0.mk (blk_below (g := gb247) (o := .cells #[.int .i64 t240, .int .i64 t241, .int .i64 t242, .slice Ao35 t243.length co35] 26 (0, 0)) q137_ hb); have n9_ := Aside0.mk (blk_below (g := gb261) (o := .cells #[.int .i64 t254, .int .i64 t255, .int .i64 t256, .slice (some ad263) t257.length co46] 26 (0, 0)) q138_ hb); have n10_ := Aside0.mk (below_step q57_ hb); clear HO231; clear HO237; clear HO245; clear HO253; clear HO259; clear HO269; clear BK239; clear BK247; clear BK261; clear HB; have HO231 := n0_; have HO237 := n1_; have HO245 := n2_; have HO253 := n3_; have HO259 := n4_; have HO269 := n5_; have HO276 := n6_; have BK239 := n7_; have BK247 := n8_; have BK261 := n9_; have HB := n10_; clear n0_ n1_ n2_ n3_ n4_ n5_ n6_ n7_ n8_ n9_ n10_; (try clear hb); (try clear hb2); (try clear hk); (try clear hi); (try clear ho0); obtain ⟨Ao57, co57, eo57⟩ := Kd.R_slice HO276.out; subst eo57) | (go_at_call 17; (with_reducible refine (plane_Valid.calls k t271 t272 t273 _ _ t274 true _ ?side1 ?side2 A20.out).mono ?_); (case side1 => repeat (first | exact (Kd.R_reads' HO276.out).2.2 | (with_reducible refine Kd.C_alloc ?_ _) | (with_reducible refine Kd.C_drewN ?_ _) | (with_reducible refine Kd.C_drew ?_))); (case side2 => exact (Kd.R_reads' HO276.out).2.1); rintro e w58 ⟨rfl, hb⟩; have n0_ := Aside0.mk (Kd.R_below q152_ hb); have n1_ := Aside0.mk (Kd.R_below q153_ hb); have n2_ := Aside0.mk (Kd.R_below q154_ hb); have n3_ := Aside0.mk (Kd.R_below q155_ hb); have n4_ := Aside0.mk (Kd.R_below q156_ hb); have n5_ := Aside0.mk (Kd.R_below q157_ hb); have n6_ := Aside0.mk (Kd.R_below q158_ hb); have n7_ := Aside0.mk (blk_below (g := gb239) (o := .cells #[.int .i64 t232, .int .i64 t233, .int .i64 t234, .slice (some ad262) t235.length co30] 26 (0, 0)) q136_ hb); have n8_ := Aside0.mk (blk_below (g := gb247) (o := .cells #[.int .i64 t240, .int .i64 t241, .int .i64 t242, .slice Ao35 t243.length co35] 26 (0, 0)) q137_ hb); have n9_ := Aside0.mk (blk_below (g := gb261) (o := .cells #[.int .i64 t254, .int .i64 t255, .int .i64 t256, .slice (some ad263) t257.length co46] 26 (0, 0)) q138_ hb); have n10_ := Aside0.mk (below_step q57_ hb); clear HO231; clear HO237; clear HO245; clear HO253; clear HO259; clear HO269; clear HO276; clear BK239; clear BK247; clear BK261; clear HB; have HO231 := n0_; have HO237 := n1_; have HO245 := n2_; have HO253 := n3_; have HO259 := n4_; have HO269 := n5_; have HO276 := n6_; have BK239 := n7_; have BK247 := n8_; have BK261 := n9_; have HB := n10_; clear n0_ n1_ n2_ n3_ n4_ n5_ n6_ n7_ n8_ n9_ n10_; (try clear hb); (try clear hb2); (try clear hk); (try clear hi)) | (go_at_call 41; clear mk3_; (with_reducible refine (tilefarmlaw4_two.calls  t278 t279 t280 t281 _ A22.out).mono ?_); rintro e w59 ⟨v282, rfl, ho0, hb⟩; have n0_ := Aside0.mk (Kd.R_elder' q152_ (Kd.R_base ho0) hb); have n1_ := Aside0.mk (Kd.R_elder' q153_ (Kd.R_base ho0) hb); have n2_ := Aside0.mk (Kd.R_elder' q154_ (Kd.R_base ho0) hb); have n3_ := Aside0.mk (Kd.R_elder' q155_ (Kd.R_base ho0) hb); have n4_ := Aside0.mk (Kd.R_elder' q156_ (Kd.R_base ho0) hb); have n5_ := Aside0.mk (Kd.R_elder' q157_ (Kd.R_base ho0) hb); have n6_ := Aside0.mk (Kd.R_elder' q158_ (Kd.R_base ho0) hb); have n7_ := Aside0.mk (Kd.R_lower (Kd.R_new' (Kd.R_new' (Kd.R_new' (Kd.R_new' (Kd.R_new' (Kd.R_new' (Kd.R_new' ho0 (Kd.R_lt q152_)) (Kd.R_lt q153_)) (Kd.R_lt q154_)) (Kd.R_lt q155_)) (Kd.R_lt q156_)) (Kd.R_lt q157_)) (Kd.R_lt q158_)) (below_size q57_)); have n8_ := Aside0.mk (blk_below (g := gb239) (o := .cells #[.int .i64 t232, .int .i64 t233, .int .i64 t234, .slice (some ad262) t235.length co30] 26 (0, 0)) q136_ hb); have n9_ := Aside0.mk (blk_below (g := gb247) (o := .cells #[.int .i64 t240, .int .i64 t241, .int .i64 t242, .slice Ao35 t243.length co35] 26 (0, 0)) q137_ hb); have n10_ := Aside0.mk (blk_below (g := gb261) (o := .cells #[.int .i64 t254, .int .i64 t255, .int .i64 t256, .slice (some ad263) t257.length co46] 26 (0, 0)) q138_ hb); have n11_ := Aside0.mk (below_step q57_ hb); clear HO231; clear HO237; clear HO245; clear HO253; clear HO259; clear HO269; clear HO276; clear BK239; clear BK247; clear BK261; clear HB; have HO231 := n0_; have HO237 := n1_; have HO245 := n2_; have HO253 := n3_; have HO259 := n4_; have HO269 := n5_; have HO276 := n6_; have HO283 := n7_; have BK239 := n8_; have BK247 := n9_; have BK261 := n10_; have HB := n11_; clear n0_ n1_ n2_ n3_ n4_ n5_ n6_ n7_ n8_ n9_ n10_ n11_; (try clear hb); (try clear hb2); (try clear hk); (try clear hi); (try clear ho0)) | (go_at_call 41; clear mk4_; (with_reducible refine (tilefarmlaw4_two.calls  t284 t285 t286 t287 _ A23.out).mono ?_); rintro e w60 ⟨v288, rfl, ho0, hb⟩; have n0_ := Aside0.mk (Kd.R_elder' q152_ (Kd.R_base ho0) hb); have n1_ := Aside0.mk (Kd.R_elder' q153_ (Kd.R_base ho0) hb); have n2_ := Aside0.mk (Kd.R_elder' q154_ (Kd.R_base ho0) hb); have n3_ := Aside0.mk (Kd.R_elder' q155_ (Kd.R_base ho0) hb); have n4_ := Aside0.mk (Kd.R_elder' q156_ (Kd.R_base ho0) hb); have n5_ := Aside0.mk (Kd.R_elder' q157_ (Kd.R_base ho0) hb); have n6_ := Aside0.mk (Kd.R_elder' q158_ (Kd.R_base ho0) hb); have n7_ := Aside0.mk (Kd.R_elder' q159_ (Kd.R_base ho0) hb); have n8_ := Aside0.mk (Kd.R_lower (Kd.R_new' (Kd.R_new' (Kd.R_new' (Kd.R_new' (Kd.R_new' (Kd.R_new' (Kd.R_new' (Kd.R_new' ho0 (Kd.R_lt q152_)) (Kd.R_lt q153_)) (Kd.R_lt q154_)) (Kd.R_lt q155_)) (Kd.R_lt q156_)) (Kd.R_lt q157_)) (Kd.R_lt q158_)) (Kd.R_lt q159_)) (below_size q57_)); have n9_ := Aside0.mk (blk_below (g := gb239) (o := .cells #[.int .i64 t232, .int .i64 t233, .int .i64 t234, .slice (some ad262) t235.length co30] 26 (0, 0)) q136_ hb); have n10_ := Aside0.mk (blk_below (g := gb247) (o := .cells #[.int .i64 t240, .int .i64 t241, .int .i64 t242, .slice Ao35 t243.length co35] 26 (0, 0)) q137_ hb); have n11_ := Aside0.mk (blk_below (g := gb261) (o := .cells #[.int .i64 t254, .int .i64 t255, .int .i64 t256, .slice (some ad263) t257.length co46] 26 (0, 0)) q138_ hb); have n12_ := Aside0.mk (below_step q57_ hb); clear HO231; clear HO237; clear HO245; clear HO253; clear HO259; clear HO269; clear HO276; clear HO283; clear BK239; clear BK247; clear BK261; clear HB; have HO231 := n0_; have HO237 := n1_; have HO245 := n2_; have HO253 := n3_; have HO259 := n4_; have HO269 := n5_; have HO276 := n6_; have HO283 := n7_; have HO289 := n8_; have BK239 := n9_; have BK247 := n10_; have BK261 := n11_; have HB := n12_; clear n0_ n1_ n2_ n3_ n4_ n5_ n6_ n7_ n8_ n9_ n10_ n11_ n12_; (try clear hb); (try clear hb2); (try clear hk); (try clear hi); (try clear ho0); obtain ⟨Ao61, co61, eo61⟩ := Kd.R_slice HO283.out; subst eo61; obtain ⟨Ao62, co62, eo62⟩ := Kd.R_slice HO289.out; subst eo62) | (go_at_call 15; (with_reducible refine (plane_Equal.calls k t278 t279 t280 _ _ t281 t284 t285 t286 _ _ t287 t290 _ ?side1 ?side2 ?side3 ?side4 A24.out).mono ?_); (case side1 => repeat (first | exact (Kd.R_reads' HO283.out).2.2 | (with_reducible refine Kd.C_alloc ?_ _) | (with_reducible refine Kd.C_drewN ?_ _) | (with_reducible refine Kd.C_drew ?_))); (case side2 => exact (Kd.R_reads' HO283.out).2.1); (case side3 => repeat (first | exact (Kd.R_reads' HO289.out).2.2 | (with_reducible refine Kd.C_alloc ?_ _) | (with_reducible refine Kd.C_drewN ?_ _) | (with_reducible refine Kd.C_drew ?_))); (case side4 => exact (Kd.R_reads' HO289.out).2.1); rintro e w63 ⟨rfl, hb⟩; have n0_ := Aside0.mk (Kd.R_below q152_ hb); have n1_ := Aside0.mk (Kd.R_below q153_ hb); have n2_ := Aside0.mk (Kd.R_below q154_ hb); have n3_ := Aside0.mk (Kd.R_below q155_ hb); have n4_ := Aside0.mk (Kd.R_below q156_ hb); have n5_ := Aside0.mk (Kd.R_below q157_ hb); have n6_ := Aside0.mk (Kd.R_below q158_ hb); have n7_ := Aside0.mk (Kd.R_below q159_ hb); have n8_ := Aside0.mk (Kd.R_below (by (with_reducible repeat (first | apply Kd.R_alloc | apply Kd.R_drewN | apply Kd.R_drew)); exact HO289.out) hb); have n9_ := Aside0.mk (blk_below (g := gb239) (o := .cells #[.int .i64 t232, .int .i64 t233, .int .i64 t234, .slice (some ad262) t235.length co30] 26 (0, 0)) q136_ hb); have n10_ := Aside0.mk (blk_below (g := gb247) (o := .cells #[.int .i64 t240, .int .i64 t241, .int .i64 t242, .slice Ao35 t243.length co35] 26 (0, 0)) q137_ hb); have n11_ := Aside0.mk (blk_below (g := gb261) (o := .cells #[.int .i64 t254, .int .i64 t255, .int .i64 t256, .slice (some ad263) t257.length co46] 26 (0, 0)) q138_ hb); have n12_ := Aside0.mk (below_step q57_ hb); clear HO231; clear HO237; clear HO245; clear HO253; clear HO259; clear HO269; clear HO276; clear HO283; clear HO289; clear BK239; clear BK247; clear BK261; clear HB; have HO231 := n0_; have HO237 := n1_; have HO245 := n2_; have HO253 := n3_; have HO259 := n4_; have HO269 := n5_; have HO276 := n6_; have HO283 := n7_; have HO289 := n8_; have BK239 := n9_; have BK247 := n10_; have BK261 := n11_; have HB := n12_; clear n0_ n1_ n2_ n3_ n4_ n5_ n6_ n7_ n8_ n9_ n10_ n11_ n12_; (try clear hb); (try clear hb2); (try clear hk); (try clear hi)))
                          go_ret
                          exact ⟨q164_, q57_⟩
                        · replace c21 := Bool.eq_false_iff.mpr c21
                          subst c21
                          have H1 : (some false) = some r := by rw [if_neg (show ¬ (false = true) by decide)] at H; exact H
                          clear H
                          have H := H1
                          clear H1
                          exact absurd ((Option.some.inj H).trans HT.out) (by decide)
                      · rw [if_neg c18] at H
                        have c18b0 : (t270 == 3) = false := beq_eq_false_iff_ne.mpr c18
                        have c18b1 : (t270 != 3) = true := bne_iff_ne.mpr c18
                        exact absurd ((Option.some.inj H).trans HT.out) (by decide)
                    · rw [if_neg c15] at H
                      have c15b0 : ((rd t257 0) == 2) = false := beq_eq_false_iff_ne.mpr c15
                      have c15b1 : ((rd t257 0) != 2) = true := bne_iff_ne.mpr c15
                      exact absurd ((Option.some.inj H).trans HT.out) (by decide)
                  · rw [if_neg c14] at H
                    exact absurd H (by simp)
                · rw [if_neg c13] at H
                  have c13b0 : ((t257.length : Int) == 4) = false := beq_eq_false_iff_ne.mpr c13
                  have c13b1 : ((t257.length : Int) != 4) = true := bne_iff_ne.mpr c13
                  exact absurd ((Option.some.inj H).trans HT.out) (by decide)
              · replace c12 := Bool.eq_false_iff.mpr c12
                subst c12
                have H1 : (some false) = some r := by rw [if_neg (show ¬ (false = true) by decide)] at H; exact H
                clear H
                have H := H1
                clear H1
                exact absurd ((Option.some.inj H).trans HT.out) (by decide)
            · rw [if_neg c11] at H
              have c11b0 : ((t243.length : Int) == 3) = false := beq_eq_false_iff_ne.mpr c11
              have c11b1 : ((t243.length : Int) != 3) = true := bne_iff_ne.mpr c11
              exact absurd ((Option.some.inj H).trans HT.out) (by decide)
          · replace c10 := Bool.eq_false_iff.mpr c10
            subst c10
            have H1 : (some false) = some r := by rw [if_neg (show ¬ (false = true) by decide)] at H; exact H
            clear H
            have H := H1
            clear H1
            exact absurd ((Option.some.inj H).trans HT.out) (by decide)
        · rw [if_neg c9] at H
          have c9b0 : ((rd t235 1) == 4) = false := beq_eq_false_iff_ne.mpr c9
          have c9b1 : ((rd t235 1) != 4) = true := bne_iff_ne.mpr c9
          exact absurd ((Option.some.inj H).trans HT.out) (by decide)
      · rw [if_neg c8] at H
        exact absurd H (by simp)
    · rw [if_neg c7] at H
      have c7b0 : ((t235.length : Int) == 2) = false := beq_eq_false_iff_ne.mpr c7
      have c7b1 : ((t235.length : Int) != 2) = true := bne_iff_ne.mpr c7
      exact absurd ((Option.some.inj H).trans HT.out) (by decide)
  · replace c6 := Bool.eq_false_iff.mpr c6
    subst c6
    have H1 : (some false) = some r := by rw [if_neg (show ¬ (false = true) by decide)] at H; exact H
    clear H
    have H := H1
    clear H1
    exact absurd ((Option.some.inj H).trans HT.out) (by decide)

end Go.Proofs.Ytgkccacenlcebaa.PPlaneBlits
