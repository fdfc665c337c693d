-- Written by a program of the session (wip/tools/pack.py): the printed texts, pruned; checked by Lean.
import Derived.Test.YtgkccacenlcebaaKPlaneReadsa
import Derived.Test.YtgkccacenlcebaaKPlaneReadsx0
import Derived.Test.YtgkccacenlcebaaKPlaneReadsx2
import Derived.Test.YtgkccacenlcebaaKPlaneReadsx4
import Derived.Test.YtgkccacenlcebaaKPlaneReadsx6
import Derived.Test.YtgkccacenlcebaaKPlaneReadsx7
namespace Go.Proofs.Ytgkccacenlcebaa.PPlaneReads
open Go.RowKit Go.Proofs.YtgkccacenlcebaaW.PrintWords Go.Proofs.YtgkccacenlcebaaW.PrintLast Go.Proofs.YtgkccacenlcebaaW.PrintMore
attribute [local go_sem] max2_int min2_int max_two min_two max_three min_three max_four min_four   -- for this text's walks alone
set_option linter.unusedVariables false
set_option linter.unusedSimpArgs false
def tilefarmlaw4_sane.f (k : Nat)  : Option (Bool) := (tilefarmlaw4_two.f).bind fun bt193 => ((plane_Crop.f k bt193.1 bt193.2.1 bt193.2.2.1 bt193.2.2.2 1 0 2 2).bind fun bt199 => ((plane_New.f 3 1 5).bind fun bt207 => ((tilefarmlaw4_two.f).bind fun bt215 => ((plane_Blit.f k bt215.1 bt215.2.1 bt215.2.2.1 bt215.2.2.2 bt199.1 bt199.2.1 bt199.2.2.1 bt199.2.2.2.1 0 0).bind fun bt221 => (if bt199.2.2.2.2 = true then (if (bt199.2.2.2.1.length : Int) = 2 then (if 1 < (bt199.2.2.2.1.length : Int) then (if (rd bt199.2.2.2.1 1) = 4 then (if bt207.2.2.2.2 = true then (if (bt207.2.2.2.1.length : Int) = 3 then (if bt221.2.2.2.2 = true then (if (bt221.2.2.2.1.length : Int) = 4 then (if 0 < (bt221.2.2.2.1.length : Int) then (if (rd bt221.2.2.2.1 0) = 2 then ((tilefarmlaw4_two.f).bind fun bt231 => ((plane_At.f k bt231.1 bt231.2.1 bt231.2.2.1 bt231.2.2.2 1 0 (-1) 5).bind fun t237 => (if t237 = 3 then ((tilefarmlaw4_two.f).bind fun bt238 => ((plane_Valid.f k bt238.1 bt238.2.1 bt238.2.2.1 bt238.2.2.2).bind fun t244 => (if t244 = true then ((tilefarmlaw4_two.f).bind fun bt245 => ((tilefarmlaw4_two.f).bind fun bt251 => ((plane_Equal.f k bt245.1 bt245.2.1 bt245.2.2.1 bt245.2.2.2 bt251.1 bt251.2.1 bt251.2.2.1 bt251.2.2.2).bind fun t257 => (some t257)))) else (some false)))) else (some false)))) else (some false)) else (none)) else (some false)) else (some false)) else (some false)) else (some false)) else (some false)) else (none)) else (some false)) else (some false))))))
theorem tilefarmlaw4_sane.mono : ∀ k, LeO (tilefarmlaw4_sane.f k ) (tilefarmlaw4_sane.f (k + 1) ) := by
  intro  k
  unfold tilefarmlaw4_sane.f
  repeat' first
      | (with_reducible exact plane_At.mono _ _ _ _ _ _ _ _ _)
      | (with_reducible exact plane_Blit.mono _ _ _ _ _ _ _ _ _ _ _)
      | (with_reducible exact plane_Crop.mono _ _ _ _ _ _ _ _ _)
      | (with_reducible exact plane_Equal.mono _ _ _ _ _ _ _ _ _)
      | (with_reducible exact plane_Valid.mono _ _ _ _ _)
      | (with_reducible exact LeO.refl _)
      | (with_reducible exact LeO.none _)
      | (with_reducible refine LeO.ite ?_ ?_)
      | (with_reducible refine LeO.bind ?_ (fun _ => ?_))
      | exact plane_At.mono _ _ _ _ _ _ _ _ _
      | exact plane_Blit.mono _ _ _ _ _ _ _ _ _ _ _
      | exact plane_Crop.mono _ _ _ _ _ _ _ _ _
      | exact plane_Equal.mono _ _ _ _ _ _ _ _ _
      | exact plane_Valid.mono _ _ _ _ _
      | exact LeO.none _
      | refine LeO.ite ?_ ?_
      | refine LeO.bind ?_ (fun _ => ?_)
def tilefarmlaw4_sane.T3 : Bool × List (List Nat × List Nat) := (true, [([], []), ([], []), ([0, 1, 0], [0, 1]), ([2], [2]), ([3], [3]), ([3], [3]), ([], []), ([6, 4, 2, 0, 1, 2, 3, 4, 6], [4, 6]), ([5, 7, 0, 1, 2, 3, 4, 5, 6, 7], [5])])
def tilefarmlaw4_sane.B3 : List Nat := [0, 0, 3, 7, 15, 15, 0, 95, 255]
theorem tilefarmlaw4_sane.tab3 : rtab .any (opsOf Try.f18 3) = tilefarmlaw4_sane.T3 := by kernel_rfl
theorem tilefarmlaw4_sane.bits3 : waitsOk tilefarmlaw4_sane.T3.2 tilefarmlaw4_sane.B3 = true := by kernel_rfl
set_option maxHeartbeats 8000000 in
set_option maxRecDepth 100000 in
theorem tilefarmlaw4_sane.calls (k : Nat)  (r : Bool) (w : World) (h : tilefarmlaw4_sane.f k  = some r) (hT : r = true := by first | rfl | assumption | exact HT.out) :
    Calls Try.prog 18 #[] w fun e w' => e = .returned (.bool r) ∧ Below w.heap.size w w' := by
  have HT := Aside0.mk hT
  clear hT
  have hu31 := Try.underlying31
  have hu26 := Try.underlying26
  have hu45 := Try.underlying45
  have HB := Aside0.mk (Below.refl w.heap.size w)
  have H : ((tilefarmlaw4_two.f).bind fun bt193 => ((plane_Crop.f k bt193.1 bt193.2.1 bt193.2.2.1 bt193.2.2.2 1 0 2 2).bind fun bt199 => ((plane_New.f 3 1 5).bind fun bt207 => ((tilefarmlaw4_two.f).bind fun bt215 => ((plane_Blit.f k bt215.1 bt215.2.1 bt215.2.2.1 bt215.2.2.2 bt199.1 bt199.2.1 bt199.2.2.1 bt199.2.2.2.1 0 0).bind fun bt221 => (if bt199.2.2.2.2 = true then (if (bt199.2.2.2.1.length : Int) = 2 then (if 1 < (bt199.2.2.2.1.length : Int) then (if (rd bt199.2.2.2.1 1) = 4 then (if bt207.2.2.2.2 = true then (if (bt207.2.2.2.1.length : Int) = 3 then (if bt221.2.2.2.2 = true then (if (bt221.2.2.2.1.length : Int) = 4 then (if 0 < (bt221.2.2.2.1.length : Int) then (if (rd bt221.2.2.2.1 0) = 2 then ((tilefarmlaw4_two.f).bind fun bt231 => ((plane_At.f k bt231.1 bt231.2.1 bt231.2.2.1 bt231.2.2.2 1 0 (-1) 5).bind fun t237 => (if t237 = 3 then ((tilefarmlaw4_two.f).bind fun bt238 => ((plane_Valid.f k bt238.1 bt238.2.1 bt238.2.2.1 bt238.2.2.2).bind fun t244 => (if t244 = true then ((tilefarmlaw4_two.f).bind fun bt245 => ((tilefarmlaw4_two.f).bind fun bt251 => ((plane_Equal.f k bt245.1 bt245.2.1 bt245.2.2.1 bt245.2.2.2 bt251.1 bt251.2.1 bt251.2.2.1 bt251.2.2.2).bind fun t257 => (some t257)))) else (some false)))) else (some false)))) else (some false)) else (none)) else (some false)) else (some false)) else (some false)) else (some false)) else (some false)) else (none)) else (some false)) else (some false))))))) = some r := h
  clear h
  replace H := Option.bind_eq_some_iff.mp H
  obtain ⟨⟨t193, t194, t195, t196⟩, A10, H⟩ := H
  replace H : ((plane_Crop.f k t193 t194 t195 t196 1 0 2 2).bind fun bt199 => ((plane_New.f 3 1 5).bind fun bt207 => ((tilefarmlaw4_two.f).bind fun bt215 => ((plane_Blit.f k bt215.1 bt215.2.1 bt215.2.2.1 bt215.2.2.2 bt199.1 bt199.2.1 bt199.2.2.1 bt199.2.2.2.1 0 0).bind fun bt221 => (if bt199.2.2.2.2 = true then (if (bt199.2.2.2.1.length : Int) = 2 then (if 1 < (bt199.2.2.2.1.length : Int) then (if (rd bt199.2.2.2.1 1) = 4 then (if bt207.2.2.2.2 = true then (if (bt207.2.2.2.1.length : Int) = 3 then (if bt221.2.2.2.2 = true then (if (bt221.2.2.2.1.length : Int) = 4 then (if 0 < (bt221.2.2.2.1.length : Int) then (if (rd bt221.2.2.2.1 0) = 2 then ((tilefarmlaw4_two.f).bind fun bt231 => ((plane_At.f k bt231.1 bt231.2.1 bt231.2.2.1 bt231.2.2.2 1 0 (-1) 5).bind fun t237 => (if t237 = 3 then ((tilefarmlaw4_two.f).bind fun bt238 => ((plane_Valid.f k bt238.1 bt238.2.1 bt238.2.2.1 bt238.2.2.2).bind fun t244 => (if t244 = true then ((tilefarmlaw4_two.f).bind fun bt245 => ((tilefarmlaw4_two.f).bind fun bt251 => ((plane_Equal.f k bt245.1 bt245.2.1 bt245.2.2.1 bt245.2.2.2 bt251.1 bt251.2.1 bt251.2.2.1 bt251.2.2.2).bind fun t257 => (some t257)))) else (some false)))) else (some false)))) else (some false)) else (none)) else (some false)) else (some false)) else (some false)) else (some false)) else (some false)) else (none)) else (some false)) else (some false)))))) = some r := H
  have A1 := Aside0.mk A10
  clear A10
  replace H := Option.bind_eq_some_iff.mp H
  obtain ⟨⟨t199, t200, t201, t202, t205⟩, A20, H⟩ := H
  replace H : ((plane_New.f 3 1 5).bind fun bt207 => ((tilefarmlaw4_two.f).bind fun bt215 => ((plane_Blit.f k bt215.1 bt215.2.1 bt215.2.2.1 bt215.2.2.2 t199 t200 t201 t202 0 0).bind fun bt221 => (if t205 = true then (if (t202.length : Int) = 2 then (if 1 < (t202.length : Int) then (if (rd t202 1) = 4 then (if bt207.2.2.2.2 = true then (if (bt207.2.2.2.1.length : Int) = 3 then (if bt221.2.2.2.2 = true then (if (bt221.2.2.2.1.length : Int) = 4 then (if 0 < (bt221.2.2.2.1.length : Int) then (if (rd bt221.2.2.2.1 0) = 2 then ((tilefarmlaw4_two.f).bind fun bt231 => ((plane_At.f k bt231.1 bt231.2.1 bt231.2.2.1 bt231.2.2.2 1 0 (-1) 5).bind fun t237 => (if t237 = 3 then ((tilefarmlaw4_two.f).bind fun bt238 => ((plane_Valid.f k bt238.1 bt238.2.1 bt238.2.2.1 bt238.2.2.2).bind fun t244 => (if t244 = true then ((tilefarmlaw4_two.f).bind fun bt245 => ((tilefarmlaw4_two.f).bind fun bt251 => ((plane_Equal.f k bt245.1 bt245.2.1 bt245.2.2.1 bt245.2.2.2 bt251.1 bt251.2.1 bt251.2.2.1 bt251.2.2.2).bind fun t257 => (some t257)))) else (some false)))) else (some false)))) else (some false)) else (none)) else (some false)) else (some false)) else (some false)) else (some false)) else (some false)) else (none)) else (some false)) else (some false))))) = some r := H
  have A2 := Aside0.mk A20
  clear A20
  replace H := Option.bind_eq_some_iff.mp H
  obtain ⟨⟨t207, t208, t209, t210, t213⟩, A30, H⟩ := H
  replace H : ((tilefarmlaw4_two.f).bind fun bt215 => ((plane_Blit.f k bt215.1 bt215.2.1 bt215.2.2.1 bt215.2.2.2 t199 t200 t201 t202 0 0).bind fun bt221 => (if t205 = true then (if (t202.length : Int) = 2 then (if 1 < (t202.length : Int) then (if (rd t202 1) = 4 then (if t213 = true then (if (t210.length : Int) = 3 then (if bt221.2.2.2.2 = true then (if (bt221.2.2.2.1.length : Int) = 4 then (if 0 < (bt221.2.2.2.1.length : Int) then (if (rd bt221.2.2.2.1 0) = 2 then ((tilefarmlaw4_two.f).bind fun bt231 => ((plane_At.f k bt231.1 bt231.2.1 bt231.2.2.1 bt231.2.2.2 1 0 (-1) 5).bind fun t237 => (if t237 = 3 then ((tilefarmlaw4_two.f).bind fun bt238 => ((plane_Valid.f k bt238.1 bt238.2.1 bt238.2.2.1 bt238.2.2.2).bind fun t244 => (if t244 = true then ((tilefarmlaw4_two.f).bind fun bt245 => ((tilefarmlaw4_two.f).bind fun bt251 => ((plane_Equal.f k bt245.1 bt245.2.1 bt245.2.2.1 bt245.2.2.2 bt251.1 bt251.2.1 bt251.2.2.1 bt251.2.2.2).bind fun t257 => (some t257)))) else (some false)))) else (some false)))) else (some false)) else (none)) else (some false)) else (some false)) else (some false)) else (some false)) else (some false)) else (none)) else (some false)) else (some false)))) = some r := H
  have A3 := Aside0.mk A30
  clear A30
  replace H := Option.bind_eq_some_iff.mp H
  obtain ⟨⟨t215, t216, t217, t218⟩, A40, H⟩ := H
  replace H : ((plane_Blit.f k t215 t216 t217 t218 t199 t200 t201 t202 0 0).bind fun bt221 => (if t205 = true then (if (t202.length : Int) = 2 then (if 1 < (t202.length : Int) then (if (rd t202 1) = 4 then (if t213 = true then (if (t210.length : Int) = 3 then (if bt221.2.2.2.2 = true then (if (bt221.2.2.2.1.length : Int) = 4 then (if 0 < (bt221.2.2.2.1.length : Int) then (if (rd bt221.2.2.2.1 0) = 2 then ((tilefarmlaw4_two.f).bind fun bt231 => ((plane_At.f k bt231.1 bt231.2.1 bt231.2.2.1 bt231.2.2.2 1 0 (-1) 5).bind fun t237 => (if t237 = 3 then ((tilefarmlaw4_two.f).bind fun bt238 => ((plane_Valid.f k bt238.1 bt238.2.1 bt238.2.2.1 bt238.2.2.2).bind fun t244 => (if t244 = true then ((tilefarmlaw4_two.f).bind fun bt245 => ((tilefarmlaw4_two.f).bind fun bt251 => ((plane_Equal.f k bt245.1 bt245.2.1 bt245.2.2.1 bt245.2.2.2 bt251.1 bt251.2.1 bt251.2.2.1 bt251.2.2.2).bind fun t257 => (some t257)))) else (some false)))) else (some false)))) else (some false)) else (none)) else (some false)) else (some false)) else (some false)) else (some false)) else (some false)) else (none)) else (some false)) else (some false))) = some r := H
  have A4 := Aside0.mk A40
  clear A40
  replace H := Option.bind_eq_some_iff.mp H
  obtain ⟨⟨t221, t222, t223, t224, t227⟩, A50, H⟩ := H
  replace H : (if t205 = true then (if (t202.length : Int) = 2 then (if 1 < (t202.length : Int) then (if (rd t202 1) = 4 then (if t213 = true then (if (t210.length : Int) = 3 then (if t227 = true then (if (t224.length : Int) = 4 then (if 0 < (t224.length : Int) then (if (rd t224 0) = 2 then ((tilefarmlaw4_two.f).bind fun bt231 => ((plane_At.f k bt231.1 bt231.2.1 bt231.2.2.1 bt231.2.2.2 1 0 (-1) 5).bind fun t237 => (if t237 = 3 then ((tilefarmlaw4_two.f).bind fun bt238 => ((plane_Valid.f k bt238.1 bt238.2.1 bt238.2.2.1 bt238.2.2.2).bind fun t244 => (if t244 = true then ((tilefarmlaw4_two.f).bind fun bt245 => ((tilefarmlaw4_two.f).bind fun bt251 => ((plane_Equal.f k bt245.1 bt245.2.1 bt245.2.2.1 bt245.2.2.2 bt251.1 bt251.2.1 bt251.2.2.1 bt251.2.2.2).bind fun t257 => (some t257)))) else (some false)))) else (some false)))) else (some false)) else (none)) else (some false)) else (some false)) else (some false)) else (some false)) else (some false)) else (none)) else (some false)) else (some false)) = some r := H
  have A5 := Aside0.mk A50
  clear A50
  by_cases c6 : t205 = true
  · subst c6
    have H1 : (if (t202.length : Int) = 2 then (if 1 < (t202.length : Int) then (if (rd t202 1) = 4 then (if t213 = true then (if (t210.length : Int) = 3 then (if t227 = true then (if (t224.length : Int) = 4 then (if 0 < (t224.length : Int) then (if (rd t224 0) = 2 then ((tilefarmlaw4_two.f).bind fun bt231 => ((plane_At.f k bt231.1 bt231.2.1 bt231.2.2.1 bt231.2.2.2 1 0 (-1) 5).bind fun t237 => (if t237 = 3 then ((tilefarmlaw4_two.f).bind fun bt238 => ((plane_Valid.f k bt238.1 bt238.2.1 bt238.2.2.1 bt238.2.2.2).bind fun t244 => (if t244 = true then ((tilefarmlaw4_two.f).bind fun bt245 => ((tilefarmlaw4_two.f).bind fun bt251 => ((plane_Equal.f k bt245.1 bt245.2.1 bt245.2.2.1 bt245.2.2.2 bt251.1 bt251.2.1 bt251.2.2.1 bt251.2.2.2).bind fun t257 => (some t257)))) else (some false)))) else (some false)))) else (some false)) else (none)) else (some false)) else (some false)) else (some false)) else (some false)) else (some false)) else (none)) else (some false)) = some r := by rw [if_pos rfl] at H; exact H
    clear H
    have H := H1
    clear H1
    by_cases c7 : (t202.length : Int) = 2
    · rw [if_pos c7] at H
      have c7b0 : ((t202.length : Int) == 2) = true := beq_iff_eq.mpr c7
      have c7b1 : ((t202.length : Int) != 2) = false := bne_eq_false_iff_eq.mpr c7
      clear c7
      by_cases c8 : 1 < (t202.length : Int)
      · rw [if_pos c8] at H
        have c8b0 : decide (1 < (t202.length : Int)) = true := decide_eq_true c8
        have c8b1 : decide (1 < t202.length) = true := decide_eq_true (by omega)
        clear c8
        by_cases c9 : (rd t202 1) = 4
        · rw [if_pos c9] at H
          have c9b0 : ((rd t202 1) == 4) = true := beq_iff_eq.mpr c9
          have c9b1 : ((rd t202 1) != 4) = false := bne_eq_false_iff_eq.mpr c9
          clear c9
          by_cases c10 : t213 = true
          · subst c10
            have H1 : (if (t210.length : Int) = 3 then (if t227 = true then (if (t224.length : Int) = 4 then (if 0 < (t224.length : Int) then (if (rd t224 0) = 2 then ((tilefarmlaw4_two.f).bind fun bt231 => ((plane_At.f k bt231.1 bt231.2.1 bt231.2.2.1 bt231.2.2.2 1 0 (-1) 5).bind fun t237 => (if t237 = 3 then ((tilefarmlaw4_two.f).bind fun bt238 => ((plane_Valid.f k bt238.1 bt238.2.1 bt238.2.2.1 bt238.2.2.2).bind fun t244 => (if t244 = true then ((tilefarmlaw4_two.f).bind fun bt245 => ((tilefarmlaw4_two.f).bind fun bt251 => ((plane_Equal.f k bt245.1 bt245.2.1 bt245.2.2.1 bt245.2.2.2 bt251.1 bt251.2.1 bt251.2.2.1 bt251.2.2.2).bind fun t257 => (some t257)))) else (some false)))) else (some false)))) else (some false)) else (none)) else (some false)) else (some false)) else (some false)) = some r := by rw [if_pos rfl] at H; exact H
            clear H
            have H := H1
            clear H1
            by_cases c11 : (t210.length : Int) = 3
            · rw [if_pos c11] at H
              have c11b0 : ((t210.length : Int) == 3) = true := beq_iff_eq.mpr c11
              have c11b1 : ((t210.length : Int) != 3) = false := bne_eq_false_iff_eq.mpr c11
              clear c11
              by_cases c12 : t227 = true
              · subst c12
                have H1 : (if (t224.length : Int) = 4 then (if 0 < (t224.length : Int) then (if (rd t224 0) = 2 then ((tilefarmlaw4_two.f).bind fun bt231 => ((plane_At.f k bt231.1 bt231.2.1 bt231.2.2.1 bt231.2.2.2 1 0 (-1) 5).bind fun t237 => (if t237 = 3 then ((tilefarmlaw4_two.f).bind fun bt238 => ((plane_Valid.f k bt238.1 bt238.2.1 bt238.2.2.1 bt238.2.2.2).bind fun t244 => (if t244 = true then ((tilefarmlaw4_two.f).bind fun bt245 => ((tilefarmlaw4_two.f).bind fun bt251 => ((plane_Equal.f k bt245.1 bt245.2.1 bt245.2.2.1 bt245.2.2.2 bt251.1 bt251.2.1 bt251.2.2.1 bt251.2.2.2).bind fun t257 => (some t257)))) else (some false)))) else (some false)))) else (some false)) else (none)) else (some false)) = some r := by rw [if_pos rfl] at H; exact H
                clear H
                have H := H1
                clear H1
                by_cases c13 : (t224.length : Int) = 4
                · rw [if_pos c13] at H
                  have c13b0 : ((t224.length : Int) == 4) = true := beq_iff_eq.mpr c13
                  have c13b1 : ((t224.length : Int) != 4) = false := bne_eq_false_iff_eq.mpr c13
                  clear c13
                  by_cases c14 : 0 < (t224.length : Int)
                  · rw [if_pos c14] at H
                    have c14b0 : decide (0 < (t224.length : Int)) = true := decide_eq_true c14
                    have c14b1 : decide (0 < t224.length) = true := decide_eq_true (by omega)
                    clear c14
                    by_cases c15 : (rd t224 0) = 2
                    · rw [if_pos c15] at H
                      have c15b0 : ((rd t224 0) == 2) = true := beq_iff_eq.mpr c15
                      have c15b1 : ((rd t224 0) != 2) = false := bne_eq_false_iff_eq.mpr c15
                      clear c15
                      replace H := Option.bind_eq_some_iff.mp H
                      obtain ⟨⟨t231, t232, t233, t234⟩, A160, H⟩ := H
                      replace H : ((plane_At.f k t231 t232 t233 t234 1 0 (-1) 5).bind fun t237 => (if t237 = 3 then ((tilefarmlaw4_two.f).bind fun bt238 => ((plane_Valid.f k bt238.1 bt238.2.1 bt238.2.2.1 bt238.2.2.2).bind fun t244 => (if t244 = true then ((tilefarmlaw4_two.f).bind fun bt245 => ((tilefarmlaw4_two.f).bind fun bt251 => ((plane_Equal.f k bt245.1 bt245.2.1 bt245.2.2.1 bt245.2.2.2 bt251.1 bt251.2.1 bt251.2.2.1 bt251.2.2.2).bind fun t257 => (some t257)))) else (some false)))) else (some false))) = some r := H
                      have A16 := Aside0.mk A160
                      clear A160
                      replace H := Option.bind_eq_some_iff.mp H
                      obtain ⟨t237, A170, H⟩ := H
                      replace H : (if t237 = 3 then ((tilefarmlaw4_two.f).bind fun bt238 => ((plane_Valid.f k bt238.1 bt238.2.1 bt238.2.2.1 bt238.2.2.2).bind fun t244 => (if t244 = true then ((tilefarmlaw4_two.f).bind fun bt245 => ((tilefarmlaw4_two.f).bind fun bt251 => ((plane_Equal.f k bt245.1 bt245.2.1 bt245.2.2.1 bt245.2.2.2 bt251.1 bt251.2.1 bt251.2.2.1 bt251.2.2.2).bind fun t257 => (some t257)))) else (some false)))) else (some false)) = some r := H
                      have A17 := Aside0.mk A170
                      clear A170
                      by_cases c18 : t237 = 3
                      · rw [if_pos c18] at H
                        have c18b0 : (t237 == 3) = true := beq_iff_eq.mpr c18
                        have c18b1 : (t237 != 3) = false := bne_eq_false_iff_eq.mpr c18
                        clear c18
                        replace H := Option.bind_eq_some_iff.mp H
                        obtain ⟨⟨t238, t239, t240, t241⟩, A190, H⟩ := H
                        replace H : ((plane_Valid.f k t238 t239 t240 t241).bind fun t244 => (if t244 = true then ((tilefarmlaw4_two.f).bind fun bt245 => ((tilefarmlaw4_two.f).bind fun bt251 => ((plane_Equal.f k bt245.1 bt245.2.1 bt245.2.2.1 bt245.2.2.2 bt251.1 bt251.2.1 bt251.2.2.1 bt251.2.2.2).bind fun t257 => (some t257)))) else (some false))) = some r := H
                        have A19 := Aside0.mk A190
                        clear A190
                        replace H := Option.bind_eq_some_iff.mp H
                        obtain ⟨t244, A200, H⟩ := H
                        replace H : (if t244 = true then ((tilefarmlaw4_two.f).bind fun bt245 => ((tilefarmlaw4_two.f).bind fun bt251 => ((plane_Equal.f k bt245.1 bt245.2.1 bt245.2.2.1 bt245.2.2.2 bt251.1 bt251.2.1 bt251.2.2.1 bt251.2.2.2).bind fun t257 => (some t257)))) else (some false)) = some r := H
                        have A20 := Aside0.mk A200
                        clear A200
                        by_cases c21 : t244 = true
                        · subst c21
                          have H1 : ((tilefarmlaw4_two.f).bind fun bt245 => ((tilefarmlaw4_two.f).bind fun bt251 => ((plane_Equal.f k bt245.1 bt245.2.1 bt245.2.2.1 bt245.2.2.2 bt251.1 bt251.2.1 bt251.2.2.1 bt251.2.2.2).bind fun t257 => (some t257)))) = some r := by rw [if_pos rfl] at H; exact H
                          clear H
                          have H := H1
                          clear H1
                          replace H := Option.bind_eq_some_iff.mp H
                          obtain ⟨⟨t245, t246, t247, t248⟩, A220, H⟩ := H
                          replace H : ((tilefarmlaw4_two.f).bind fun bt251 => ((plane_Equal.f k t245 t246 t247 t248 bt251.1 bt251.2.1 bt251.2.2.1 bt251.2.2.2).bind fun t257 => (some t257))) = some r := H
                          have A22 := Aside0.mk A220
                          clear A220
                          replace H := Option.bind_eq_some_iff.mp H
                          obtain ⟨⟨t251, t252, t253, t254⟩, A230, H⟩ := H
                          replace H : ((plane_Equal.f k t245 t246 t247 t248 t251 t252 t253 t254).bind fun t257 => (some t257)) = some r := H
                          have A23 := Aside0.mk A230
                          clear A230
                          replace H := Option.bind_eq_some_iff.mp H
                          obtain ⟨t257, A240, H⟩ := H
                          replace H : (some t257) = some r := H
                          have A24 := Aside0.mk A240
                          clear A240
                          obtain rfl := Option.some.inj H
                          go_enter Try.func18, Try.ntmps18
                          try go_wp2_with (first | ((with_reducible refine gate_callee (f := 41) rfl ?_); refine goesL_ (some 8) rfl rfl Try.func41 (by kernel_rfl) rfl #[] rfl q117_ ?_; (with_reducible refine (tilefarmlaw4_two.calls  t193 t194 t195 t196 _ A1.out).mono ?_); rintro e w25 ⟨v197, rfl, ho0, hb⟩; refine ⟨_, rfl, ?_⟩; have n0_ := Aside0.mk (Kd.R_lower ho0 (below_size q120_)); have n1_ := Aside0.mk (below_step q120_ hb); clear HB; have HO198 := n0_; have HB := n1_; clear n0_ n1_; (try clear hb); (try clear hb2); (try clear hk); (try clear hi); (try clear ho0); obtain ⟨Ao26, co26, eo26⟩ := Kd.R_slice HO198.out; subst eo26) | ((with_reducible refine gate_callee (f := 13) rfl ?_); refine goesL_ (some 10) rfl rfl Try.func13 (by kernel_rfl) rfl #[.agg #[.int .i64 t193, .int .i64 t194, .int .i64 t195, .slice Ao26 t196.length co26], .agg #[.int .i64 1, .int .i64 0, .int .i64 2, .int .i64 2]] rfl q117_ ?_; (with_reducible refine (plane_Crop.calls k t193 t194 t195 _ _ t196 1 0 2 2 t199 t200 t201 t202 true _ ?side1 ?side2 A2.out).mono ?_); (case side1 => repeat (first | exact (Kd.R_reads' HO198.out).2.2 | (with_reducible refine Kd.C_alloc ?_ _) | (with_reducible refine Kd.C_drewN ?_ _) | (with_reducible refine Kd.C_drew ?_))); (case side2 => exact (Kd.R_reads' HO198.out).2.1); rintro e w27 ⟨v203, rfl, ho0, hb⟩; refine ⟨_, rfl, ?_⟩; have n0_ := Aside0.mk (Kd.R_elder' q161_ (Kd.R_base ho0) hb); have n1_ := Aside0.mk (Kd.R_lower (Kd.R_new' ho0 (Kd.R_lt q161_)) (below_size q120_)); have n2_ := Aside0.mk (below_step q120_ hb); clear HO198; clear HB; have HO198 := n0_; have HO204 := n1_; have HB := n2_; clear n0_ n1_ n2_; (try clear hb); (try clear hb2); (try clear hk); (try clear hi); (try clear ho0)) | ((with_reducible refine gate_dst (N := 1) rfl ?_); (try (refine gate_guard (by rfl) ?_; dsimp only)); refine box_event ?hg (N := 1) ?hd (cs := #[.int .i64 0, .int .i64 0, .int .i64 0, .slice none 0 0]) (t := 26) ?hr ?_; (case hd => rfl); (case hg => rfl); (case hr => first | (go_simp; done) | (go_simp; rfl)); intro gb206 hg w28 hbox hb; have n0_ := Aside0.mk (Kd.R_below q161_ hb); have n1_ := Aside0.mk (Kd.R_below q162_ hb); have n2_ := Aside0.mk (below_step q120_ hb); have n3_ := Aside0.mk (hbox); have n4_ := Aside0.mk ((q95_ : w.heap.size ≤ gb206)); have n5_ := Aside0.mk ((q95_ : w.heap.size ≤ gb206)); clear HO198; clear HO204; clear HB; have HO198 := n0_; have HO204 := n1_; have HB := n2_; have BK206 := n3_; have GW206 := n4_; have GE206 := n5_; clear n0_ n1_ n2_ n3_ n4_ n5_; clear hb hbox hg; have hcz29_0 : w28.cell? ⟨gb206, 0, none⟩ = some (.int .i64 0) := (blk_cell BK206.out 0).trans rfl; have hcz29_1 : w28.cell? ⟨gb206, 1, none⟩ = some (.int .i64 0) := (blk_cell BK206.out 1).trans rfl; have hcz29_2 : w28.cell? ⟨gb206, 2, none⟩ = some (.int .i64 0) := (blk_cell BK206.out 2).trans rfl; have hcz29_3 : w28.cell? ⟨gb206, 3, none⟩ = some (.slice none 0 0) := (blk_cell BK206.out 3).trans rfl; have hfz29_0 := blk_frozen BK206.out 0; have hfz29_1 := blk_frozen BK206.out 1; have hfz29_2 := blk_frozen BK206.out 2; have hfz29_3 := blk_frozen BK206.out 3; obtain ⟨Ao30, co30, eo30⟩ := Kd.R_slice HO204.out; subst eo30) | ((with_reducible refine gate_callee (f := 23) rfl ?_); refine goesL_ (some 14) rfl rfl Try.func23 (by kernel_rfl) rfl #[.int .i64 3, .int .i64 1, .int .i64 5] rfl q117_ ?_; (with_reducible refine (plane_New.calls 3 1 5 t207 t208 t209 t210 true _ A3.out).mono ?_); rintro e w31 ⟨v211, rfl, ho0, hb⟩; refine ⟨_, rfl, ?_⟩; have n0_ := Aside0.mk (Kd.R_elder' (by (with_reducible repeat (first | apply Kd.R_alloc | apply Kd.R_drewN | apply Kd.R_drew)); exact (Kd.R_mono (Kd.R_far (p := ⟨gb206, 3, none⟩) (Kd.R_far (p := ⟨gb206, 2, none⟩) (Kd.R_far (p := ⟨gb206, 1, none⟩) (Kd.R_far (p := ⟨gb206, 0, none⟩) (Kd.R_types HO198.out BK206.out (by decide)) (fun _ hk => hk.2) (.int .i64 t199)) (fun _ hk => hk.2) (.int .i64 t200)) (fun _ hk => hk.2) (.int .i64 t201)) (fun _ hk => hk.2) (.slice Ao30 t202.length co30)) (fun _ h_ => h_.1))) (Kd.R_base ho0) hb); have n1_ := Aside0.mk (Kd.R_elder' (by (with_reducible repeat (first | apply Kd.R_alloc | apply Kd.R_drewN | apply Kd.R_drew)); exact (Kd.R_mono (Kd.R_far (p := ⟨gb206, 3, none⟩) (Kd.R_far (p := ⟨gb206, 2, none⟩) (Kd.R_far (p := ⟨gb206, 1, none⟩) (Kd.R_far (p := ⟨gb206, 0, none⟩) (Kd.R_types HO204.out BK206.out (by decide)) (fun _ hk => hk.2) (.int .i64 t199)) (fun _ hk => hk.2) (.int .i64 t200)) (fun _ hk => hk.2) (.int .i64 t201)) (fun _ hk => hk.2) (.slice Ao30 t202.length co30)) (fun _ h_ => h_.1))) (Kd.R_base ho0) hb); have n2_ := Aside0.mk (Kd.R_lower (Kd.R_new' (Kd.R_new' ho0 (Kd.R_lt (by (with_reducible repeat (first | apply Kd.R_alloc | apply Kd.R_drewN | apply Kd.R_drew)); exact (Kd.R_mono (Kd.R_far (p := ⟨gb206, 3, none⟩) (Kd.R_far (p := ⟨gb206, 2, none⟩) (Kd.R_far (p := ⟨gb206, 1, none⟩) (Kd.R_far (p := ⟨gb206, 0, none⟩) (Kd.R_types HO198.out BK206.out (by decide)) (fun _ hk => hk.2) (.int .i64 t199)) (fun _ hk => hk.2) (.int .i64 t200)) (fun _ hk => hk.2) (.int .i64 t201)) (fun _ hk => hk.2) (.slice Ao30 t202.length co30)) (fun _ h_ => h_.1))))) (Kd.R_lt (by (with_reducible repeat (first | apply Kd.R_alloc | apply Kd.R_drewN | apply Kd.R_drew)); exact (Kd.R_mono (Kd.R_far (p := ⟨gb206, 3, none⟩) (Kd.R_far (p := ⟨gb206, 2, none⟩) (Kd.R_far (p := ⟨gb206, 1, none⟩) (Kd.R_far (p := ⟨gb206, 0, none⟩) (Kd.R_types HO204.out BK206.out (by decide)) (fun _ hk => hk.2) (.int .i64 t199)) (fun _ hk => hk.2) (.int .i64 t200)) (fun _ hk => hk.2) (.int .i64 t201)) (fun _ hk => hk.2) (.slice Ao30 t202.length co30)) (fun _ h_ => h_.1))))) (below_size q109_)); have n3_ := Aside0.mk (blk_below (g := gb206) (o := .cells #[.int .i64 t199, .int .i64 t200, .int .i64 t201, .slice Ao30 t202.length co30] 26 (0, 0)) (by (with_reducible repeat (first | refine blk_drewN ?_ _ | refine blk_drew ?_ | refine blk_alloc ?_ _)); refine blk_put (cs := #[.int .i64 t199, .int .i64 t200, .int .i64 t201, .slice none 0 0]) ?_ 3 _ rfl; (with_reducible repeat (first | refine blk_drewN ?_ _ | refine blk_drew ?_ | refine blk_alloc ?_ _)); refine blk_put (cs := #[.int .i64 t199, .int .i64 t200, .int .i64 0, .slice none 0 0]) ?_ 2 _ rfl; (with_reducible repeat (first | refine blk_drewN ?_ _ | refine blk_drew ?_ | refine blk_alloc ?_ _)); refine blk_put (cs := #[.int .i64 t199, .int .i64 0, .int .i64 0, .slice none 0 0]) ?_ 1 _ rfl; (with_reducible repeat (first | refine blk_drewN ?_ _ | refine blk_drew ?_ | refine blk_alloc ?_ _)); refine blk_put (cs := #[.int .i64 0, .int .i64 0, .int .i64 0, .slice none 0 0]) ?_ 0 _ rfl; (with_reducible repeat (first | refine blk_drewN ?_ _ | refine blk_drew ?_ | refine blk_alloc ?_ _)); exact BK206.out) hb); have n4_ := Aside0.mk (below_step q109_ hb); clear HO198; clear HO204; clear BK206; clear HB; have HO198 := n0_; have HO204 := n1_; have HO212 := n2_; have BK206 := n3_; have HB := n4_; clear n0_ n1_ n2_ n3_ n4_; (try clear hb); (try clear hb2); (try clear hk); (try clear hi); (try clear ho0)) | ((with_reducible refine gate_dst (N := 3) rfl ?_); (try (refine gate_guard (by rfl) ?_; dsimp only)); refine box_event ?hg (N := 3) ?hd (cs := #[.int .i64 0, .int .i64 0, .int .i64 0, .slice none 0 0]) (t := 26) ?hr ?_; (case hd => rfl); (case hg => rfl); (case hr => first | (go_simp; done) | (go_simp; rfl)); intro gb214 hg w32 hbox hb; have n0_ := Aside0.mk (Kd.R_below q161_ hb); have n1_ := Aside0.mk (Kd.R_below q162_ hb); have n2_ := Aside0.mk (Kd.R_below q163_ hb); have n3_ := Aside0.mk (blk_below (g := gb206) (o := .cells #[.int .i64 t199, .int .i64 t200, .int .i64 t201, .slice Ao30 t202.length co30] 26 (0, 0)) q142_ hb); have n4_ := Aside0.mk (below_step q109_ hb); have n5_ := Aside0.mk (hbox); have n6_ := Aside0.mk ((by rw [hg]; exact (below_size q109_) : w.heap.size ≤ gb214)); have n7_ := Aside0.mk ((by rw [hg]; exact (below_size q109_) : w.heap.size ≤ gb214)); have n8_ := Aside0.mk ((q11_ : gb206 ≠ gb214)); have n9_ := Aside0.mk ((q12_ : gb214 ≠ gb206)); clear HO198; clear HO204; clear HO212; clear BK206; clear HB; have HO198 := n0_; have HO204 := n1_; have HO212 := n2_; have BK206 := n3_; have HB := n4_; have BK214 := n5_; have GW214 := n6_; have GE214 := n7_; have NB206_214 := n8_; have NB214_206 := n9_; clear n0_ n1_ n2_ n3_ n4_ n5_ n6_ n7_ n8_ n9_; clear hb hbox hg; have hnb33 := NB214_206.out; have hnc33 := NB206_214.out; have hcz34_0 : w32.cell? ⟨gb214, 0, none⟩ = some (.int .i64 0) := (blk_cell BK214.out 0).trans rfl; have hcz34_1 : w32.cell? ⟨gb214, 1, none⟩ = some (.int .i64 0) := (blk_cell BK214.out 1).trans rfl; have hcz34_2 : w32.cell? ⟨gb214, 2, none⟩ = some (.int .i64 0) := (blk_cell BK214.out 2).trans rfl; have hcz34_3 : w32.cell? ⟨gb214, 3, none⟩ = some (.slice none 0 0) := (blk_cell BK214.out 3).trans rfl; have hfz34_0 := blk_frozen BK214.out 0; have hfz34_1 := blk_frozen BK214.out 1; have hfz34_2 := blk_frozen BK214.out 2; have hfz34_3 := blk_frozen BK214.out 3; obtain ⟨Ao35, co35, eo35⟩ := Kd.R_slice HO212.out; subst eo35))
                          have n0_ : Aside0 (Kd.R (Kd.int .i64) 3 ((((w32.setCell ⟨gb214, 0, none⟩ (.int .i64 t207)).setCell ⟨gb214, 1, none⟩ (.int .i64 t208)).setCell ⟨gb214, 2, none⟩ (.int .i64 t209)).setCell ⟨gb214, 3, none⟩ (.slice Ao35 t210.length co35)) w.heap.size (fun k_ => some k_ ≠ (.slice Ao30 t202.length co30 : Value).ownBlock ∧ some k_ ≠ (.slice Ao35 t210.length co35 : Value).ownBlock) (.slice Ao26 t196.length co26) t196) := ⟨by (with_reducible repeat (first | apply Kd.R_alloc | apply Kd.R_drewN | apply Kd.R_drew)); exact Kd.R_mono (Kd.R_far (p := ⟨gb214, 3, none⟩) (Kd.R_far (p := ⟨gb214, 2, none⟩) (Kd.R_far (p := ⟨gb214, 1, none⟩) (Kd.R_far (p := ⟨gb214, 0, none⟩) (Kd.R_types HO198.out BK214.out (by decide)) (fun _ hk => hk.2) (.int .i64 t207)) (fun _ hk => hk.2) (.int .i64 t208)) (fun _ hk => hk.2) (.int .i64 t209)) (fun _ hk => hk.2) (.slice Ao35 t210.length co35)) (fun _ hk => ⟨hk.1.1.2, hk.1.2⟩)⟩
                          have n1_ : Aside0 (Kd.R (Kd.int .i64) 3 ((((w32.setCell ⟨gb214, 0, none⟩ (.int .i64 t207)).setCell ⟨gb214, 1, none⟩ (.int .i64 t208)).setCell ⟨gb214, 2, none⟩ (.int .i64 t209)).setCell ⟨gb214, 3, none⟩ (.slice Ao35 t210.length co35)) w.heap.size (fun k_ => some k_ ≠ (.slice Ao26 t196.length co26 : Value).ownBlock ∧ some k_ ≠ (.slice Ao35 t210.length co35 : Value).ownBlock) (.slice Ao30 t202.length co30) t202) := ⟨by (with_reducible repeat (first | apply Kd.R_alloc | apply Kd.R_drewN | apply Kd.R_drew)); exact Kd.R_mono (Kd.R_far (p := ⟨gb214, 3, none⟩) (Kd.R_far (p := ⟨gb214, 2, none⟩) (Kd.R_far (p := ⟨gb214, 1, none⟩) (Kd.R_far (p := ⟨gb214, 0, none⟩) (Kd.R_types HO204.out BK214.out (by decide)) (fun _ hk => hk.2) (.int .i64 t207)) (fun _ hk => hk.2) (.int .i64 t208)) (fun _ hk => hk.2) (.int .i64 t209)) (fun _ hk => hk.2) (.slice Ao35 t210.length co35)) (fun _ hk => ⟨hk.1.1.2, hk.1.2⟩)⟩
                          have n2_ : Aside0 (Kd.R (Kd.int .i64) 3 ((((w32.setCell ⟨gb214, 0, none⟩ (.int .i64 t207)).setCell ⟨gb214, 1, none⟩ (.int .i64 t208)).setCell ⟨gb214, 2, none⟩ (.int .i64 t209)).setCell ⟨gb214, 3, none⟩ (.slice Ao35 t210.length co35)) w.heap.size (fun k_ => some k_ ≠ (.slice Ao26 t196.length co26 : Value).ownBlock ∧ some k_ ≠ (.slice Ao30 t202.length co30 : Value).ownBlock) (.slice Ao35 t210.length co35) t210) := ⟨by (with_reducible repeat (first | apply Kd.R_alloc | apply Kd.R_drewN | apply Kd.R_drew)); exact Kd.R_mono (Kd.R_far (p := ⟨gb214, 3, none⟩) (Kd.R_far (p := ⟨gb214, 2, none⟩) (Kd.R_far (p := ⟨gb214, 1, none⟩) (Kd.R_far (p := ⟨gb214, 0, none⟩) (Kd.R_types HO212.out BK214.out (by decide)) (fun _ hk => hk.2) (.int .i64 t207)) (fun _ hk => hk.2) (.int .i64 t208)) (fun _ hk => hk.2) (.int .i64 t209)) (fun _ hk => hk.2) (.slice Ao35 t210.length co35)) (fun _ hk => ⟨hk.1.1.2, hk.1.2⟩)⟩
                          have n3_ : Aside0 (((((w32.setCell ⟨gb214, 0, none⟩ (.int .i64 t207)).setCell ⟨gb214, 1, none⟩ (.int .i64 t208)).setCell ⟨gb214, 2, none⟩ (.int .i64 t209)).setCell ⟨gb214, 3, none⟩ (.slice Ao35 t210.length co35)).heap[gb206]? = some (.cells #[.int .i64 t199, .int .i64 t200, .int .i64 t201, .slice Ao30 t202.length co30] 26 (0, 0))) := ⟨by (with_reducible repeat (first | refine blk_drewN ?_ _ | refine blk_drew ?_ | refine blk_alloc ?_ _)); refine blk_far ?_ NB206_214.out _; (with_reducible repeat (first | refine blk_drewN ?_ _ | refine blk_drew ?_ | refine blk_alloc ?_ _)); refine blk_far ?_ NB206_214.out _; (with_reducible repeat (first | refine blk_drewN ?_ _ | refine blk_drew ?_ | refine blk_alloc ?_ _)); refine blk_far ?_ NB206_214.out _; (with_reducible repeat (first | refine blk_drewN ?_ _ | refine blk_drew ?_ | refine blk_alloc ?_ _)); refine blk_far ?_ NB206_214.out _; (with_reducible repeat (first | refine blk_drewN ?_ _ | refine blk_drew ?_ | refine blk_alloc ?_ _)); exact BK206.out⟩
                          have n4_ : Aside0 (((((w32.setCell ⟨gb214, 0, none⟩ (.int .i64 t207)).setCell ⟨gb214, 1, none⟩ (.int .i64 t208)).setCell ⟨gb214, 2, none⟩ (.int .i64 t209)).setCell ⟨gb214, 3, none⟩ (.slice Ao35 t210.length co35)).heap[gb214]? = some (.cells #[.int .i64 t207, .int .i64 t208, .int .i64 t209, .slice Ao35 t210.length co35] 26 (0, 0))) := ⟨by (with_reducible repeat (first | refine blk_drewN ?_ _ | refine blk_drew ?_ | refine blk_alloc ?_ _)); refine blk_put (cs := #[.int .i64 t207, .int .i64 t208, .int .i64 t209, .slice none 0 0]) ?_ 3 _ rfl; (with_reducible repeat (first | refine blk_drewN ?_ _ | refine blk_drew ?_ | refine blk_alloc ?_ _)); refine blk_put (cs := #[.int .i64 t207, .int .i64 t208, .int .i64 0, .slice none 0 0]) ?_ 2 _ rfl; (with_reducible repeat (first | refine blk_drewN ?_ _ | refine blk_drew ?_ | refine blk_alloc ?_ _)); refine blk_put (cs := #[.int .i64 t207, .int .i64 0, .int .i64 0, .slice none 0 0]) ?_ 1 _ rfl; (with_reducible repeat (first | refine blk_drewN ?_ _ | refine blk_drew ?_ | refine blk_alloc ?_ _)); refine blk_put (cs := #[.int .i64 0, .int .i64 0, .int .i64 0, .slice none 0 0]) ?_ 0 _ rfl; (with_reducible repeat (first | refine blk_drewN ?_ _ | refine blk_drew ?_ | refine blk_alloc ?_ _)); exact BK214.out⟩
                          have n5_ : Aside0 (Below w.heap.size w ((((w32.setCell ⟨gb214, 0, none⟩ (.int .i64 t207)).setCell ⟨gb214, 1, none⟩ (.int .i64 t208)).setCell ⟨gb214, 2, none⟩ (.int .i64 t209)).setCell ⟨gb214, 3, none⟩ (.slice Ao35 t210.length co35))) := ⟨q80_⟩
                          (try clear HO198)
                          (try clear HO204)
                          (try clear HO212)
                          (try clear BK206)
                          (try clear BK214)
                          (try clear HB)
                          generalize ((((w32.setCell ⟨gb214, 0, none⟩ (.int .i64 t207)).setCell ⟨gb214, 1, none⟩ (.int .i64 t208)).setCell ⟨gb214, 2, none⟩ (.int .i64 t209)).setCell ⟨gb214, 3, none⟩ (.slice Ao35 t210.length co35)) = w36 at n0_ n1_ n2_ n3_ n4_ n5_ ⊢
                          have HO198 := n0_
                          have HO204 := n1_
                          have HO212 := n2_
                          have BK206 := n3_
                          have BK214 := n4_
                          have HB := n5_
                          clear n0_ n1_ n2_ n3_ n4_ n5_
                          have n0_ := Aside0.mk (Kd.R_drew HO198.out)
                          have n1_ := Aside0.mk (Kd.R_drew HO204.out)
                          have n2_ := Aside0.mk (Kd.R_drew HO212.out)
                          have n3_ := Aside0.mk (blk_drew BK206.out)
                          have n4_ := Aside0.mk (blk_drew BK214.out)
                          have n5_ := Aside0.mk (below_drew1 HB.out)
                          clear HO198
                          clear HO204
                          clear HO212
                          clear BK206
                          clear BK214
                          clear HB
                          have HO198 := n0_
                          have HO204 := n1_
                          have HO212 := n2_
                          have BK206 := n3_
                          have BK214 := n4_
                          have HB := n5_
                          clear n0_ n1_ n2_ n3_ n4_ n5_
                          refine start_ (n := 9) (S := fun w' => w'.cell? ⟨gb206, 0, none⟩ = some (.int .i64 t199) ∧ w'.cell? ⟨gb206, 1, none⟩ = some (.int .i64 t200) ∧ w'.cell? ⟨gb206, 2, none⟩ = some (.int .i64 t201) ∧ w'.cell? ⟨gb206, 3, none⟩ = some (.slice Ao30 t202.length co30)) (ds := []) #[false, false, false, false, false, false, false, false, false] (by kernel_rfl) rfl rfl ⟨(blk_cell BK206.out 0).trans rfl, (blk_cell BK206.out 1).trans rfl, (blk_cell BK206.out 2).trans rfl, (blk_cell BK206.out 3).trans rfl⟩ (fun hHeld => ?_); refine with_tabW tilefarmlaw4_sane.tab3 tilefarmlaw4_sane.bits3 (fun HT_ HW_ => ?_)
                          generalize w36.drew = w37 at HO198 HO204 HO212 BK206 BK214 HB hHeld ⊢
                          refine take_ (i := 1) (N := some 19) (v := ?_) (a' := ?_) #[false, true, false, false, false, false, false, false, false] rfl rfl (take_ofW HT_.out HW_.out (by kernel_rfl)) (fun _ _ _ h => h) (Or.inl ⟨by rfl, ?_⟩) hHeld ?_ ?_
                          rotate_left
                          · rintro w' ⟨s0, s1, s2, s3⟩
                            go_simp
                            with_reducible rfl
                          rotate_left
                          · simp only [Act.put, List.setIfInBounds_toArray, List.set_cons_zero, List.set_cons_succ, i64_w, i32_w]
                            rfl
                          refine join_ (σ := Value × Value × Nat) 2 #[true, true, true, true, true, true, true, false, false] (fun s_ => [(18, .agg #[.int .i64 t215, .int .i64 t216, .int .i64 t217, s_.1]), (20, .tuple #[.agg #[.int .i64 t221, .int .i64 t222, .int .i64 t223, s_.2.1], .bool true]), (5, .pointer (some ⟨s_.2.2, 0, none⟩)), (17, .tuple #[.agg #[.int .i64 t221, .int .i64 t222, .int .i64 t223, s_.2.1], .bool true]), (21, .agg #[.int .i64 t221, .int .i64 t222, .int .i64 t223, s_.2.1]), (22, .bool true)]) (fun s_ w' => (w'.cell? ⟨gb206, 0, none⟩ = some (.int .i64 t199) ∧ w'.cell? ⟨gb206, 1, none⟩ = some (.int .i64 t200) ∧ w'.cell? ⟨gb206, 2, none⟩ = some (.int .i64 t201) ∧ w'.cell? ⟨gb206, 3, none⟩ = some (.slice Ao30 t202.length co30)) ∧ (Kd.R (Kd.int .i64) 3 w' w.heap.size (fun k_ => some k_ ≠ (.slice Ao30 t202.length co30 : Value).ownBlock ∧ some k_ ≠ (.slice Ao35 t210.length co35 : Value).ownBlock ∧ some k_ ≠ (s_.1 : Value).ownBlock ∧ some k_ ≠ (s_.2.1 : Value).ownBlock) (.slice Ao26 t196.length co26) t196) ∧ (Kd.R (Kd.int .i64) 3 w' w.heap.size (fun k_ => some k_ ≠ (.slice Ao26 t196.length co26 : Value).ownBlock ∧ some k_ ≠ (.slice Ao35 t210.length co35 : Value).ownBlock ∧ some k_ ≠ (s_.1 : Value).ownBlock ∧ some k_ ≠ (s_.2.1 : Value).ownBlock) (.slice Ao30 t202.length co30) t202) ∧ (Kd.R (Kd.int .i64) 3 w' w.heap.size (fun k_ => some k_ ≠ (.slice Ao26 t196.length co26 : Value).ownBlock ∧ some k_ ≠ (.slice Ao30 t202.length co30 : Value).ownBlock ∧ some k_ ≠ (s_.1 : Value).ownBlock ∧ some k_ ≠ (s_.2.1 : Value).ownBlock) (.slice Ao35 t210.length co35) t210) ∧ (Kd.R (Kd.int .i64) 3 w' w.heap.size (fun k_ => some k_ ≠ (.slice Ao26 t196.length co26 : Value).ownBlock ∧ some k_ ≠ (.slice Ao30 t202.length co30 : Value).ownBlock ∧ some k_ ≠ (.slice Ao35 t210.length co35 : Value).ownBlock ∧ some k_ ≠ (s_.2.1 : Value).ownBlock) s_.1 t218) ∧ (Kd.R (Kd.int .i64) 3 w' w.heap.size (fun k_ => some k_ ≠ (.slice Ao26 t196.length co26 : Value).ownBlock ∧ some k_ ≠ (.slice Ao30 t202.length co30 : Value).ownBlock ∧ some k_ ≠ (.slice Ao35 t210.length co35 : Value).ownBlock ∧ some k_ ≠ (s_.1 : Value).ownBlock) s_.2.1 t224) ∧ (w'.heap[gb206]? = some (.cells #[.int .i64 t199, .int .i64 t200, .int .i64 t201, .slice Ao30 t202.length co30] 26 (0, 0))) ∧ (w'.heap[gb214]? = some (.cells #[.int .i64 t207, .int .i64 t208, .int .i64 t209, .slice Ao35 t210.length co35] 26 (0, 0))) ∧ (w'.heap[s_.2.2]? = some (.cells #[.int .i64 0, .int .i64 0, .int .i64 0, .slice none 0 0] 26 (0, 0))) ∧ (w.heap.size ≤ s_.2.2) ∧ (w.heap.size ≤ s_.2.2) ∧ (gb206 ≠ s_.2.2) ∧ (s_.2.2 ≠ gb206) ∧ (gb214 ≠ s_.2.2) ∧ (s_.2.2 ≠ gb214) ∧ (Below w.heap.size w w')) ?_ ?_
                          rotate_left
                          · intro hCont
                            refine two_ (i := 0) (j := 6) (Ni := some 18) (Nj := some 5) #[true, true, false, false, false, false, false, false, false] #[false, true, false, false, false, false, true, false, false] rfl rfl rfl rfl (two_of HT_.out (by kernel_rfl)) (by decide) (by decide) (fun K hK => ?_) (fun K hK => ?_)
                            · skip
                              refine goes_ Try.func41 (by kernel_rfl) rfl #[] (by rfl) rfl rfl q117_ ?_
                              with_reducible refine (tilefarmlaw4_two.calls  t215 t216 t217 t218 _ A4.out).mono ?_
                              rintro e w38 ⟨v219, rfl, ho0, hb⟩
                              refine ⟨_, rfl, ?_⟩
                              have n0_ := Aside0.mk (Kd.R_elder' q161_ (Kd.R_base ho0) hb)
                              have n1_ := Aside0.mk (Kd.R_elder' q162_ (Kd.R_base ho0) hb)
                              have n2_ := Aside0.mk (Kd.R_elder' q163_ (Kd.R_base ho0) hb)
                              have n3_ := Aside0.mk (Kd.R_lower (Kd.R_new' (Kd.R_new' (Kd.R_new' ho0 (Kd.R_lt q161_)) (Kd.R_lt q162_)) (Kd.R_lt q163_)) (below_size q80_))
                              have n4_ := Aside0.mk (blk_below (g := gb206) (o := .cells #[.int .i64 t199, .int .i64 t200, .int .i64 t201, .slice Ao30 t202.length co30] 26 (0, 0)) q142_ hb)
                              have n5_ := Aside0.mk (blk_below (g := gb214) (o := .cells #[.int .i64 t207, .int .i64 t208, .int .i64 t209, .slice Ao35 t210.length co35] 26 (0, 0)) q143_ hb)
                              have n6_ := Aside0.mk (below_step q80_ hb)
                              clear HO198
                              clear HO204
                              clear HO212
                              clear BK206
                              clear BK214
                              clear HB
                              have HO198 := n0_
                              have HO204 := n1_
                              have HO212 := n2_
                              have HO220 := n3_
                              have BK206 := n4_
                              have BK214 := n5_
                              have HB := n6_
                              clear n0_ n1_ n2_ n3_ n4_ n5_ n6_
                              (try clear hb)
                              (try clear hb2)
                              (try clear hk)
                              (try clear hi)
                              (try clear ho0)
                              obtain ⟨Ao39, co39, eo39⟩ := Kd.R_slice HO220.out
                              (first | subst eo39 | (injection eo39 with f1_ f2_ f3_; have f4_ := f1_.symm; have f5_ := f3_.symm; clear f1_ f2_ f3_; subst f4_; subst f5_))
                              refine hK.out _ _ ⟨(blk_cell BK206.out 0).trans rfl, (blk_cell BK206.out 1).trans rfl, (blk_cell BK206.out 2).trans rfl, (blk_cell BK206.out 3).trans rfl⟩ (fun hHeld => ?_)
                              clear hK K
                              refine norm_ (a' := ?_) ?_ ?_
                              rotate_left
                              · show Act.put _ (some 18) _ = _
                                simp only [Act.put, List.setIfInBounds_toArray, List.set_cons_zero, List.set_cons_succ, i64_w, i32_w]
                                rfl
                              refine two_ (i := 2) (j := 6) (Ni := some 20) (Nj := some 5) #[true, true, true, false, false, false, false, false, false] #[true, true, false, false, false, false, true, false, false] rfl rfl rfl rfl (two_of HT_.out (by kernel_rfl)) (by decide) (by decide) (fun K hK => ?_) (fun K hK => ?_)
                              · skip
                                refine goes_ Try.func14 (by kernel_rfl) rfl #[.agg #[.int .i64 t215, .int .i64 t216, .int .i64 t217, .slice Ao39 t218.length co39], .agg #[.int .i64 t199, .int .i64 t200, .int .i64 t201, .slice Ao30 t202.length co30], .int .i64 0, .int .i64 0] (by rfl) rfl rfl q117_ ?_
                                with_reducible refine (plane_Blit.calls k t215 t216 t217 _ _ t218 t199 t200 t201 _ _ t202 0 0 t221 t222 t223 t224 true _ ?side1 ?side2 ?side3 ?side4 A5.out).mono ?_
                                (case side1 => repeat (first | exact (Kd.R_reads' HO220.out).2.2 | (with_reducible refine Kd.C_alloc ?_ _) | (with_reducible refine Kd.C_drewN ?_ _) | (with_reducible refine Kd.C_drew ?_)))
                                (case side2 => exact (Kd.R_reads' HO220.out).2.1)
                                (case side3 => repeat (first | exact (Kd.R_reads' HO204.out).2.2 | (with_reducible refine Kd.C_alloc ?_ _) | (with_reducible refine Kd.C_drewN ?_ _) | (with_reducible refine Kd.C_drew ?_)))
                                (case side4 => exact (Kd.R_reads' HO204.out).2.1)
                                rintro e w40 ⟨v225, rfl, ho0, hb⟩
                                refine ⟨_, rfl, ?_⟩
                                have n0_ := Aside0.mk (Kd.R_elder' q161_ (Kd.R_base ho0) hb)
                                have n1_ := Aside0.mk (Kd.R_elder' q162_ (Kd.R_base ho0) hb)
                                have n2_ := Aside0.mk (Kd.R_elder' q163_ (Kd.R_base ho0) hb)
                                have n3_ := Aside0.mk (Kd.R_elder' q164_ (Kd.R_base ho0) hb)
                                have n4_ := Aside0.mk (Kd.R_lower (Kd.R_new' (Kd.R_new' (Kd.R_new' (Kd.R_new' ho0 (Kd.R_lt q161_)) (Kd.R_lt q162_)) (Kd.R_lt q163_)) (Kd.R_lt q164_)) (below_size q80_))
                                have n5_ := Aside0.mk (blk_below (g := gb206) (o := .cells #[.int .i64 t199, .int .i64 t200, .int .i64 t201, .slice Ao30 t202.length co30] 26 (0, 0)) q142_ hb)
                                have n6_ := Aside0.mk (blk_below (g := gb214) (o := .cells #[.int .i64 t207, .int .i64 t208, .int .i64 t209, .slice Ao35 t210.length co35] 26 (0, 0)) q143_ hb)
                                have n7_ := Aside0.mk (below_step q80_ hb)
                                clear HO198
                                clear HO204
                                clear HO212
                                clear HO220
                                clear BK206
                                clear BK214
                                clear HB
                                have HO198 := n0_
                                have HO204 := n1_
                                have HO212 := n2_
                                have HO220 := n3_
                                have HO226 := n4_
                                have BK206 := n5_
                                have BK214 := n6_
                                have HB := n7_
                                clear n0_ n1_ n2_ n3_ n4_ n5_ n6_ n7_
                                (try clear hb)
                                (try clear hb2)
                                (try clear hk)
                                (try clear hi)
                                (try clear ho0)
                                refine hK.out _ _ ⟨(blk_cell BK206.out 0).trans rfl, (blk_cell BK206.out 1).trans rfl, (blk_cell BK206.out 2).trans rfl, (blk_cell BK206.out 3).trans rfl⟩ (fun hHeld => ?_)
                                clear hK K
                                refine norm_ (a' := ?_) ?_ ?_
                                rotate_left
                                · show Act.put _ (some 20) _ = _
                                  simp only [Act.put, List.setIfInBounds_toArray, List.set_cons_zero, List.set_cons_succ, i64_w, i32_w]
                                  rfl
                                refine pure_ (i := 3) (N := some 17) (v := ?_) (a' := ?_) #[true, true, true, true, false, false, false, false, false] rfl rfl (any_of HT_.out (by kernel_rfl)) (fun _ _ _ h => h) (Or.inl ⟨by rfl, ?_⟩) ?_ ?_
                                rotate_left
                                · intro w'
                                  go_simp
                                  with_reducible rfl
                                rotate_left
                                · simp only [Act.put, List.setIfInBounds_toArray, List.set_cons_zero, List.set_cons_succ, i64_w, i32_w]
                                  rfl
                                refine pure_ (i := 4) (N := some 21) (v := ?_) (a' := ?_) #[true, true, true, true, true, false, false, false, false] rfl rfl (any_of HT_.out (by kernel_rfl)) (fun _ _ _ h => h) (Or.inl ⟨by rfl, ?_⟩) ?_ ?_
                                rotate_left
                                · intro w'
                                  go_simp
                                  with_reducible rfl
                                rotate_left
                                · simp only [Act.put, List.setIfInBounds_toArray, List.set_cons_zero, List.set_cons_succ, i64_w, i32_w]
                                  rfl
                                refine pure_ (i := 5) (N := some 22) (v := ?_) (a' := ?_) #[true, true, true, true, true, true, false, false, false] rfl rfl (any_of HT_.out (by kernel_rfl)) (fun _ _ _ h => h) (Or.inl ⟨by rfl, ?_⟩) ?_ ?_
                                rotate_left
                                · intro w'
                                  go_simp
                                  with_reducible rfl
                                rotate_left
                                · simp only [Act.put, List.setIfInBounds_toArray, List.set_cons_zero, List.set_cons_succ, i64_w, i32_w]
                                  rfl
                                refine one_ (i := 6) (N := some 5) #[true, true, true, true, true, true, true, false, false] rfl rfl (one_of HT_.out (by kernel_rfl)) (by decide) (fun K hK => ?_)
                                refine box_step ?hg (N := 5) ?hd (cs := #[.int .i64 0, .int .i64 0, .int .i64 0, .slice none 0 0]) (t := 26) ?hr ?_; (case hd => rfl); (case hg => rfl); (case hr => first | (go_simp; done) | (go_simp; rfl))
                                intro gb228 hg w41 hbox hb
                                have n0_ := Aside0.mk (Kd.R_below q161_ hb)
                                have n1_ := Aside0.mk (Kd.R_below q162_ hb)
                                have n2_ := Aside0.mk (Kd.R_below q163_ hb)
                                have n3_ := Aside0.mk (Kd.R_below q164_ hb)
                                have n4_ := Aside0.mk (Kd.R_below q165_ hb)
                                have n5_ := Aside0.mk (blk_below (g := gb206) (o := .cells #[.int .i64 t199, .int .i64 t200, .int .i64 t201, .slice Ao30 t202.length co30] 26 (0, 0)) q142_ hb)
                                have n6_ := Aside0.mk (blk_below (g := gb214) (o := .cells #[.int .i64 t207, .int .i64 t208, .int .i64 t209, .slice Ao35 t210.length co35] 26 (0, 0)) q143_ hb)
                                have n7_ := Aside0.mk (below_step q80_ hb)
                                have n8_ := Aside0.mk (hbox)
                                have n9_ := Aside0.mk ((q49_ : w.heap.size ≤ gb228))
                                have n10_ := Aside0.mk ((q49_ : w.heap.size ≤ gb228))
                                have n11_ := Aside0.mk ((q11_ : gb206 ≠ gb228))
                                have n12_ := Aside0.mk ((q12_ : gb228 ≠ gb206))
                                have n13_ := Aside0.mk ((q13_ : gb214 ≠ gb228))
                                have n14_ := Aside0.mk ((q14_ : gb228 ≠ gb214))
                                clear HO198
                                clear HO204
                                clear HO212
                                clear HO220
                                clear HO226
                                clear BK206
                                clear BK214
                                clear HB
                                have HO198 := n0_
                                have HO204 := n1_
                                have HO212 := n2_
                                have HO220 := n3_
                                have HO226 := n4_
                                have BK206 := n5_
                                have BK214 := n6_
                                have HB := n7_
                                have BK228 := n8_
                                have GW228 := n9_
                                have GE228 := n10_
                                have NB206_228 := n11_
                                have NB228_206 := n12_
                                have NB214_228 := n13_
                                have NB228_214 := n14_
                                clear n0_ n1_ n2_ n3_ n4_ n5_ n6_ n7_ n8_ n9_ n10_ n11_ n12_ n13_ n14_
                                clear hb hbox hg
                                refine hK.out _ _ ⟨(blk_cell BK206.out 0).trans rfl, (blk_cell BK206.out 1).trans rfl, (blk_cell BK206.out 2).trans rfl, (blk_cell BK206.out 3).trans rfl⟩ (fun hHeld => ?_)
                                clear hK K
                                refine norm_ (a' := ?_) ?_ ?_
                                rotate_left
                                · show Act.put _ (some 5) _ = _
                                  simp only [Act.put, List.setIfInBounds_toArray, List.set_cons_zero, List.set_cons_succ, i64_w, i32_w]
                                  rfl
                                exact norm_ q174_ (hCont (.slice Ao39 t218.length co39, v225, gb228) _ ⟨hHeld, q92_, q93_, q94_, q90_, q91_, q142_, q143_, q144_, GW228.out, GE228.out, NB206_228.out, NB228_206.out, NB214_228.out, NB228_214.out, q53_⟩)
                              · skip
                                refine box_step ?hg (N := 5) ?hd (cs := #[.int .i64 0, .int .i64 0, .int .i64 0, .slice none 0 0]) (t := 26) ?hr ?_; (case hd => rfl); (case hg => rfl); (case hr => first | (go_simp; done) | (go_simp; rfl))
                                intro gb228 hg w39 hbox hb
                                have n0_ := Aside0.mk (Kd.R_below q161_ hb)
                                have n1_ := Aside0.mk (Kd.R_below q162_ hb)
                                have n2_ := Aside0.mk (Kd.R_below q163_ hb)
                                have n3_ := Aside0.mk (Kd.R_below q164_ hb)
                                have n4_ := Aside0.mk (blk_below (g := gb206) (o := .cells #[.int .i64 t199, .int .i64 t200, .int .i64 t201, .slice Ao30 t202.length co30] 26 (0, 0)) q142_ hb)
                                have n5_ := Aside0.mk (blk_below (g := gb214) (o := .cells #[.int .i64 t207, .int .i64 t208, .int .i64 t209, .slice Ao35 t210.length co35] 26 (0, 0)) q143_ hb)
                                have n6_ := Aside0.mk (below_step q80_ hb)
                                have n7_ := Aside0.mk (hbox)
                                have n8_ := Aside0.mk ((q49_ : w.heap.size ≤ gb228))
                                have n9_ := Aside0.mk ((q49_ : w.heap.size ≤ gb228))
                                have n10_ := Aside0.mk ((q11_ : gb206 ≠ gb228))
                                have n11_ := Aside0.mk ((q12_ : gb228 ≠ gb206))
                                have n12_ := Aside0.mk ((q13_ : gb214 ≠ gb228))
                                have n13_ := Aside0.mk ((q14_ : gb228 ≠ gb214))
                                clear HO198
                                clear HO204
                                clear HO212
                                clear HO220
                                clear BK206
                                clear BK214
                                clear HB
                                have HO198 := n0_
                                have HO204 := n1_
                                have HO212 := n2_
                                have HO220 := n3_
                                have BK206 := n4_
                                have BK214 := n5_
                                have HB := n6_
                                have BK228 := n7_
                                have GW228 := n8_
                                have GE228 := n9_
                                have NB206_228 := n10_
                                have NB228_206 := n11_
                                have NB214_228 := n12_
                                have NB228_214 := n13_
                                clear n0_ n1_ n2_ n3_ n4_ n5_ n6_ n7_ n8_ n9_ n10_ n11_ n12_ n13_
                                clear hb hbox hg
                                obtain ⟨Ao40, co40, eo40⟩ := Kd.R_slice HO220.out
                                (first | subst eo40 | (injection eo40 with f1_ f2_ f3_; have f4_ := f1_.symm; have f5_ := f3_.symm; clear f1_ f2_ f3_; subst f4_; subst f5_))
                                refine hK.out _ _ ⟨(blk_cell BK206.out 0).trans rfl, (blk_cell BK206.out 1).trans rfl, (blk_cell BK206.out 2).trans rfl, (blk_cell BK206.out 3).trans rfl⟩ (fun hHeld => ?_)
                                clear hK K
                                refine norm_ (a' := ?_) ?_ ?_
                                rotate_left
                                · show Act.put _ (some 5) _ = _
                                  simp only [Act.put, List.setIfInBounds_toArray, List.set_cons_zero, List.set_cons_succ, i64_w, i32_w]
                                  rfl
                                refine one_ (i := 2) (N := some 20) #[true, true, true, false, false, false, true, false, false] rfl rfl (one_of HT_.out (by kernel_rfl)) (by decide) (fun K hK => ?_)
                                refine goes_ Try.func14 (by kernel_rfl) rfl #[.agg #[.int .i64 t215, .int .i64 t216, .int .i64 t217, .slice Ao40 t218.length co40], .agg #[.int .i64 t199, .int .i64 t200, .int .i64 t201, .slice Ao30 t202.length co30], .int .i64 0, .int .i64 0] (by rfl) rfl rfl q117_ ?_
                                with_reducible refine (plane_Blit.calls k t215 t216 t217 _ _ t218 t199 t200 t201 _ _ t202 0 0 t221 t222 t223 t224 true _ ?side1 ?side2 ?side3 ?side4 A5.out).mono ?_
                                (case side1 => repeat (first | exact (Kd.R_reads' HO220.out).2.2 | (with_reducible refine Kd.C_alloc ?_ _) | (with_reducible refine Kd.C_drewN ?_ _) | (with_reducible refine Kd.C_drew ?_)))
                                (case side2 => exact (Kd.R_reads' HO220.out).2.1)
                                (case side3 => repeat (first | exact (Kd.R_reads' HO204.out).2.2 | (with_reducible refine Kd.C_alloc ?_ _) | (with_reducible refine Kd.C_drewN ?_ _) | (with_reducible refine Kd.C_drew ?_)))
                                (case side4 => exact (Kd.R_reads' HO204.out).2.1)
                                rintro e w41 ⟨v225, rfl, ho0, hb⟩
                                refine ⟨_, rfl, ?_⟩
                                have n0_ := Aside0.mk (Kd.R_elder' q161_ (Kd.R_base ho0) hb)
                                have n1_ := Aside0.mk (Kd.R_elder' q162_ (Kd.R_base ho0) hb)
                                have n2_ := Aside0.mk (Kd.R_elder' q163_ (Kd.R_base ho0) hb)
                                have n3_ := Aside0.mk (Kd.R_elder' q164_ (Kd.R_base ho0) hb)
                                have n4_ := Aside0.mk (Kd.R_lower (Kd.R_new' (Kd.R_new' (Kd.R_new' (Kd.R_new' ho0 (Kd.R_lt q161_)) (Kd.R_lt q162_)) (Kd.R_lt q163_)) (Kd.R_lt q164_)) (below_size q53_))
                                have n5_ := Aside0.mk (blk_below (g := gb206) (o := .cells #[.int .i64 t199, .int .i64 t200, .int .i64 t201, .slice Ao30 t202.length co30] 26 (0, 0)) q142_ hb)
                                have n6_ := Aside0.mk (blk_below (g := gb214) (o := .cells #[.int .i64 t207, .int .i64 t208, .int .i64 t209, .slice Ao35 t210.length co35] 26 (0, 0)) q143_ hb)
                                have n7_ := Aside0.mk (blk_below (g := gb228) (o := .cells #[.int .i64 0, .int .i64 0, .int .i64 0, .slice none 0 0] 26 (0, 0)) q144_ hb)
                                have n8_ := Aside0.mk (below_step q53_ hb)
                                clear HO198
                                clear HO204
                                clear HO212
                                clear HO220
                                clear BK206
                                clear BK214
                                clear BK228
                                clear HB
                                have HO198 := n0_
                                have HO204 := n1_
                                have HO212 := n2_
                                have HO220 := n3_
                                have HO226 := n4_
                                have BK206 := n5_
                                have BK214 := n6_
                                have BK228 := n7_
                                have HB := n8_
                                clear n0_ n1_ n2_ n3_ n4_ n5_ n6_ n7_ n8_
                                (try clear hb)
                                (try clear hb2)
                                (try clear hk)
                                (try clear hi)
                                (try clear ho0)
                                refine hK.out _ _ ⟨(blk_cell BK206.out 0).trans rfl, (blk_cell BK206.out 1).trans rfl, (blk_cell BK206.out 2).trans rfl, (blk_cell BK206.out 3).trans rfl⟩ (fun hHeld => ?_)
                                clear hK K
                                refine norm_ (a' := ?_) ?_ ?_
                                rotate_left
                                · show Act.put _ (some 20) _ = _
                                  simp only [Act.put, List.setIfInBounds_toArray, List.set_cons_zero, List.set_cons_succ, i64_w, i32_w]
                                  rfl
                                refine pure_ (i := 3) (N := some 17) (v := ?_) (a' := ?_) #[true, true, true, true, false, false, true, false, false] rfl rfl (any_of HT_.out (by kernel_rfl)) (fun _ _ _ h => h) (Or.inl ⟨by rfl, ?_⟩) ?_ ?_
                                rotate_left
                                · intro w'
                                  go_simp
                                  with_reducible rfl
                                rotate_left
                                · simp only [Act.put, List.setIfInBounds_toArray, List.set_cons_zero, List.set_cons_succ, i64_w, i32_w]
                                  rfl
                                refine pure_ (i := 4) (N := some 21) (v := ?_) (a' := ?_) #[true, true, true, true, true, false, true, false, false] rfl rfl (any_of HT_.out (by kernel_rfl)) (fun _ _ _ h => h) (Or.inl ⟨by rfl, ?_⟩) ?_ ?_
                                rotate_left
                                · intro w'
                                  go_simp
                                  with_reducible rfl
                                rotate_left
                                · simp only [Act.put, List.setIfInBounds_toArray, List.set_cons_zero, List.set_cons_succ, i64_w, i32_w]
                                  rfl
                                refine pure_ (i := 5) (N := some 22) (v := ?_) (a' := ?_) #[true, true, true, true, true, true, true, false, false] rfl rfl (any_of HT_.out (by kernel_rfl)) (fun _ _ _ h => h) (Or.inl ⟨by rfl, ?_⟩) ?_ ?_
                                rotate_left
                                · intro w'
                                  go_simp
                                  with_reducible rfl
                                rotate_left
                                · simp only [Act.put, List.setIfInBounds_toArray, List.set_cons_zero, List.set_cons_succ, i64_w, i32_w]
                                  rfl
                                exact norm_ q174_ (hCont (.slice Ao40 t218.length co40, v225, gb228) _ ⟨hHeld, q92_, q93_, q94_, q90_, q91_, q142_, q143_, q144_, GW228.out, GE228.out, NB206_228.out, NB228_206.out, NB214_228.out, NB228_214.out, q53_⟩)
                            · skip
                              refine box_step ?hg (N := 5) ?hd (cs := #[.int .i64 0, .int .i64 0, .int .i64 0, .slice none 0 0]) (t := 26) ?hr ?_; (case hd => rfl); (case hg => rfl); (case hr => first | (go_simp; done) | (go_simp; rfl))
                              intro gb228 hg w38 hbox hb
                              have n0_ := Aside0.mk (Kd.R_below q161_ hb)
                              have n1_ := Aside0.mk (Kd.R_below q162_ hb)
                              have n2_ := Aside0.mk (Kd.R_below q163_ hb)
                              have n3_ := Aside0.mk (blk_below (g := gb206) (o := .cells #[.int .i64 t199, .int .i64 t200, .int .i64 t201, .slice Ao30 t202.length co30] 26 (0, 0)) q142_ hb)
                              have n4_ := Aside0.mk (blk_below (g := gb214) (o := .cells #[.int .i64 t207, .int .i64 t208, .int .i64 t209, .slice Ao35 t210.length co35] 26 (0, 0)) q143_ hb)
                              have n5_ := Aside0.mk (below_step q80_ hb)
                              have n6_ := Aside0.mk (hbox)
                              have n7_ := Aside0.mk ((q49_ : w.heap.size ≤ gb228))
                              have n8_ := Aside0.mk ((q49_ : w.heap.size ≤ gb228))
                              have n9_ := Aside0.mk ((q11_ : gb206 ≠ gb228))
                              have n10_ := Aside0.mk ((q12_ : gb228 ≠ gb206))
                              have n11_ := Aside0.mk ((q13_ : gb214 ≠ gb228))
                              have n12_ := Aside0.mk ((q14_ : gb228 ≠ gb214))
                              clear HO198
                              clear HO204
                              clear HO212
                              clear BK206
                              clear BK214
                              clear HB
                              have HO198 := n0_
                              have HO204 := n1_
                              have HO212 := n2_
                              have BK206 := n3_
                              have BK214 := n4_
                              have HB := n5_
                              have BK228 := n6_
                              have GW228 := n7_
                              have GE228 := n8_
                              have NB206_228 := n9_
                              have NB228_206 := n10_
                              have NB214_228 := n11_
                              have NB228_214 := n12_
                              clear n0_ n1_ n2_ n3_ n4_ n5_ n6_ n7_ n8_ n9_ n10_ n11_ n12_
                              clear hb hbox hg
                              refine hK.out _ _ ⟨(blk_cell BK206.out 0).trans rfl, (blk_cell BK206.out 1).trans rfl, (blk_cell BK206.out 2).trans rfl, (blk_cell BK206.out 3).trans rfl⟩ (fun hHeld => ?_)
                              clear hK K
                              refine norm_ (a' := ?_) ?_ ?_
                              rotate_left
                              · show Act.put _ (some 5) _ = _
                                simp only [Act.put, List.setIfInBounds_toArray, List.set_cons_zero, List.set_cons_succ, i64_w, i32_w]
                                rfl
                              refine one_ (i := 0) (N := some 18) #[true, true, false, false, false, false, true, false, false] rfl rfl (one_of HT_.out (by kernel_rfl)) (by decide) (fun K hK => ?_)
                              refine goes_ Try.func41 (by kernel_rfl) rfl #[] (by rfl) rfl rfl q117_ ?_
                              with_reducible refine (tilefarmlaw4_two.calls  t215 t216 t217 t218 _ A4.out).mono ?_
                              rintro e w39 ⟨v219, rfl, ho0, hb⟩
                              refine ⟨_, rfl, ?_⟩
                              have n0_ := Aside0.mk (Kd.R_elder' q161_ (Kd.R_base ho0) hb)
                              have n1_ := Aside0.mk (Kd.R_elder' q162_ (Kd.R_base ho0) hb)
                              have n2_ := Aside0.mk (Kd.R_elder' q163_ (Kd.R_base ho0) hb)
                              have n3_ := Aside0.mk (Kd.R_lower (Kd.R_new' (Kd.R_new' (Kd.R_new' ho0 (Kd.R_lt q161_)) (Kd.R_lt q162_)) (Kd.R_lt q163_)) (below_size q53_))
                              have n4_ := Aside0.mk (blk_below (g := gb206) (o := .cells #[.int .i64 t199, .int .i64 t200, .int .i64 t201, .slice Ao30 t202.length co30] 26 (0, 0)) q142_ hb)
                              have n5_ := Aside0.mk (blk_below (g := gb214) (o := .cells #[.int .i64 t207, .int .i64 t208, .int .i64 t209, .slice Ao35 t210.length co35] 26 (0, 0)) q143_ hb)
                              have n6_ := Aside0.mk (blk_below (g := gb228) (o := .cells #[.int .i64 0, .int .i64 0, .int .i64 0, .slice none 0 0] 26 (0, 0)) q144_ hb)
                              have n7_ := Aside0.mk (below_step q53_ hb)
                              clear HO198
                              clear HO204
                              clear HO212
                              clear BK206
                              clear BK214
                              clear BK228
                              clear HB
                              have HO198 := n0_
                              have HO204 := n1_
                              have HO212 := n2_
                              have HO220 := n3_
                              have BK206 := n4_
                              have BK214 := n5_
                              have BK228 := n6_
                              have HB := n7_
                              clear n0_ n1_ n2_ n3_ n4_ n5_ n6_ n7_
                              (try clear hb)
                              (try clear hb2)
                              (try clear hk)
                              (try clear hi)
                              (try clear ho0)
                              obtain ⟨Ao40, co40, eo40⟩ := Kd.R_slice HO220.out
                              (first | subst eo40 | (injection eo40 with f1_ f2_ f3_; have f4_ := f1_.symm; have f5_ := f3_.symm; clear f1_ f2_ f3_; subst f4_; subst f5_))
                              refine hK.out _ _ ⟨(blk_cell BK206.out 0).trans rfl, (blk_cell BK206.out 1).trans rfl, (blk_cell BK206.out 2).trans rfl, (blk_cell BK206.out 3).trans rfl⟩ (fun hHeld => ?_)
                              clear hK K
                              refine norm_ (a' := ?_) ?_ ?_
                              rotate_left
                              · show Act.put _ (some 18) _ = _
                                simp only [Act.put, List.setIfInBounds_toArray, List.set_cons_zero, List.set_cons_succ, i64_w, i32_w]
                                rfl
                              refine one_ (i := 2) (N := some 20) #[true, true, true, false, false, false, true, false, false] rfl rfl (one_of HT_.out (by kernel_rfl)) (by decide) (fun K hK => ?_)
                              refine goes_ Try.func14 (by kernel_rfl) rfl #[.agg #[.int .i64 t215, .int .i64 t216, .int .i64 t217, .slice Ao40 t218.length co40], .agg #[.int .i64 t199, .int .i64 t200, .int .i64 t201, .slice Ao30 t202.length co30], .int .i64 0, .int .i64 0] (by rfl) rfl rfl q117_ ?_
                              with_reducible refine (plane_Blit.calls k t215 t216 t217 _ _ t218 t199 t200 t201 _ _ t202 0 0 t221 t222 t223 t224 true _ ?side1 ?side2 ?side3 ?side4 A5.out).mono ?_
                              (case side1 => repeat (first | exact (Kd.R_reads' HO220.out).2.2 | (with_reducible refine Kd.C_alloc ?_ _) | (with_reducible refine Kd.C_drewN ?_ _) | (with_reducible refine Kd.C_drew ?_)))
                              (case side2 => exact (Kd.R_reads' HO220.out).2.1)
                              (case side3 => repeat (first | exact (Kd.R_reads' HO204.out).2.2 | (with_reducible refine Kd.C_alloc ?_ _) | (with_reducible refine Kd.C_drewN ?_ _) | (with_reducible refine Kd.C_drew ?_)))
                              (case side4 => exact (Kd.R_reads' HO204.out).2.1)
                              rintro e w41 ⟨v225, rfl, ho0, hb⟩
                              refine ⟨_, rfl, ?_⟩
                              have n0_ := Aside0.mk (Kd.R_elder' q161_ (Kd.R_base ho0) hb)
                              have n1_ := Aside0.mk (Kd.R_elder' q162_ (Kd.R_base ho0) hb)
                              have n2_ := Aside0.mk (Kd.R_elder' q163_ (Kd.R_base ho0) hb)
                              have n3_ := Aside0.mk (Kd.R_elder' q164_ (Kd.R_base ho0) hb)
                              have n4_ := Aside0.mk (Kd.R_lower (Kd.R_new' (Kd.R_new' (Kd.R_new' (Kd.R_new' ho0 (Kd.R_lt q161_)) (Kd.R_lt q162_)) (Kd.R_lt q163_)) (Kd.R_lt q164_)) (below_size q53_))
                              have n5_ := Aside0.mk (blk_below (g := gb206) (o := .cells #[.int .i64 t199, .int .i64 t200, .int .i64 t201, .slice Ao30 t202.length co30] 26 (0, 0)) q142_ hb)
                              have n6_ := Aside0.mk (blk_below (g := gb214) (o := .cells #[.int .i64 t207, .int .i64 t208, .int .i64 t209, .slice Ao35 t210.length co35] 26 (0, 0)) q143_ hb)
                              have n7_ := Aside0.mk (blk_below (g := gb228) (o := .cells #[.int .i64 0, .int .i64 0, .int .i64 0, .slice none 0 0] 26 (0, 0)) q144_ hb)
                              have n8_ := Aside0.mk (below_step q53_ hb)
                              clear HO198
                              clear HO204
                              clear HO212
                              clear HO220
                              clear BK206
                              clear BK214
                              clear BK228
                              clear HB
                              have HO198 := n0_
                              have HO204 := n1_
                              have HO212 := n2_
                              have HO220 := n3_
                              have HO226 := n4_
                              have BK206 := n5_
                              have BK214 := n6_
                              have BK228 := n7_
                              have HB := n8_
                              clear n0_ n1_ n2_ n3_ n4_ n5_ n6_ n7_ n8_
                              (try clear hb)
                              (try clear hb2)
                              (try clear hk)
                              (try clear hi)
                              (try clear ho0)
                              refine hK.out _ _ ⟨(blk_cell BK206.out 0).trans rfl, (blk_cell BK206.out 1).trans rfl, (blk_cell BK206.out 2).trans rfl, (blk_cell BK206.out 3).trans rfl⟩ (fun hHeld => ?_)
                              clear hK K
                              refine norm_ (a' := ?_) ?_ ?_
                              rotate_left
                              · show Act.put _ (some 20) _ = _
                                simp only [Act.put, List.setIfInBounds_toArray, List.set_cons_zero, List.set_cons_succ, i64_w, i32_w]
                                rfl
                              refine pure_ (i := 3) (N := some 17) (v := ?_) (a' := ?_) #[true, true, true, true, false, false, true, false, false] rfl rfl (any_of HT_.out (by kernel_rfl)) (fun _ _ _ h => h) (Or.inl ⟨by rfl, ?_⟩) ?_ ?_
                              rotate_left
                              · intro w'
                                go_simp
                                with_reducible rfl
                              rotate_left
                              · simp only [Act.put, List.setIfInBounds_toArray, List.set_cons_zero, List.set_cons_succ, i64_w, i32_w]
                                rfl
                              refine pure_ (i := 4) (N := some 21) (v := ?_) (a' := ?_) #[true, true, true, true, true, false, true, false, false] rfl rfl (any_of HT_.out (by kernel_rfl)) (fun _ _ _ h => h) (Or.inl ⟨by rfl, ?_⟩) ?_ ?_
                              rotate_left
                              · intro w'
                                go_simp
                                with_reducible rfl
                              rotate_left
                              · simp only [Act.put, List.setIfInBounds_toArray, List.set_cons_zero, List.set_cons_succ, i64_w, i32_w]
                                rfl
                              refine pure_ (i := 5) (N := some 22) (v := ?_) (a' := ?_) #[true, true, true, true, true, true, true, false, false] rfl rfl (any_of HT_.out (by kernel_rfl)) (fun _ _ _ h => h) (Or.inl ⟨by rfl, ?_⟩) ?_ ?_
                              rotate_left
                              · intro w'
                                go_simp
                                with_reducible rfl
                              rotate_left
                              · simp only [Act.put, List.setIfInBounds_toArray, List.set_cons_zero, List.set_cons_succ, i64_w, i32_w]
                                rfl
                              exact norm_ q174_ (hCont (.slice Ao40 t218.length co40, v225, gb228) _ ⟨hHeld, q92_, q93_, q94_, q90_, q91_, q142_, q143_, q144_, GW228.out, GE228.out, NB206_228.out, NB228_206.out, NB214_228.out, NB228_214.out, q53_⟩)
                          rintro ⟨v219, v225, gb228⟩ w42 ⟨hS_, h0_, h1_, h2_, h3_, h4_, h5_, h6_, h7_, h8_, h9_, h10_, h11_, h12_, h13_, h14_⟩
                          have n0_ : Aside0 (Kd.R (Kd.int .i64) 3 w42 w.heap.size (fun k_ => some k_ ≠ (.slice Ao30 t202.length co30 : Value).ownBlock ∧ some k_ ≠ (.slice Ao35 t210.length co35 : Value).ownBlock ∧ some k_ ≠ (v219 : Value).ownBlock ∧ some k_ ≠ (v225 : Value).ownBlock) (.slice Ao26 t196.length co26) t196) := ⟨h0_⟩
                          have n1_ : Aside0 (Kd.R (Kd.int .i64) 3 w42 w.heap.size (fun k_ => some k_ ≠ (.slice Ao26 t196.length co26 : Value).ownBlock ∧ some k_ ≠ (.slice Ao35 t210.length co35 : Value).ownBlock ∧ some k_ ≠ (v219 : Value).ownBlock ∧ some k_ ≠ (v225 : Value).ownBlock) (.slice Ao30 t202.length co30) t202) := ⟨h1_⟩
                          have n2_ : Aside0 (Kd.R (Kd.int .i64) 3 w42 w.heap.size (fun k_ => some k_ ≠ (.slice Ao26 t196.length co26 : Value).ownBlock ∧ some k_ ≠ (.slice Ao30 t202.length co30 : Value).ownBlock ∧ some k_ ≠ (v219 : Value).ownBlock ∧ some k_ ≠ (v225 : Value).ownBlock) (.slice Ao35 t210.length co35) t210) := ⟨h2_⟩
                          have n3_ : Aside0 (Kd.R (Kd.int .i64) 3 w42 w.heap.size (fun k_ => some k_ ≠ (.slice Ao26 t196.length co26 : Value).ownBlock ∧ some k_ ≠ (.slice Ao30 t202.length co30 : Value).ownBlock ∧ some k_ ≠ (.slice Ao35 t210.length co35 : Value).ownBlock ∧ some k_ ≠ (v225 : Value).ownBlock) v219 t218) := ⟨h3_⟩
                          have n4_ : Aside0 (Kd.R (Kd.int .i64) 3 w42 w.heap.size (fun k_ => some k_ ≠ (.slice Ao26 t196.length co26 : Value).ownBlock ∧ some k_ ≠ (.slice Ao30 t202.length co30 : Value).ownBlock ∧ some k_ ≠ (.slice Ao35 t210.length co35 : Value).ownBlock ∧ some k_ ≠ (v219 : Value).ownBlock) v225 t224) := ⟨h4_⟩
                          have n5_ : Aside0 (w42.heap[gb206]? = some (.cells #[.int .i64 t199, .int .i64 t200, .int .i64 t201, .slice Ao30 t202.length co30] 26 (0, 0))) := ⟨h5_⟩
                          have n6_ : Aside0 (w42.heap[gb214]? = some (.cells #[.int .i64 t207, .int .i64 t208, .int .i64 t209, .slice Ao35 t210.length co35] 26 (0, 0))) := ⟨h6_⟩
                          have n7_ : Aside0 (w42.heap[gb228]? = some (.cells #[.int .i64 0, .int .i64 0, .int .i64 0, .slice none 0 0] 26 (0, 0))) := ⟨h7_⟩
                          have n8_ : Aside0 (w.heap.size ≤ gb228) := ⟨h8_⟩
                          have n9_ : Aside0 (w.heap.size ≤ gb228) := ⟨h9_⟩
                          have n10_ : Aside0 (gb206 ≠ gb228) := ⟨h10_⟩
                          have n11_ : Aside0 (gb228 ≠ gb206) := ⟨h11_⟩
                          have n12_ : Aside0 (gb214 ≠ gb228) := ⟨h12_⟩
                          have n13_ : Aside0 (gb228 ≠ gb214) := ⟨h13_⟩
                          have n14_ : Aside0 (Below w.heap.size w w42) := ⟨h14_⟩
                          clear HO198
                          clear HO204
                          clear HO212
                          clear BK206
                          clear BK214
                          clear HB
                          clear h0_ h1_ h2_ h3_ h4_ h5_ h6_ h7_ h8_ h9_ h10_ h11_ h12_ h13_ h14_
                          have HO198 := n0_
                          have HO204 := n1_
                          have HO212 := n2_
                          have HO220 := n3_
                          have HO226 := n4_
                          have BK206 := n5_
                          have BK214 := n6_
                          have BK228 := n7_
                          have GW228 := n8_
                          have GE228 := n9_
                          have NB206_228 := n10_
                          have NB228_206 := n11_
                          have NB214_228 := n12_
                          have NB228_214 := n13_
                          have HB := n14_
                          clear n0_ n1_ n2_ n3_ n4_ n5_ n6_ n7_ n8_ n9_ n10_ n11_ n12_ n13_ n14_
                          have hHeld : w42.cell? ⟨gb206, 0, none⟩ = some (.int .i64 t199) ∧ w42.cell? ⟨gb206, 1, none⟩ = some (.int .i64 t200) ∧ w42.cell? ⟨gb206, 2, none⟩ = some (.int .i64 t201) ∧ w42.cell? ⟨gb206, 3, none⟩ = some (.slice Ao30 t202.length co30) := hS_
                          obtain ⟨Ao46, co46, eo46⟩ := Kd.R_slice HO226.out
                          (first | subst eo46 | (injection eo46 with f1_ f2_ f3_; have f4_ := f1_.symm; have f5_ := f3_.symm; clear f1_ f2_ f3_; subst f4_; subst f5_))
                          refine norm_ (a' := ?_) ?_ ?_
                          rotate_left
                          · simp only [putAll, Act.put, List.setIfInBounds_toArray, List.set_cons_zero, List.set_cons_succ]
                            rfl
                          refine one_ (i := 7) (N := none) #[true, true, true, true, true, true, true, true, false] rfl rfl (one_of HT_.out (by kernel_rfl)) (by decide) (fun K hK => ?_)
                          have hs43 : w42.cell? ⟨gb228, 0, none⟩ = some (.int .i64 0) := (blk_cell BK228.out 0).trans rfl
                          have hfs43 := blk_frozen BK228.out 0
                          have hns43_0 := NB206_228.out
                          have hns43_1 := NB214_228.out
                          have hms43_0 := NB228_206.out
                          have hms43_1 := NB228_214.out
                          have hs44 : w42.cell? ⟨gb228, 1, none⟩ = some (.int .i64 0) := (blk_cell BK228.out 1).trans rfl
                          have hfs44 := blk_frozen BK228.out 1
                          have hns44_0 := NB206_228.out
                          have hns44_1 := NB214_228.out
                          have hms44_0 := NB228_206.out
                          have hms44_1 := NB228_214.out
                          have hs45 : w42.cell? ⟨gb228, 2, none⟩ = some (.int .i64 0) := (blk_cell BK228.out 2).trans rfl
                          have hfs45 := blk_frozen BK228.out 2
                          have hns45_0 := NB206_228.out
                          have hns45_1 := NB214_228.out
                          have hms45_0 := NB228_206.out
                          have hms45_1 := NB228_214.out
                          have hs47 : w42.cell? ⟨gb228, 3, none⟩ = some (.slice none 0 0) := (blk_cell BK228.out 3).trans rfl
                          have hfs47 := blk_frozen BK228.out 3
                          have hns47_0 := NB206_228.out
                          have hns47_1 := NB214_228.out
                          have hms47_0 := NB228_206.out
                          have hms47_1 := NB228_214.out
                          refine skip_ (w1 := ?_) (by rfl) rfl ?_ ?_
                          rotate_left
                          · go_simp
                            rfl
                          refine hK.out _ _ ⟨((cell_far (p := ⟨gb228, _, none⟩) NB206_228.out _).trans (((cell_far (p := ⟨gb228, _, none⟩) NB206_228.out _).trans (((cell_far (p := ⟨gb228, _, none⟩) NB206_228.out _).trans (((cell_far (p := ⟨gb228, _, none⟩) NB206_228.out _).trans (hHeld.1)))))))), ((cell_far (p := ⟨gb228, _, none⟩) NB206_228.out _).trans (((cell_far (p := ⟨gb228, _, none⟩) NB206_228.out _).trans (((cell_far (p := ⟨gb228, _, none⟩) NB206_228.out _).trans (((cell_far (p := ⟨gb228, _, none⟩) NB206_228.out _).trans (hHeld.2.1)))))))), ((cell_far (p := ⟨gb228, _, none⟩) NB206_228.out _).trans (((cell_far (p := ⟨gb228, _, none⟩) NB206_228.out _).trans (((cell_far (p := ⟨gb228, _, none⟩) NB206_228.out _).trans (((cell_far (p := ⟨gb228, _, none⟩) NB206_228.out _).trans (hHeld.2.2.1)))))))), ((cell_far (p := ⟨gb228, _, none⟩) NB206_228.out _).trans (((cell_far (p := ⟨gb228, _, none⟩) NB206_228.out _).trans (((cell_far (p := ⟨gb228, _, none⟩) NB206_228.out _).trans (((cell_far (p := ⟨gb228, _, none⟩) NB206_228.out _).trans (hHeld.2.2.2))))))))⟩ (fun hHeld => ?_)
                          clear hK K
                          refine pure_ (i := 8) (N := some 6) (v := ?_) (a' := ?_) #[true, true, true, true, true, true, true, true, true] rfl rfl (any_of HT_.out (by kernel_rfl)) (fun _ _ _ h => h) (Or.inl ⟨by rfl, ?_⟩) ?_ ?_
                          rotate_left
                          · intro w'
                            go_simp
                            with_reducible rfl
                          rotate_left
                          · simp only [Act.put, List.setIfInBounds_toArray, List.set_cons_zero, List.set_cons_succ, i64_w, i32_w]
                            rfl
                          refine done_ (done_of HT_.out (by kernel_rfl)) ?_
                          have hnb48 := NB206_228.out
                          have hnc48 := NB228_206.out
                          have hcz49_0 : w42.cell? ⟨gb206, 0, none⟩ = some (.int .i64 t199) := (blk_cell BK206.out 0).trans rfl
                          have hcz49_1 : w42.cell? ⟨gb206, 1, none⟩ = some (.int .i64 t200) := (blk_cell BK206.out 1).trans rfl
                          have hcz49_2 : w42.cell? ⟨gb206, 2, none⟩ = some (.int .i64 t201) := (blk_cell BK206.out 2).trans rfl
                          have hcz49_3 : w42.cell? ⟨gb206, 3, none⟩ = some (.slice Ao30 t202.length co30) := (blk_cell BK206.out 3).trans rfl
                          have hfz49_0 := blk_frozen BK206.out 0
                          have hfz49_1 := blk_frozen BK206.out 1
                          have hfz49_2 := blk_frozen BK206.out 2
                          have hfz49_3 := blk_frozen BK206.out 3
                          have p229 : 0 ≤ (1 : Int) := (by omega)
                          have q229 : 1 < (t202.length : Int) := of_decide_eq_true q177_
                          obtain ⟨ad229, e229, hx229_0⟩ := Kd.at_int (Kd.R_reads' HO204.out).2.2 1 p229 q229
                          cases e229
                          (try simp only [show (1 : Int).toNat = 1 from rfl, Nat.reduceMul, Nat.reduceEqDiff, Go.Addr.add, ↓reduceIte] at hx229_0)
                          have qi229 : (1 < t202.length) = True := eq_true (by omega)
                          (try rw [show ((1 : Int)).toNat = 1 from rfl] at hx229_0)
                          have hn229_0 : ad229.block ≠ gb228 := Kd.own_blk (Kd.R_ne HO204.out BK228.out (by decide))
                          have hn229_1 : ad229.block ≠ gb228 := Kd.own_blk (Kd.R_ne HO204.out BK228.out (by decide))
                          have hn229_2 : ad229.block ≠ gb228 := Kd.own_blk (Kd.R_ne HO204.out BK228.out (by decide))
                          have hn229_3 : ad229.block ≠ gb228 := Kd.own_blk (Kd.R_ne HO204.out BK228.out (by decide))
                          replace hx229_0 := (cell_far (p := ⟨gb228, 0, none⟩) (by first | (rw [add_block]; exact hn229_0) | (show (Addr.add _ _).block ≠ _; rw [add_block]; exact hn229_0) | exact hn229_0) (.int .i64 t221)).trans hx229_0
                          replace hx229_0 := (cell_far (p := ⟨gb228, 1, none⟩) (by first | (rw [add_block]; exact hn229_1) | (show (Addr.add _ _).block ≠ _; rw [add_block]; exact hn229_1) | exact hn229_1) (.int .i64 t222)).trans hx229_0
                          replace hx229_0 := (cell_far (p := ⟨gb228, 2, none⟩) (by first | (rw [add_block]; exact hn229_2) | (show (Addr.add _ _).block ≠ _; rw [add_block]; exact hn229_2) | exact hn229_2) (.int .i64 t223)).trans hx229_0
                          replace hx229_0 := (cell_far (p := ⟨gb228, 3, none⟩) (by first | (rw [add_block]; exact hn229_3) | (show (Addr.add _ _).block ≠ _; rw [add_block]; exact hn229_3) | exact hn229_3) (.slice Ao46 t224.length co46)).trans hx229_0
                          clear hn229_0
                          clear hn229_1
                          clear hn229_2
                          clear hn229_3
                          replace p229 := eq_true p229
                          replace q229 := eq_true q229
                          have hnb50 := NB214_228.out
                          have hnc50 := NB228_214.out
                          have hcz51_0 : w42.cell? ⟨gb214, 0, none⟩ = some (.int .i64 t207) := (blk_cell BK214.out 0).trans rfl
                          have hcz51_1 : w42.cell? ⟨gb214, 1, none⟩ = some (.int .i64 t208) := (blk_cell BK214.out 1).trans rfl
                          have hcz51_2 : w42.cell? ⟨gb214, 2, none⟩ = some (.int .i64 t209) := (blk_cell BK214.out 2).trans rfl
                          have hcz51_3 : w42.cell? ⟨gb214, 3, none⟩ = some (.slice Ao35 t210.length co35) := (blk_cell BK214.out 3).trans rfl
                          have hfz51_0 := blk_frozen BK214.out 0
                          have hfz51_1 := blk_frozen BK214.out 1
                          have hfz51_2 := blk_frozen BK214.out 2
                          have hfz51_3 := blk_frozen BK214.out 3
                          have hcz52_0 : w42.cell? ⟨gb228, 0, none⟩ = some (.int .i64 0) := (blk_cell BK228.out 0).trans rfl
                          have hcz52_1 : w42.cell? ⟨gb228, 1, none⟩ = some (.int .i64 0) := (blk_cell BK228.out 1).trans rfl
                          have hcz52_2 : w42.cell? ⟨gb228, 2, none⟩ = some (.int .i64 0) := (blk_cell BK228.out 2).trans rfl
                          have hcz52_3 : w42.cell? ⟨gb228, 3, none⟩ = some (.slice none 0 0) := (blk_cell BK228.out 3).trans rfl
                          have hfz52_0 := blk_frozen BK228.out 0
                          have hfz52_1 := blk_frozen BK228.out 1
                          have hfz52_2 := blk_frozen BK228.out 2
                          have hfz52_3 := blk_frozen BK228.out 3
                          have p230 : 0 ≤ (0 : Int) := (by omega)
                          have q230 : 0 < (t224.length : Int) := of_decide_eq_true q177_
                          obtain ⟨ad230, e230, hx230_0⟩ := Kd.at_int (Kd.R_reads' HO226.out).2.2 0 p230 q230
                          cases e230
                          have qi230 : (0 < t224.length) = True := eq_true (by omega)
                          (try rw [show ((0 : Int)).toNat = 0 from rfl] at hx230_0)
                          (try rw [Addr.add_zero'] at hx230_0)
                          have hn230_0 : ad230.block ≠ gb228 := Kd.own_blk (Kd.R_ne HO226.out BK228.out (by decide))
                          have hn230_1 : ad230.block ≠ gb228 := Kd.own_blk (Kd.R_ne HO226.out BK228.out (by decide))
                          have hn230_2 : ad230.block ≠ gb228 := Kd.own_blk (Kd.R_ne HO226.out BK228.out (by decide))
                          have hn230_3 : ad230.block ≠ gb228 := Kd.own_blk (Kd.R_ne HO226.out BK228.out (by decide))
                          replace hx230_0 := (cell_far (p := ⟨gb228, 0, none⟩) (by first | (rw [add_block]; exact hn230_0) | (show (Addr.add _ _).block ≠ _; rw [add_block]; exact hn230_0) | exact hn230_0) (.int .i64 t221)).trans hx230_0
                          replace hx230_0 := (cell_far (p := ⟨gb228, 1, none⟩) (by first | (rw [add_block]; exact hn230_1) | (show (Addr.add _ _).block ≠ _; rw [add_block]; exact hn230_1) | exact hn230_1) (.int .i64 t222)).trans hx230_0
                          replace hx230_0 := (cell_far (p := ⟨gb228, 2, none⟩) (by first | (rw [add_block]; exact hn230_2) | (show (Addr.add _ _).block ≠ _; rw [add_block]; exact hn230_2) | exact hn230_2) (.int .i64 t223)).trans hx230_0
                          replace hx230_0 := (cell_far (p := ⟨gb228, 3, none⟩) (by first | (rw [add_block]; exact hn230_3) | (show (Addr.add _ _).block ≠ _; rw [add_block]; exact hn230_3) | exact hn230_3) (.slice (some ad230) t224.length co46)).trans hx230_0
                          clear hn230_0
                          clear hn230_1
                          clear hn230_2
                          clear hn230_3
                          replace p230 := eq_true p230
                          replace q230 := eq_true q230
                          have mk1_ : True := trivial
                          have mk2_ : True := trivial
                          have mk3_ : True := trivial
                          have mk4_ : True := trivial
                          try go_wp2_with (first | (go_at_call 41; clear mk1_; (with_reducible refine (tilefarmlaw4_two.calls  t231 t232 t233 t234 _ A16.out).mono ?_); rintro e w53 ⟨v235, rfl, ho0, hb⟩; have n0_ := Aside0.mk (Kd.R_elder' (by (with_reducible repeat (first | apply Kd.R_alloc | apply Kd.R_drewN | apply Kd.R_drew)); exact (Kd.R_mono (Kd.R_far (p := ⟨gb228, 3, none⟩) (Kd.R_far (p := ⟨gb228, 2, none⟩) (Kd.R_far (p := ⟨gb228, 1, none⟩) (Kd.R_far (p := ⟨gb228, 0, none⟩) (Kd.R_types HO198.out BK228.out (by decide)) (fun _ hk => hk.2) (.int .i64 t221)) (fun _ hk => hk.2) (.int .i64 t222)) (fun _ hk => hk.2) (.int .i64 t223)) (fun _ hk => hk.2) (.slice (some ad230) t224.length co46)) (fun _ h_ => h_.1))) (Kd.R_base ho0) hb); have n1_ := Aside0.mk (Kd.R_elder' (by (with_reducible repeat (first | apply Kd.R_alloc | apply Kd.R_drewN | apply Kd.R_drew)); exact (Kd.R_mono (Kd.R_far (p := ⟨gb228, 3, none⟩) (Kd.R_far (p := ⟨gb228, 2, none⟩) (Kd.R_far (p := ⟨gb228, 1, none⟩) (Kd.R_far (p := ⟨gb228, 0, none⟩) (Kd.R_types HO204.out BK228.out (by decide)) (fun _ hk => hk.2) (.int .i64 t221)) (fun _ hk => hk.2) (.int .i64 t222)) (fun _ hk => hk.2) (.int .i64 t223)) (fun _ hk => hk.2) (.slice (some ad230) t224.length co46)) (fun _ h_ => h_.1))) (Kd.R_base ho0) hb); have n2_ := Aside0.mk (Kd.R_elder' (by (with_reducible repeat (first | apply Kd.R_alloc | apply Kd.R_drewN | apply Kd.R_drew)); exact (Kd.R_mono (Kd.R_far (p := ⟨gb228, 3, none⟩) (Kd.R_far (p := ⟨gb228, 2, none⟩) (Kd.R_far (p := ⟨gb228, 1, none⟩) (Kd.R_far (p := ⟨gb228, 0, none⟩) (Kd.R_types HO212.out BK228.out (by decide)) (fun _ hk => hk.2) (.int .i64 t221)) (fun _ hk => hk.2) (.int .i64 t222)) (fun _ hk => hk.2) (.int .i64 t223)) (fun _ hk => hk.2) (.slice (some ad230) t224.length co46)) (fun _ h_ => h_.1))) (Kd.R_base ho0) hb); have n3_ := Aside0.mk (Kd.R_elder' (by (with_reducible repeat (first | apply Kd.R_alloc | apply Kd.R_drewN | apply Kd.R_drew)); exact (Kd.R_mono (Kd.R_far (p := ⟨gb228, 3, none⟩) (Kd.R_far (p := ⟨gb228, 2, none⟩) (Kd.R_far (p := ⟨gb228, 1, none⟩) (Kd.R_far (p := ⟨gb228, 0, none⟩) (Kd.R_types HO220.out BK228.out (by decide)) (fun _ hk => hk.2) (.int .i64 t221)) (fun _ hk => hk.2) (.int .i64 t222)) (fun _ hk => hk.2) (.int .i64 t223)) (fun _ hk => hk.2) (.slice (some ad230) t224.length co46)) (fun _ h_ => h_.1))) (Kd.R_base ho0) hb); have n4_ := Aside0.mk (Kd.R_elder' (by (with_reducible repeat (first | apply Kd.R_alloc | apply Kd.R_drewN | apply Kd.R_drew)); exact (Kd.R_mono (Kd.R_far (p := ⟨gb228, 3, none⟩) (Kd.R_far (p := ⟨gb228, 2, none⟩) (Kd.R_far (p := ⟨gb228, 1, none⟩) (Kd.R_far (p := ⟨gb228, 0, none⟩) (Kd.R_types HO226.out BK228.out (by decide)) (fun _ hk => hk.2) (.int .i64 t221)) (fun _ hk => hk.2) (.int .i64 t222)) (fun _ hk => hk.2) (.int .i64 t223)) (fun _ hk => hk.2) (.slice (some ad230) t224.length co46)) (fun _ h_ => h_.1))) (Kd.R_base ho0) hb); have n5_ := Aside0.mk (Kd.R_lower (Kd.R_new' (Kd.R_new' (Kd.R_new' (Kd.R_new' (Kd.R_new' ho0 (Kd.R_lt (by (with_reducible repeat (first | apply Kd.R_alloc | apply Kd.R_drewN | apply Kd.R_drew)); exact (Kd.R_mono (Kd.R_far (p := ⟨gb228, 3, none⟩) (Kd.R_far (p := ⟨gb228, 2, none⟩) (Kd.R_far (p := ⟨gb228, 1, none⟩) (Kd.R_far (p := ⟨gb228, 0, none⟩) (Kd.R_types HO198.out BK228.out (by decide)) (fun _ hk => hk.2) (.int .i64 t221)) (fun _ hk => hk.2) (.int .i64 t222)) (fun _ hk => hk.2) (.int .i64 t223)) (fun _ hk => hk.2) (.slice (some ad230) t224.length co46)) (fun _ h_ => h_.1))))) (Kd.R_lt (by (with_reducible repeat (first | apply Kd.R_alloc | apply Kd.R_drewN | apply Kd.R_drew)); exact (Kd.R_mono (Kd.R_far (p := ⟨gb228, 3, none⟩) (Kd.R_far (p := ⟨gb228, 2, none⟩) (Kd.R_far (p := ⟨gb228, 1, none⟩) (Kd.R_far (p := ⟨gb228, 0, none⟩) (Kd.R_types HO204.out BK228.out (by decide)) (fun _ hk => hk.2) (.int .i64 t221)) (fun _ hk => hk.2) (.int .i64 t222)) (fun _ hk => hk.2) (.int .i64 t223)) (fun _ hk => hk.2) (.slice (some ad230) t224.length co46)) (fun _ h_ => h_.1))))) (Kd.R_lt (by (with_reducible repeat (first | apply Kd.R_alloc | apply Kd.R_drewN | apply Kd.R_drew)); exact (Kd.R_mono (Kd.R_far (p := ⟨gb228, 3, none⟩) (Kd.R_far (p := ⟨gb228, 2, none⟩) (Kd.R_far (p := ⟨gb228, 1, none⟩) (Kd.R_far (p := ⟨gb228, 0, none⟩) (Kd.R_types HO212.out BK228.out (by decide)) (fun _ hk => hk.2) (.int .i64 t221)) (fun _ hk => hk.2) (.int .i64 t222)) (fun _ hk => hk.2) (.int .i64 t223)) (fun _ hk => hk.2) (.slice (some ad230) t224.length co46)) (fun _ h_ => h_.1))))) (Kd.R_lt (by (with_reducible repeat (first | apply Kd.R_alloc | apply Kd.R_drewN | apply Kd.R_drew)); exact (Kd.R_mono (Kd.R_far (p := ⟨gb228, 3, none⟩) (Kd.R_far (p := ⟨gb228, 2, none⟩) (Kd.R_far (p := ⟨gb228, 1, none⟩) (Kd.R_far (p := ⟨gb228, 0, none⟩) (Kd.R_types HO220.out BK228.out (by decide)) (fun _ hk => hk.2) (.int .i64 t221)) (fun _ hk => hk.2) (.int .i64 t222)) (fun _ hk => hk.2) (.int .i64 t223)) (fun _ hk => hk.2) (.slice (some ad230) t224.length co46)) (fun _ h_ => h_.1))))) (Kd.R_lt (by (with_reducible repeat (first | apply Kd.R_alloc | apply Kd.R_drewN | apply Kd.R_drew)); exact (Kd.R_mono (Kd.R_far (p := ⟨gb228, 3, none⟩) (Kd.R_far (p := ⟨gb228, 2, none⟩) (Kd.R_far (p := ⟨gb228, 1, none⟩) (Kd.R_far (p := ⟨gb228, 0, none⟩) (Kd.R_types HO226.out BK228.out (by decide)) (fun _ hk => hk.2) (.int .i64 t221)) (fun _ hk => hk.2) (.int .i64 t222)) (fun _ hk => hk.2) (.int .i64 t223)) (fun _ hk => hk.2) (.slice (some ad230) t224.length co46)) (fun _ h_ => h_.1))))) (below_size q53_)); have n6_ := Aside0.mk (blk_below (g := gb206) (o := .cells #[.int .i64 t199, .int .i64 t200, .int .i64 t201, .slice (some ad229) t202.length co30] 26 (0, 0)) (by (with_reducible repeat (first | refine blk_drewN ?_ _ | refine blk_drew ?_ | refine blk_alloc ?_ _)); refine blk_far ?_ NB206_228.out _; (with_reducible repeat (first | refine blk_drewN ?_ _ | refine blk_drew ?_ | refine blk_alloc ?_ _)); refine blk_far ?_ NB206_228.out _; (with_reducible repeat (first | refine blk_drewN ?_ _ | refine blk_drew ?_ | refine blk_alloc ?_ _)); refine blk_far ?_ NB206_228.out _; (with_reducible repeat (first | refine blk_drewN ?_ _ | refine blk_drew ?_ | refine blk_alloc ?_ _)); refine blk_far ?_ NB206_228.out _; (with_reducible repeat (first | refine blk_drewN ?_ _ | refine blk_drew ?_ | refine blk_alloc ?_ _)); exact BK206.out) hb); have n7_ := Aside0.mk (blk_below (g := gb214) (o := .cells #[.int .i64 t207, .int .i64 t208, .int .i64 t209, .slice Ao35 t210.length co35] 26 (0, 0)) (by (with_reducible repeat (first | refine blk_drewN ?_ _ | refine blk_drew ?_ | refine blk_alloc ?_ _)); refine blk_far ?_ NB214_228.out _; (with_reducible repeat (first | refine blk_drewN ?_ _ | refine blk_drew ?_ | refine blk_alloc ?_ _)); refine blk_far ?_ NB214_228.out _; (with_reducible repeat (first | refine blk_drewN ?_ _ | refine blk_drew ?_ | refine blk_alloc ?_ _)); refine blk_far ?_ NB214_228.out _; (with_reducible repeat (first | refine blk_drewN ?_ _ | refine blk_drew ?_ | refine blk_alloc ?_ _)); refine blk_far ?_ NB214_228.out _; (with_reducible repeat (first | refine blk_drewN ?_ _ | refine blk_drew ?_ | refine blk_alloc ?_ _)); exact BK214.out) hb); have n8_ := Aside0.mk (blk_below (g := gb228) (o := .cells #[.int .i64 t221, .int .i64 t222, .int .i64 t223, .slice (some ad230) t224.length co46] 26 (0, 0)) (by (with_reducible repeat (first | refine blk_drewN ?_ _ | refine blk_drew ?_ | refine blk_alloc ?_ _)); refine blk_put (cs := #[.int .i64 t221, .int .i64 t222, .int .i64 t223, .slice none 0 0]) ?_ 3 _ rfl; (with_reducible repeat (first | refine blk_drewN ?_ _ | refine blk_drew ?_ | refine blk_alloc ?_ _)); refine blk_put (cs := #[.int .i64 t221, .int .i64 t222, .int .i64 0, .slice none 0 0]) ?_ 2 _ rfl; (with_reducible repeat (first | refine blk_drewN ?_ _ | refine blk_drew ?_ | refine blk_alloc ?_ _)); refine blk_put (cs := #[.int .i64 t221, .int .i64 0, .int .i64 0, .slice none 0 0]) ?_ 1 _ rfl; (with_reducible repeat (first | refine blk_drewN ?_ _ | refine blk_drew ?_ | refine blk_alloc ?_ _)); refine blk_put (cs := #[.int .i64 0, .int .i64 0, .int .i64 0, .slice none 0 0]) ?_ 0 _ rfl; (with_reducible repeat (first | refine blk_drewN ?_ _ | refine blk_drew ?_ | refine blk_alloc ?_ _)); exact BK228.out) hb); have n9_ := Aside0.mk (below_step q53_ hb); clear HO198; clear HO204; clear HO212; clear HO220; clear HO226; clear BK206; clear BK214; clear BK228; clear HB; have HO198 := n0_; have HO204 := n1_; have HO212 := n2_; have HO220 := n3_; have HO226 := n4_; have HO236 := n5_; have BK206 := n6_; have BK214 := n7_; have BK228 := n8_; have HB := n9_; clear n0_ n1_ n2_ n3_ n4_ n5_ n6_ n7_ n8_ n9_; (try clear hb); (try clear hb2); (try clear hk); (try clear hi); (try clear ho0); obtain ⟨Ao54, co54, eo54⟩ := Kd.R_slice HO236.out; subst eo54) | (go_at_call 26; (with_reducible refine (plane_At.calls k t231 t232 t233 _ _ t234 1 0 (-1) 5 t237 _ ?side1 ?side2 A17.out).mono ?_); (case side1 => repeat (first | exact (Kd.R_reads' HO236.out).2.2 | (with_reducible refine Kd.C_alloc ?_ _) | (with_reducible refine Kd.C_drewN ?_ _) | (with_reducible refine Kd.C_drew ?_))); (case side2 => exact (Kd.R_reads' HO236.out).2.1); rintro e w55 ⟨rfl, hb⟩; have n0_ := Aside0.mk (Kd.R_below q161_ hb); have n1_ := Aside0.mk (Kd.R_below q162_ hb); have n2_ := Aside0.mk (Kd.R_below q163_ hb); have n3_ := Aside0.mk (Kd.R_below q164_ hb); have n4_ := Aside0.mk (Kd.R_below q165_ hb); have n5_ := Aside0.mk (Kd.R_below q166_ hb); have n6_ := Aside0.mk (blk_below (g := gb206) (o := .cells #[.int .i64 t199, .int .i64 t200, .int .i64 t201, .slice (some ad229) t202.length co30] 26 (0, 0)) q142_ hb); have n7_ := Aside0.mk (blk_below (g := gb214) (o := .cells #[.int .i64 t207, .int .i64 t208, .int .i64 t209, .slice Ao35 t210.length co35] 26 (0, 0)) q143_ hb); have n8_ := Aside0.mk (blk_below (g := gb228) (o := .cells #[.int .i64 t221, .int .i64 t222, .int .i64 t223, .slice (some ad230) t224.length co46] 26 (0, 0)) q144_ hb); have n9_ := Aside0.mk (below_step q53_ hb); clear HO198; clear HO204; clear HO212; clear HO220; clear HO226; clear HO236; clear BK206; clear BK214; clear BK228; clear HB; have HO198 := n0_; have HO204 := n1_; have HO212 := n2_; have HO220 := n3_; have HO226 := n4_; have HO236 := n5_; have BK206 := n6_; have BK214 := n7_; have BK228 := n8_; have HB := n9_; clear n0_ n1_ n2_ n3_ n4_ n5_ n6_ n7_ n8_ n9_; (try clear hb); (try clear hb2); (try clear hk); (try clear hi)) | (go_at_call 41; clear mk2_; (with_reducible refine (tilefarmlaw4_two.calls  t238 t239 t240 t241 _ A19.out).mono ?_); rintro e w56 ⟨v242, rfl, ho0, hb⟩; have n0_ := Aside0.mk (Kd.R_elder' q161_ (Kd.R_base ho0) hb); have n1_ := Aside0.mk (Kd.R_elder' q162_ (Kd.R_base ho0) hb); have n2_ := Aside0.mk (Kd.R_elder' q163_ (Kd.R_base ho0) hb); have n3_ := Aside0.mk (Kd.R_elder' q164_ (Kd.R_base ho0) hb); have n4_ := Aside0.mk (Kd.R_elder' q165_ (Kd.R_base ho0) hb); have n5_ := Aside0.mk (Kd.R_elder' q166_ (Kd.R_base ho0) hb); have n6_ := Aside0.mk (Kd.R_lower (Kd.R_new' (Kd.R_new' (Kd.R_new' (Kd.R_new' (Kd.R_new' (Kd.R_new' ho0 (Kd.R_lt q161_)) (Kd.R_lt q162_)) (Kd.R_lt q163_)) (Kd.R_lt q164_)) (Kd.R_lt q165_)) (Kd.R_lt q166_)) (below_size q53_)); have n7_ := Aside0.mk (blk_below (g := gb206) (o := .cells #[.int .i64 t199, .int .i64 t200, .int .i64 t201, .slice (some ad229) t202.length co30] 26 (0, 0)) q142_ hb); have n8_ := Aside0.mk (blk_below (g := gb214) (o := .cells #[.int .i64 t207, .int .i64 t208, .int .i64 t209, .slice Ao35 t210.length co35] 26 (0, 0)) q143_ hb); have n9_ := Aside0.mk (blk_below (g := gb228) (o := .cells #[.int .i64 t221, .int .i64 t222, .int .i64 t223, .slice (some ad230) t224.length co46] 26 (0, 0)) q144_ hb); have n10_ := Aside0.mk (below_step q53_ hb); clear HO198; clear HO204; clear HO212; clear HO220; clear HO226; clear HO236; clear BK206; clear BK214; clear BK228; clear HB; have HO198 := n0_; have HO204 := n1_; have HO212 := n2_; have HO220 := n3_; have HO226 := n4_; have HO236 := n5_; have HO243 := n6_; have BK206 := n7_; have BK214 := n8_; have BK228 := n9_; have HB := n10_; clear n0_ n1_ n2_ n3_ n4_ n5_ n6_ n7_ n8_ n9_ n10_; (try clear hb); (try clear hb2); (try clear hk); (try clear hi); (try clear ho0); obtain ⟨Ao57, co57, eo57⟩ := Kd.R_slice HO243.out; subst eo57) | (go_at_call 17; (with_reducible refine (plane_Valid.calls k t238 t239 t240 _ _ t241 true _ ?side1 ?side2 A20.out).mono ?_); (case side1 => repeat (first | exact (Kd.R_reads' HO243.out).2.2 | (with_reducible refine Kd.C_alloc ?_ _) | (with_reducible refine Kd.C_drewN ?_ _) | (with_reducible refine Kd.C_drew ?_))); (case side2 => exact (Kd.R_reads' HO243.out).2.1); rintro e w58 ⟨rfl, hb⟩; have n0_ := Aside0.mk (Kd.R_below q161_ hb); have n1_ := Aside0.mk (Kd.R_below q162_ hb); have n2_ := Aside0.mk (Kd.R_below q163_ hb); have n3_ := Aside0.mk (Kd.R_below q164_ hb); have n4_ := Aside0.mk (Kd.R_below q165_ hb); have n5_ := Aside0.mk (Kd.R_below q166_ hb); have n6_ := Aside0.mk (Kd.R_below q167_ hb); have n7_ := Aside0.mk (blk_below (g := gb206) (o := .cells #[.int .i64 t199, .int .i64 t200, .int .i64 t201, .slice (some ad229) t202.length co30] 26 (0, 0)) q142_ hb); have n8_ := Aside0.mk (blk_below (g := gb214) (o := .cells #[.int .i64 t207, .int .i64 t208, .int .i64 t209, .slice Ao35 t210.length co35] 26 (0, 0)) q143_ hb); have n9_ := Aside0.mk (blk_below (g := gb228) (o := .cells #[.int .i64 t221, .int .i64 t222, .int .i64 t223, .slice (some ad230) t224.length co46] 26 (0, 0)) q144_ hb); have n10_ := Aside0.mk (below_step q53_ hb); clear HO198; clear HO204; clear HO212; clear HO220; clear HO226; clear HO236; clear HO243; clear BK206; clear BK214; clear BK228; clear HB; have HO198 := n0_; have HO204 := n1_; have HO212 := n2_; have HO220 := n3_; have HO226 := n4_; have HO236 := n5_; have HO243 := n6_; have BK206 := n7_; have BK214 := n8_; have BK228 := n9_; have HB := n10_; clear n0_ n1_ n2_ n3_ n4_ n5_ n6_ n7_ n8_ n9_ n10_; (try clear hb); (try clear hb2); (try clear hk); (try clear hi)) | (go_at_call 41; clear mk3_; (with_reducible refine (tilefarmlaw4_two.calls  t245 t246 t247 t248 _ A22.out).mono ?_); rintro e w59 ⟨v249, rfl, ho0, hb⟩; have n0_ := Aside0.mk (Kd.R_elder' q161_ (Kd.R_base ho0) hb); have n1_ := Aside0.mk (Kd.R_elder' q162_ (Kd.R_base ho0) hb); have n2_ := Aside0.mk (Kd.R_elder' q163_ (Kd.R_base ho0) hb); have n3_ := Aside0.mk (Kd.R_elder' q164_ (Kd.R_base ho0) hb); have n4_ := Aside0.mk (Kd.R_elder' q165_ (Kd.R_base ho0) hb); have n5_ := Aside0.mk (Kd.R_elder' q166_ (Kd.R_base ho0) hb); have n6_ := Aside0.mk (Kd.R_elder' q167_ (Kd.R_base ho0) hb); have n7_ := Aside0.mk (Kd.R_lower (Kd.R_new' (Kd.R_new' (Kd.R_new' (Kd.R_new' (Kd.R_new' (Kd.R_new' (Kd.R_new' ho0 (Kd.R_lt q161_)) (Kd.R_lt q162_)) (Kd.R_lt q163_)) (Kd.R_lt q164_)) (Kd.R_lt q165_)) (Kd.R_lt q166_)) (Kd.R_lt q167_)) (below_size q53_)); have n8_ := Aside0.mk (blk_below (g := gb206) (o := .cells #[.int .i64 t199, .int .i64 t200, .int .i64 t201, .slice (some ad229) t202.length co30] 26 (0, 0)) q142_ hb); have n9_ := Aside0.mk (blk_below (g := gb214) (o := .cells #[.int .i64 t207, .int .i64 t208, .int .i64 t209, .slice Ao35 t210.length co35] 26 (0, 0)) q143_ hb); have n10_ := Aside0.mk (blk_below (g := gb228) (o := .cells #[.int .i64 t221, .int .i64 t222, .int .i64 t223, .slice (some ad230) t224.length co46] 26 (0, 0)) q144_ hb); have n11_ := Aside0.mk (below_step q53_ hb); clear HO198; clear HO204; clear HO212; clear HO220; clear HO226; clear HO236; clear HO243; clear BK206; clear BK214; clear BK228; clear HB; have HO198 := n0_; have HO204 := n1_; have HO212 := n2_; have HO220 := n3_; have HO226 := n4_; have HO236 := n5_; have HO243 := n6_; have HO250 := n7_; have BK206 := n8_; have BK214 := n9_; have BK228 := n10_; have HB := n11_; clear n0_ n1_ n2_ n3_ n4_ n5_ n6_ n7_ n8_ n9_ n10_ n11_; (try clear hb); (try clear hb2); (try clear hk); (try clear hi); (try clear ho0)) | (go_at_call 41; clear mk4_; (with_reducible refine (tilefarmlaw4_two.calls  t251 t252 t253 t254 _ A23.out).mono ?_); rintro e w60 ⟨v255, rfl, ho0, hb⟩; have n0_ := Aside0.mk (Kd.R_elder' q161_ (Kd.R_base ho0) hb); have n1_ := Aside0.mk (Kd.R_elder' q162_ (Kd.R_base ho0) hb); have n2_ := Aside0.mk (Kd.R_elder' q163_ (Kd.R_base ho0) hb); have n3_ := Aside0.mk (Kd.R_elder' q164_ (Kd.R_base ho0) hb); have n4_ := Aside0.mk (Kd.R_elder' q165_ (Kd.R_base ho0) hb); have n5_ := Aside0.mk (Kd.R_elder' q166_ (Kd.R_base ho0) hb); have n6_ := Aside0.mk (Kd.R_elder' q167_ (Kd.R_base ho0) hb); have n7_ := Aside0.mk (Kd.R_elder' q168_ (Kd.R_base ho0) hb); have n8_ := Aside0.mk (Kd.R_lower (Kd.R_new' (Kd.R_new' (Kd.R_new' (Kd.R_new' (Kd.R_new' (Kd.R_new' (Kd.R_new' (Kd.R_new' ho0 (Kd.R_lt q161_)) (Kd.R_lt q162_)) (Kd.R_lt q163_)) (Kd.R_lt q164_)) (Kd.R_lt q165_)) (Kd.R_lt q166_)) (Kd.R_lt q167_)) (Kd.R_lt q168_)) (below_size q53_)); have n9_ := Aside0.mk (blk_below (g := gb206) (o := .cells #[.int .i64 t199, .int .i64 t200, .int .i64 t201, .slice (some ad229) t202.length co30] 26 (0, 0)) q142_ hb); have n10_ := Aside0.mk (blk_below (g := gb214) (o := .cells #[.int .i64 t207, .int .i64 t208, .int .i64 t209, .slice Ao35 t210.length co35] 26 (0, 0)) q143_ hb); have n11_ := Aside0.mk (blk_below (g := gb228) (o := .cells #[.int .i64 t221, .int .i64 t222, .int .i64 t223, .slice (some ad230) t224.length co46] 26 (0, 0)) q144_ hb); have n12_ := Aside0.mk (below_step q53_ hb); clear HO198; clear HO204; clear HO212; clear HO220; clear HO226; clear HO236; clear HO243; clear HO250; clear BK206; clear BK214; clear BK228; clear HB; have HO198 := n0_; have HO204 := n1_; have HO212 := n2_; have HO220 := n3_; have HO226 := n4_; have HO236 := n5_; have HO243 := n6_; have HO250 := n7_; have HO256 := n8_; have BK206 := n9_; have BK214 := n10_; have BK228 := n11_; have HB := n12_; clear n0_ n1_ n2_ n3_ n4_ n5_ n6_ n7_ n8_ n9_ n10_ n11_ n12_; (try clear hb); (try clear hb2); (try clear hk); (try clear hi); (try clear ho0); obtain ⟨Ao61, co61, eo61⟩ := Kd.R_slice HO250.out; subst eo61; obtain ⟨Ao62, co62, eo62⟩ := Kd.R_slice HO256.out; subst eo62) | (go_at_call 15; (with_reducible refine (plane_Equal.calls k t245 t246 t247 _ _ t248 t251 t252 t253 _ _ t254 t257 _ ?side1 ?side2 ?side3 ?side4 A24.out).mono ?_); (case side1 => repeat (first | exact (Kd.R_reads' HO250.out).2.2 | (with_reducible refine Kd.C_alloc ?_ _) | (with_reducible refine Kd.C_drewN ?_ _) | (with_reducible refine Kd.C_drew ?_))); (case side2 => exact (Kd.R_reads' HO250.out).2.1); (case side3 => repeat (first | exact (Kd.R_reads' HO256.out).2.2 | (with_reducible refine Kd.C_alloc ?_ _) | (with_reducible refine Kd.C_drewN ?_ _) | (with_reducible refine Kd.C_drew ?_))); (case side4 => exact (Kd.R_reads' HO256.out).2.1); rintro e w63 ⟨rfl, hb⟩; have n0_ := Aside0.mk (Kd.R_below q161_ hb); have n1_ := Aside0.mk (Kd.R_below q162_ hb); have n2_ := Aside0.mk (Kd.R_below q163_ hb); have n3_ := Aside0.mk (Kd.R_below q164_ hb); have n4_ := Aside0.mk (Kd.R_below q165_ hb); have n5_ := Aside0.mk (Kd.R_below q166_ hb); have n6_ := Aside0.mk (Kd.R_below q167_ hb); have n7_ := Aside0.mk (Kd.R_below q168_ hb); have n8_ := Aside0.mk (Kd.R_below (by (with_reducible repeat (first | apply Kd.R_alloc | apply Kd.R_drewN | apply Kd.R_drew)); exact HO256.out) hb); have n9_ := Aside0.mk (blk_below (g := gb206) (o := .cells #[.int .i64 t199, .int .i64 t200, .int .i64 t201, .slice (some ad229) t202.length co30] 26 (0, 0)) q142_ hb); have n10_ := Aside0.mk (blk_below (g := gb214) (o := .cells #[.int .i64 t207, .int .i64 t208, .int .i64 t209, .slice Ao35 t210.length co35] 26 (0, 0)) q143_ hb); have n11_ := Aside0.mk (blk_below (g := gb228) (o := .cells #[.int .i64 t221, .int .i64 t222, .int .i64 t223, .slice (some ad230) t224.length co46] 26 (0, 0)) q144_ hb); have n12_ := Aside0.mk (below_step q53_ hb); clear HO198; clear HO204; clear HO212; clear HO220; clear HO226; clear HO236; clear HO243; clear HO250; clear HO256; clear BK206; clear BK214; clear BK228; clear HB; have HO198 := n0_; have HO204 := n1_; have HO212 := n2_; have HO220 := n3_; have HO226 := n4_; have HO236 := n5_; have HO243 := n6_; have HO250 := n7_; have HO256 := n8_; have BK206 := n9_; have BK214 := n10_; have BK228 := n11_; have HB := n12_; clear n0_ n1_ n2_ n3_ n4_ n5_ n6_ n7_ n8_ n9_ n10_ n11_ n12_; (try clear hb); (try clear hb2); (try clear hk); (try clear hi)))
                          go_ret
                          exact ⟨q175_, q53_⟩
                        · replace c21 := Bool.eq_false_iff.mpr c21
                          subst c21
                          have H1 : (some false) = some r := by rw [if_neg (show ¬ (false = true) by decide)] at H; exact H
                          clear H
                          have H := H1
                          clear H1
                          exact absurd ((Option.some.inj H).trans HT.out) (by decide)
                      · rw [if_neg c18] at H
                        have c18b0 : (t237 == 3) = false := beq_eq_false_iff_ne.mpr c18
                        have c18b1 : (t237 != 3) = true := bne_iff_ne.mpr c18
                        exact absurd ((Option.some.inj H).trans HT.out) (by decide)
                    · rw [if_neg c15] at H
                      have c15b0 : ((rd t224 0) == 2) = false := beq_eq_false_iff_ne.mpr c15
                      have c15b1 : ((rd t224 0) != 2) = true := bne_iff_ne.mpr c15
                      exact absurd ((Option.some.inj H).trans HT.out) (by decide)
                  · rw [if_neg c14] at H
                    exact absurd H (by simp)
                · rw [if_neg c13] at H
                  have c13b0 : ((t224.length : Int) == 4) = false := beq_eq_false_iff_ne.mpr c13
                  have c13b1 : ((t224.length : Int) != 4) = true := bne_iff_ne.mpr c13
                  exact absurd ((Option.some.inj H).trans HT.out) (by decide)
              · replace c12 := Bool.eq_false_iff.mpr c12
                subst c12
                have H1 : (some false) = some r := by rw [if_neg (show ¬ (false = true) by decide)] at H; exact H
                clear H
                have H := H1
                clear H1
                exact absurd ((Option.some.inj H).trans HT.out) (by decide)
            · rw [if_neg c11] at H
              have c11b0 : ((t210.length : Int) == 3) = false := beq_eq_false_iff_ne.mpr c11
              have c11b1 : ((t210.length : Int) != 3) = true := bne_iff_ne.mpr c11
              exact absurd ((Option.some.inj H).trans HT.out) (by decide)
          · replace c10 := Bool.eq_false_iff.mpr c10
            subst c10
            have H1 : (some false) = some r := by rw [if_neg (show ¬ (false = true) by decide)] at H; exact H
            clear H
            have H := H1
            clear H1
            exact absurd ((Option.some.inj H).trans HT.out) (by decide)
        · rw [if_neg c9] at H
          have c9b0 : ((rd t202 1) == 4) = false := beq_eq_false_iff_ne.mpr c9
          have c9b1 : ((rd t202 1) != 4) = true := bne_iff_ne.mpr c9
          exact absurd ((Option.some.inj H).trans HT.out) (by decide)
      · rw [if_neg c8] at H
        exact absurd H (by simp)
    · rw [if_neg c7] at H
      have c7b0 : ((t202.length : Int) == 2) = false := beq_eq_false_iff_ne.mpr c7
      have c7b1 : ((t202.length : Int) != 2) = true := bne_iff_ne.mpr c7
      exact absurd ((Option.some.inj H).trans HT.out) (by decide)
  · replace c6 := Bool.eq_false_iff.mpr c6
    subst c6
    have H1 : (some false) = some r := by rw [if_neg (show ¬ (false = true) by decide)] at H; exact H
    clear H
    have H := H1
    clear H1
    exact absurd ((Option.some.inj H).trans HT.out) (by decide)

end Go.Proofs.Ytgkccacenlcebaa.PPlaneReads
