-- Written by a program of the session (wip/tools/myprint.py) over the kit's printer; checked by Lean.
import Derived.Test.YticicecobchdiaaPHistogramBinsx0
import Derived.Test.YticicecobchdiaaPHistogramBinsx2
import Derived.Test.YticicecobchdiaaPHistogramBinsx5
namespace Go.Proofs.Yticicecobchdiaa.PHistogramBins
open Go.RowKit Go.Proofs.YticicecobchdiaaW.PrintWords Go.Proofs.YticicecobchdiaaW.PrintLast Go.Proofs.YticicecobchdiaaW.PrintMore
attribute [local go_sem] max2_int min2_int max_two min_two max_three min_three max_four min_four   -- for this text's walks alone
set_option linter.unusedVariables false
set_option linter.unusedSimpArgs false

/-! ### tilefarmlaw12_HistogramBins: function 6 -/
def tilefarmlaw12_HistogramBins.f (k : Nat) (a0 : Int) (a1 : Int) (a2 : Int) (a3 : Int) : Option (Bool) := (tilefarmgen_Mod.f a2 70000).bind fun t196 => ((tilefarmgen_Mod.f a3 128).bind fun t197 => ((tilefarmgen_Mod.f a0 (wrap64 ((wrap64 (1 + t196)) + 1))).bind fun t198 => ((tilefarmgen_Mod.f a1 1000).bind fun t199 => ((histogram_Bin.f t198 (wrap64 (1 + t196)) (wrap64 (1 + t197))).bind fun t200 => ((histogram_Bin.f (mn (wrap64 (t198 + t199)) (wrap64 (1 + t196))) (wrap64 (1 + t196)) (wrap64 (1 + t197))).bind fun t201 => (if t200 < 0 then (some false) else (if t200 ≥ (wrap64 (1 + t197)) then (some false) else (if t200 > t201 then (some false) else ((histogram_Bin.f 0 (wrap64 (1 + t196)) (wrap64 (1 + t197))).bind fun t202 => (if t202 = 0 then (if (wrap64 ((wrap64 (1 + t196)) + 1)) ≥ (wrap64 (1 + t197)) then ((histogram_Bin.f (wrap64 (1 + t196)) (wrap64 (1 + t196)) (wrap64 (1 + t197))).bind fun t203 => (if t203 = (wrap64 ((wrap64 (1 + t197)) - 1)) then (if (wrap64 (1 + t197)) = 0 then (none) else (if (Int.tmod (wrap64 ((wrap64 (1 + t196)) + 1)) (wrap64 (1 + t197))) = 0 then (if (wrap64 (Int.tdiv (wrap64 ((wrap64 (1 + t196)) + 1)) (wrap64 (1 + t197)))) = 0 then (none) else (if t200 = (wrap64 (Int.tdiv t198 (wrap64 (Int.tdiv (wrap64 ((wrap64 (1 + t196)) + 1)) (wrap64 (1 + t197)))))) then ((tilefarmlaw12_sane.f k).bind fun t204 => (some t204)) else (some false))) else ((tilefarmlaw12_sane.f k).bind fun t205 => (some t205)))) else (some false))) else (if (wrap64 (1 + t197)) = 0 then (none) else (if (Int.tmod (wrap64 ((wrap64 (1 + t196)) + 1)) (wrap64 (1 + t197))) = 0 then (if (wrap64 (Int.tdiv (wrap64 ((wrap64 (1 + t196)) + 1)) (wrap64 (1 + t197)))) = 0 then (none) else (if t200 = (wrap64 (Int.tdiv t198 (wrap64 (Int.tdiv (wrap64 ((wrap64 (1 + t196)) + 1)) (wrap64 (1 + t197)))))) then ((tilefarmlaw12_sane.f k).bind fun t206 => (some t206)) else (some false))) else ((tilefarmlaw12_sane.f k).bind fun t207 => (some t207))))) else (some false)))))))))))
theorem tilefarmlaw12_HistogramBins.mono : ∀ a0 a1 a2 a3 k, LeO (tilefarmlaw12_HistogramBins.f k a0 a1 a2 a3) (tilefarmlaw12_HistogramBins.f (k + 1) a0 a1 a2 a3) := by
  intro a0 a1 a2 a3 k
  unfold tilefarmlaw12_HistogramBins.f
  repeat' first
      | (with_reducible exact tilefarmlaw12_sane.mono _)
      | (with_reducible exact LeO.refl _)
      | (with_reducible exact LeO.none _)
      | (with_reducible refine LeO.ite ?_ ?_)
      | (with_reducible refine LeO.bind ?_ (fun _ => ?_))
      | exact tilefarmlaw12_sane.mono _
      | exact LeO.none _
      | refine LeO.ite ?_ ?_
      | refine LeO.bind ?_ (fun _ => ?_)
set_option maxHeartbeats 8000000 in
set_option maxRecDepth 100000 in
theorem tilefarmlaw12_HistogramBins.calls (k : Nat) (a0 : Int) (a1 : Int) (a2 : Int) (a3 : Int) (r : Bool) (w : World) (h : tilefarmlaw12_HistogramBins.f k a0 a1 a2 a3 = some r) (hT : r = true := by first | rfl | assumption | exact HT.out) :
    Calls Try.prog 6 #[.int .i64 a0, .int .i64 a1, .int .i64 a2, .int .i64 a3] w fun e w' => e = .returned (.bool r) ∧ Below w.heap.size w w' := by
  have HT := Aside0.mk hT
  clear hT
  have HB := Aside0.mk (Below.refl w.heap.size w)
  have H : ((tilefarmgen_Mod.f a2 70000).bind fun t196 => ((tilefarmgen_Mod.f a3 128).bind fun t197 => ((tilefarmgen_Mod.f a0 (wrap64 ((wrap64 (1 + t196)) + 1))).bind fun t198 => ((tilefarmgen_Mod.f a1 1000).bind fun t199 => ((histogram_Bin.f t198 (wrap64 (1 + t196)) (wrap64 (1 + t197))).bind fun t200 => ((histogram_Bin.f (mn (wrap64 (t198 + t199)) (wrap64 (1 + t196))) (wrap64 (1 + t196)) (wrap64 (1 + t197))).bind fun t201 => (if t200 < 0 then (some false) else (if t200 ≥ (wrap64 (1 + t197)) then (some false) else (if t200 > t201 then (some false) else ((histogram_Bin.f 0 (wrap64 (1 + t196)) (wrap64 (1 + t197))).bind fun t202 => (if t202 = 0 then (if (wrap64 ((wrap64 (1 + t196)) + 1)) ≥ (wrap64 (1 + t197)) then ((histogram_Bin.f (wrap64 (1 + t196)) (wrap64 (1 + t196)) (wrap64 (1 + t197))).bind fun t203 => (if t203 = (wrap64 ((wrap64 (1 + t197)) - 1)) then (if (wrap64 (1 + t197)) = 0 then (none) else (if (Int.tmod (wrap64 ((wrap64 (1 + t196)) + 1)) (wrap64 (1 + t197))) = 0 then (if (wrap64 (Int.tdiv (wrap64 ((wrap64 (1 + t196)) + 1)) (wrap64 (1 + t197)))) = 0 then (none) else (if t200 = (wrap64 (Int.tdiv t198 (wrap64 (Int.tdiv (wrap64 ((wrap64 (1 + t196)) + 1)) (wrap64 (1 + t197)))))) then ((tilefarmlaw12_sane.f k).bind fun t204 => (some t204)) else (some false))) else ((tilefarmlaw12_sane.f k).bind fun t205 => (some t205)))) else (some false))) else (if (wrap64 (1 + t197)) = 0 then (none) else (if (Int.tmod (wrap64 ((wrap64 (1 + t196)) + 1)) (wrap64 (1 + t197))) = 0 then (if (wrap64 (Int.tdiv (wrap64 ((wrap64 (1 + t196)) + 1)) (wrap64 (1 + t197)))) = 0 then (none) else (if t200 = (wrap64 (Int.tdiv t198 (wrap64 (Int.tdiv (wrap64 ((wrap64 (1 + t196)) + 1)) (wrap64 (1 + t197)))))) then ((tilefarmlaw12_sane.f k).bind fun t206 => (some t206)) else (some false))) else ((tilefarmlaw12_sane.f k).bind fun t207 => (some t207))))) else (some false)))))))))))) = some r := h
  clear h
  replace H := Option.bind_eq_some_iff.mp H
  obtain ⟨t196, A50, H⟩ := H
  replace H : ((tilefarmgen_Mod.f a3 128).bind fun t197 => ((tilefarmgen_Mod.f a0 (wrap64 ((wrap64 (1 + t196)) + 1))).bind fun t198 => ((tilefarmgen_Mod.f a1 1000).bind fun t199 => ((histogram_Bin.f t198 (wrap64 (1 + t196)) (wrap64 (1 + t197))).bind fun t200 => ((histogram_Bin.f (mn (wrap64 (t198 + t199)) (wrap64 (1 + t196))) (wrap64 (1 + t196)) (wrap64 (1 + t197))).bind fun t201 => (if t200 < 0 then (some false) else (if t200 ≥ (wrap64 (1 + t197)) then (some false) else (if t200 > t201 then (some false) else ((histogram_Bin.f 0 (wrap64 (1 + t196)) (wrap64 (1 + t197))).bind fun t202 => (if t202 = 0 then (if (wrap64 ((wrap64 (1 + t196)) + 1)) ≥ (wrap64 (1 + t197)) then ((histogram_Bin.f (wrap64 (1 + t196)) (wrap64 (1 + t196)) (wrap64 (1 + t197))).bind fun t203 => (if t203 = (wrap64 ((wrap64 (1 + t197)) - 1)) then (if (wrap64 (1 + t197)) = 0 then (none) else (if (Int.tmod (wrap64 ((wrap64 (1 + t196)) + 1)) (wrap64 (1 + t197))) = 0 then (if (wrap64 (Int.tdiv (wrap64 ((wrap64 (1 + t196)) + 1)) (wrap64 (1 + t197)))) = 0 then (none) else (if t200 = (wrap64 (Int.tdiv t198 (wrap64 (Int.tdiv (wrap64 ((wrap64 (1 + t196)) + 1)) (wrap64 (1 + t197)))))) then ((tilefarmlaw12_sane.f k).bind fun t204 => (some t204)) else (some false))) else ((tilefarmlaw12_sane.f k).bind fun t205 => (some t205)))) else (some false))) else (if (wrap64 (1 + t197)) = 0 then (none) else (if (Int.tmod (wrap64 ((wrap64 (1 + t196)) + 1)) (wrap64 (1 + t197))) = 0 then (if (wrap64 (Int.tdiv (wrap64 ((wrap64 (1 + t196)) + 1)) (wrap64 (1 + t197)))) = 0 then (none) else (if t200 = (wrap64 (Int.tdiv t198 (wrap64 (Int.tdiv (wrap64 ((wrap64 (1 + t196)) + 1)) (wrap64 (1 + t197)))))) then ((tilefarmlaw12_sane.f k).bind fun t206 => (some t206)) else (some false))) else ((tilefarmlaw12_sane.f k).bind fun t207 => (some t207))))) else (some false))))))))))) = some r := H
  have A5 := Aside0.mk A50
  clear A50
  replace H := Option.bind_eq_some_iff.mp H
  obtain ⟨t197, A60, H⟩ := H
  replace H : ((tilefarmgen_Mod.f a0 (wrap64 ((wrap64 (1 + t196)) + 1))).bind fun t198 => ((tilefarmgen_Mod.f a1 1000).bind fun t199 => ((histogram_Bin.f t198 (wrap64 (1 + t196)) (wrap64 (1 + t197))).bind fun t200 => ((histogram_Bin.f (mn (wrap64 (t198 + t199)) (wrap64 (1 + t196))) (wrap64 (1 + t196)) (wrap64 (1 + t197))).bind fun t201 => (if t200 < 0 then (some false) else (if t200 ≥ (wrap64 (1 + t197)) then (some false) else (if t200 > t201 then (some false) else ((histogram_Bin.f 0 (wrap64 (1 + t196)) (wrap64 (1 + t197))).bind fun t202 => (if t202 = 0 then (if (wrap64 ((wrap64 (1 + t196)) + 1)) ≥ (wrap64 (1 + t197)) then ((histogram_Bin.f (wrap64 (1 + t196)) (wrap64 (1 + t196)) (wrap64 (1 + t197))).bind fun t203 => (if t203 = (wrap64 ((wrap64 (1 + t197)) - 1)) then (if (wrap64 (1 + t197)) = 0 then (none) else (if (Int.tmod (wrap64 ((wrap64 (1 + t196)) + 1)) (wrap64 (1 + t197))) = 0 then (if (wrap64 (Int.tdiv (wrap64 ((wrap64 (1 + t196)) + 1)) (wrap64 (1 + t197)))) = 0 then (none) else (if t200 = (wrap64 (Int.tdiv t198 (wrap64 (Int.tdiv (wrap64 ((wrap64 (1 + t196)) + 1)) (wrap64 (1 + t197)))))) then ((tilefarmlaw12_sane.f k).bind fun t204 => (some t204)) else (some false))) else ((tilefarmlaw12_sane.f k).bind fun t205 => (some t205)))) else (some false))) else (if (wrap64 (1 + t197)) = 0 then (none) else (if (Int.tmod (wrap64 ((wrap64 (1 + t196)) + 1)) (wrap64 (1 + t197))) = 0 then (if (wrap64 (Int.tdiv (wrap64 ((wrap64 (1 + t196)) + 1)) (wrap64 (1 + t197)))) = 0 then (none) else (if t200 = (wrap64 (Int.tdiv t198 (wrap64 (Int.tdiv (wrap64 ((wrap64 (1 + t196)) + 1)) (wrap64 (1 + t197)))))) then ((tilefarmlaw12_sane.f k).bind fun t206 => (some t206)) else (some false))) else ((tilefarmlaw12_sane.f k).bind fun t207 => (some t207))))) else (some false)))))))))) = some r := H
  have A6 := Aside0.mk A60
  clear A60
  replace H := Option.bind_eq_some_iff.mp H
  obtain ⟨t198, A70, H⟩ := H
  replace H : ((tilefarmgen_Mod.f a1 1000).bind fun t199 => ((histogram_Bin.f t198 (wrap64 (1 + t196)) (wrap64 (1 + t197))).bind fun t200 => ((histogram_Bin.f (mn (wrap64 (t198 + t199)) (wrap64 (1 + t196))) (wrap64 (1 + t196)) (wrap64 (1 + t197))).bind fun t201 => (if t200 < 0 then (some false) else (if t200 ≥ (wrap64 (1 + t197)) then (some false) else (if t200 > t201 then (some false) else ((histogram_Bin.f 0 (wrap64 (1 + t196)) (wrap64 (1 + t197))).bind fun t202 => (if t202 = 0 then (if (wrap64 ((wrap64 (1 + t196)) + 1)) ≥ (wrap64 (1 + t197)) then ((histogram_Bin.f (wrap64 (1 + t196)) (wrap64 (1 + t196)) (wrap64 (1 + t197))).bind fun t203 => (if t203 = (wrap64 ((wrap64 (1 + t197)) - 1)) then (if (wrap64 (1 + t197)) = 0 then (none) else (if (Int.tmod (wrap64 ((wrap64 (1 + t196)) + 1)) (wrap64 (1 + t197))) = 0 then (if (wrap64 (Int.tdiv (wrap64 ((wrap64 (1 + t196)) + 1)) (wrap64 (1 + t197)))) = 0 then (none) else (if t200 = (wrap64 (Int.tdiv t198 (wrap64 (Int.tdiv (wrap64 ((wrap64 (1 + t196)) + 1)) (wrap64 (1 + t197)))))) then ((tilefarmlaw12_sane.f k).bind fun t204 => (some t204)) else (some false))) else ((tilefarmlaw12_sane.f k).bind fun t205 => (some t205)))) else (some false))) else (if (wrap64 (1 + t197)) = 0 then (none) else (if (Int.tmod (wrap64 ((wrap64 (1 + t196)) + 1)) (wrap64 (1 + t197))) = 0 then (if (wrap64 (Int.tdiv (wrap64 ((wrap64 (1 + t196)) + 1)) (wrap64 (1 + t197)))) = 0 then (none) else (if t200 = (wrap64 (Int.tdiv t198 (wrap64 (Int.tdiv (wrap64 ((wrap64 (1 + t196)) + 1)) (wrap64 (1 + t197)))))) then ((tilefarmlaw12_sane.f k).bind fun t206 => (some t206)) else (some false))) else ((tilefarmlaw12_sane.f k).bind fun t207 => (some t207))))) else (some false))))))))) = some r := H
  have A7 := Aside0.mk A70
  clear A70
  replace H := Option.bind_eq_some_iff.mp H
  obtain ⟨t199, A80, H⟩ := H
  replace H : ((histogram_Bin.f t198 (wrap64 (1 + t196)) (wrap64 (1 + t197))).bind fun t200 => ((histogram_Bin.f (mn (wrap64 (t198 + t199)) (wrap64 (1 + t196))) (wrap64 (1 + t196)) (wrap64 (1 + t197))).bind fun t201 => (if t200 < 0 then (some false) else (if t200 ≥ (wrap64 (1 + t197)) then (some false) else (if t200 > t201 then (some false) else ((histogram_Bin.f 0 (wrap64 (1 + t196)) (wrap64 (1 + t197))).bind fun t202 => (if t202 = 0 then (if (wrap64 ((wrap64 (1 + t196)) + 1)) ≥ (wrap64 (1 + t197)) then ((histogram_Bin.f (wrap64 (1 + t196)) (wrap64 (1 + t196)) (wrap64 (1 + t197))).bind fun t203 => (if t203 = (wrap64 ((wrap64 (1 + t197)) - 1)) then (if (wrap64 (1 + t197)) = 0 then (none) else (if (Int.tmod (wrap64 ((wrap64 (1 + t196)) + 1)) (wrap64 (1 + t197))) = 0 then (if (wrap64 (Int.tdiv (wrap64 ((wrap64 (1 + t196)) + 1)) (wrap64 (1 + t197)))) = 0 then (none) else (if t200 = (wrap64 (Int.tdiv t198 (wrap64 (Int.tdiv (wrap64 ((wrap64 (1 + t196)) + 1)) (wrap64 (1 + t197)))))) then ((tilefarmlaw12_sane.f k).bind fun t204 => (some t204)) else (some false))) else ((tilefarmlaw12_sane.f k).bind fun t205 => (some t205)))) else (some false))) else (if (wrap64 (1 + t197)) = 0 then (none) else (if (Int.tmod (wrap64 ((wrap64 (1 + t196)) + 1)) (wrap64 (1 + t197))) = 0 then (if (wrap64 (Int.tdiv (wrap64 ((wrap64 (1 + t196)) + 1)) (wrap64 (1 + t197)))) = 0 then (none) else (if t200 = (wrap64 (Int.tdiv t198 (wrap64 (Int.tdiv (wrap64 ((wrap64 (1 + t196)) + 1)) (wrap64 (1 + t197)))))) then ((tilefarmlaw12_sane.f k).bind fun t206 => (some t206)) else (some false))) else ((tilefarmlaw12_sane.f k).bind fun t207 => (some t207))))) else (some false)))))))) = some r := H
  have A8 := Aside0.mk A80
  clear A80
  obtain ⟨ji9, hji9⟩ : ∃ j_ : Int, (mn (wrap64 (t198 + t199)) (wrap64 (1 + t196))) = j_ := ⟨_, rfl⟩
  replace H : ((histogram_Bin.f t198 (wrap64 (1 + t196)) (wrap64 (1 + t197))).bind fun t200 => ((histogram_Bin.f (ji9) (wrap64 (1 + t196)) (wrap64 (1 + t197))).bind fun t201 => (if t200 < 0 then (some false) else (if t200 ≥ (wrap64 (1 + t197)) then (some false) else (if t200 > t201 then (some false) else ((histogram_Bin.f 0 (wrap64 (1 + t196)) (wrap64 (1 + t197))).bind fun t202 => (if t202 = 0 then (if (wrap64 ((wrap64 (1 + t196)) + 1)) ≥ (wrap64 (1 + t197)) then ((histogram_Bin.f (wrap64 (1 + t196)) (wrap64 (1 + t196)) (wrap64 (1 + t197))).bind fun t203 => (if t203 = (wrap64 ((wrap64 (1 + t197)) - 1)) then (if (wrap64 (1 + t197)) = 0 then (none) else (if (Int.tmod (wrap64 ((wrap64 (1 + t196)) + 1)) (wrap64 (1 + t197))) = 0 then (if (wrap64 (Int.tdiv (wrap64 ((wrap64 (1 + t196)) + 1)) (wrap64 (1 + t197)))) = 0 then (none) else (if t200 = (wrap64 (Int.tdiv t198 (wrap64 (Int.tdiv (wrap64 ((wrap64 (1 + t196)) + 1)) (wrap64 (1 + t197)))))) then ((tilefarmlaw12_sane.f k).bind fun t204 => (some t204)) else (some false))) else ((tilefarmlaw12_sane.f k).bind fun t205 => (some t205)))) else (some false))) else (if (wrap64 (1 + t197)) = 0 then (none) else (if (Int.tmod (wrap64 ((wrap64 (1 + t196)) + 1)) (wrap64 (1 + t197))) = 0 then (if (wrap64 (Int.tdiv (wrap64 ((wrap64 (1 + t196)) + 1)) (wrap64 (1 + t197)))) = 0 then (none) else (if t200 = (wrap64 (Int.tdiv t198 (wrap64 (Int.tdiv (wrap64 ((wrap64 (1 + t196)) + 1)) (wrap64 (1 + t197)))))) then ((tilefarmlaw12_sane.f k).bind fun t206 => (some t206)) else (some false))) else ((tilefarmlaw12_sane.f k).bind fun t207 => (some t207))))) else (some false)))))))) = some r := by first | (rw [hji9] at H; exact H) | (simp only [hji9] at H ⊢; exact H)
  (try rw [hji9] at A5)
  (try rw [hji9] at A6)
  (try rw [hji9] at A7)
  (try rw [hji9] at A8)
  have hji9_ : (if (wrap64 (1 + t196)) < (wrap64 (t198 + t199)) then (wrap64 (1 + t196)) else (wrap64 (t198 + t199))) = ji9 := hji9
  replace H := Option.bind_eq_some_iff.mp H
  obtain ⟨t200, A100, H⟩ := H
  replace H : ((histogram_Bin.f (ji9) (wrap64 (1 + t196)) (wrap64 (1 + t197))).bind fun t201 => (if t200 < 0 then (some false) else (if t200 ≥ (wrap64 (1 + t197)) then (some false) else (if t200 > t201 then (some false) else ((histogram_Bin.f 0 (wrap64 (1 + t196)) (wrap64 (1 + t197))).bind fun t202 => (if t202 = 0 then (if (wrap64 ((wrap64 (1 + t196)) + 1)) ≥ (wrap64 (1 + t197)) then ((histogram_Bin.f (wrap64 (1 + t196)) (wrap64 (1 + t196)) (wrap64 (1 + t197))).bind fun t203 => (if t203 = (wrap64 ((wrap64 (1 + t197)) - 1)) then (if (wrap64 (1 + t197)) = 0 then (none) else (if (Int.tmod (wrap64 ((wrap64 (1 + t196)) + 1)) (wrap64 (1 + t197))) = 0 then (if (wrap64 (Int.tdiv (wrap64 ((wrap64 (1 + t196)) + 1)) (wrap64 (1 + t197)))) = 0 then (none) else (if t200 = (wrap64 (Int.tdiv t198 (wrap64 (Int.tdiv (wrap64 ((wrap64 (1 + t196)) + 1)) (wrap64 (1 + t197)))))) then ((tilefarmlaw12_sane.f k).bind fun t204 => (some t204)) else (some false))) else ((tilefarmlaw12_sane.f k).bind fun t205 => (some t205)))) else (some false))) else (if (wrap64 (1 + t197)) = 0 then (none) else (if (Int.tmod (wrap64 ((wrap64 (1 + t196)) + 1)) (wrap64 (1 + t197))) = 0 then (if (wrap64 (Int.tdiv (wrap64 ((wrap64 (1 + t196)) + 1)) (wrap64 (1 + t197)))) = 0 then (none) else (if t200 = (wrap64 (Int.tdiv t198 (wrap64 (Int.tdiv (wrap64 ((wrap64 (1 + t196)) + 1)) (wrap64 (1 + t197)))))) then ((tilefarmlaw12_sane.f k).bind fun t206 => (some t206)) else (some false))) else ((tilefarmlaw12_sane.f k).bind fun t207 => (some t207))))) else (some false))))))) = some r := H
  have A10 := Aside0.mk A100
  clear A100
  replace H := Option.bind_eq_some_iff.mp H
  obtain ⟨t201, A110, H⟩ := H
  replace H : (if t200 < 0 then (some false) else (if t200 ≥ (wrap64 (1 + t197)) then (some false) else (if t200 > t201 then (some false) else ((histogram_Bin.f 0 (wrap64 (1 + t196)) (wrap64 (1 + t197))).bind fun t202 => (if t202 = 0 then (if (wrap64 ((wrap64 (1 + t196)) + 1)) ≥ (wrap64 (1 + t197)) then ((histogram_Bin.f (wrap64 (1 + t196)) (wrap64 (1 + t196)) (wrap64 (1 + t197))).bind fun t203 => (if t203 = (wrap64 ((wrap64 (1 + t197)) - 1)) then (if (wrap64 (1 + t197)) = 0 then (none) else (if (Int.tmod (wrap64 ((wrap64 (1 + t196)) + 1)) (wrap64 (1 + t197))) = 0 then (if (wrap64 (Int.tdiv (wrap64 ((wrap64 (1 + t196)) + 1)) (wrap64 (1 + t197)))) = 0 then (none) else (if t200 = (wrap64 (Int.tdiv t198 (wrap64 (Int.tdiv (wrap64 ((wrap64 (1 + t196)) + 1)) (wrap64 (1 + t197)))))) then ((tilefarmlaw12_sane.f k).bind fun t204 => (some t204)) else (some false))) else ((tilefarmlaw12_sane.f k).bind fun t205 => (some t205)))) else (some false))) else (if (wrap64 (1 + t197)) = 0 then (none) else (if (Int.tmod (wrap64 ((wrap64 (1 + t196)) + 1)) (wrap64 (1 + t197))) = 0 then (if (wrap64 (Int.tdiv (wrap64 ((wrap64 (1 + t196)) + 1)) (wrap64 (1 + t197)))) = 0 then (none) else (if t200 = (wrap64 (Int.tdiv t198 (wrap64 (Int.tdiv (wrap64 ((wrap64 (1 + t196)) + 1)) (wrap64 (1 + t197)))))) then ((tilefarmlaw12_sane.f k).bind fun t206 => (some t206)) else (some false))) else ((tilefarmlaw12_sane.f k).bind fun t207 => (some t207))))) else (some false)))))) = some r := H
  have A11 := Aside0.mk A110
  clear A110
  by_cases c12 : t200 < 0
  · rw [if_pos c12] at H
    have c12b0 : decide (t200 < 0) = true := decide_eq_true c12
    clear c12
    exact absurd ((Option.some.inj H).trans HT.out) (by decide)
  · rw [if_neg c12] at H
    have c12b0 : decide (t200 < 0) = false := decide_eq_false c12
    clear c12
    by_cases c13 : t200 ≥ (wrap64 (1 + t197))
    · rw [if_pos c13] at H
      have c13b0 : decide ((wrap64 (1 + t197)) ≤ t200) = true := decide_eq_true c13
      clear c13
      exact absurd ((Option.some.inj H).trans HT.out) (by decide)
    · rw [if_neg c13] at H
      have c13b0 : decide ((wrap64 (1 + t197)) ≤ t200) = false := decide_eq_false c13
      clear c13
      by_cases c14 : t200 > t201
      · rw [if_pos c14] at H
        have c14b0 : decide (t201 < t200) = true := decide_eq_true c14
        clear c14
        exact absurd ((Option.some.inj H).trans HT.out) (by decide)
      · rw [if_neg c14] at H
        have c14b0 : decide (t201 < t200) = false := decide_eq_false c14
        clear c14
        replace H := Option.bind_eq_some_iff.mp H
        obtain ⟨t202, A150, H⟩ := H
        replace H : (if t202 = 0 then (if (wrap64 ((wrap64 (1 + t196)) + 1)) ≥ (wrap64 (1 + t197)) then ((histogram_Bin.f (wrap64 (1 + t196)) (wrap64 (1 + t196)) (wrap64 (1 + t197))).bind fun t203 => (if t203 = (wrap64 ((wrap64 (1 + t197)) - 1)) then (if (wrap64 (1 + t197)) = 0 then (none) else (if (Int.tmod (wrap64 ((wrap64 (1 + t196)) + 1)) (wrap64 (1 + t197))) = 0 then (if (wrap64 (Int.tdiv (wrap64 ((wrap64 (1 + t196)) + 1)) (wrap64 (1 + t197)))) = 0 then (none) else (if t200 = (wrap64 (Int.tdiv t198 (wrap64 (Int.tdiv (wrap64 ((wrap64 (1 + t196)) + 1)) (wrap64 (1 + t197)))))) then ((tilefarmlaw12_sane.f k).bind fun t204 => (some t204)) else (some false))) else ((tilefarmlaw12_sane.f k).bind fun t205 => (some t205)))) else (some false))) else (if (wrap64 (1 + t197)) = 0 then (none) else (if (Int.tmod (wrap64 ((wrap64 (1 + t196)) + 1)) (wrap64 (1 + t197))) = 0 then (if (wrap64 (Int.tdiv (wrap64 ((wrap64 (1 + t196)) + 1)) (wrap64 (1 + t197)))) = 0 then (none) else (if t200 = (wrap64 (Int.tdiv t198 (wrap64 (Int.tdiv (wrap64 ((wrap64 (1 + t196)) + 1)) (wrap64 (1 + t197)))))) then ((tilefarmlaw12_sane.f k).bind fun t206 => (some t206)) else (some false))) else ((tilefarmlaw12_sane.f k).bind fun t207 => (some t207))))) else (some false)) = some r := H
        have A15 := Aside0.mk A150
        clear A150
        by_cases c16 : t202 = 0
        · rw [if_pos c16] at H
          have c16b0 : (t202 == 0) = true := beq_iff_eq.mpr c16
          have c16b1 : (t202 != 0) = false := bne_eq_false_iff_eq.mpr c16
          clear c16
          by_cases c17 : (wrap64 ((wrap64 (1 + t196)) + 1)) ≥ (wrap64 (1 + t197))
          · rw [if_pos c17] at H
            have c17b0 : decide ((wrap64 (1 + t197)) ≤ (wrap64 ((wrap64 (1 + t196)) + 1))) = true := decide_eq_true c17
            clear c17
            replace H := Option.bind_eq_some_iff.mp H
            obtain ⟨t203, A180, H⟩ := H
            replace H : (if t203 = (wrap64 ((wrap64 (1 + t197)) - 1)) then (if (wrap64 (1 + t197)) = 0 then (none) else (if (Int.tmod (wrap64 ((wrap64 (1 + t196)) + 1)) (wrap64 (1 + t197))) = 0 then (if (wrap64 (Int.tdiv (wrap64 ((wrap64 (1 + t196)) + 1)) (wrap64 (1 + t197)))) = 0 then (none) else (if t200 = (wrap64 (Int.tdiv t198 (wrap64 (Int.tdiv (wrap64 ((wrap64 (1 + t196)) + 1)) (wrap64 (1 + t197)))))) then ((tilefarmlaw12_sane.f k).bind fun t204 => (some t204)) else (some false))) else ((tilefarmlaw12_sane.f k).bind fun t205 => (some t205)))) else (some false)) = some r := H
            have A18 := Aside0.mk A180
            clear A180
            by_cases c19 : t203 = (wrap64 ((wrap64 (1 + t197)) - 1))
            · rw [if_pos c19] at H
              have c19b0 : (t203 == (wrap64 ((wrap64 (1 + t197)) - 1))) = true := beq_iff_eq.mpr c19
              have c19b1 : (t203 != (wrap64 ((wrap64 (1 + t197)) - 1))) = false := bne_eq_false_iff_eq.mpr c19
              clear c19
              by_cases c20 : (wrap64 (1 + t197)) = 0
              · rw [if_pos c20] at H
                exact absurd H (by simp)
              · rw [if_neg c20] at H
                have c20b0 : ((wrap64 (1 + t197)) == 0) = false := beq_eq_false_iff_ne.mpr c20
                have c20b1 : ((wrap64 (1 + t197)) != 0) = true := bne_iff_ne.mpr c20
                by_cases c21 : (Int.tmod (wrap64 ((wrap64 (1 + t196)) + 1)) (wrap64 (1 + t197))) = 0
                · rw [if_pos c21] at H
                  have c21b0 : ((Int.tmod (wrap64 ((wrap64 (1 + t196)) + 1)) (wrap64 (1 + t197))) == 0) = true := beq_iff_eq.mpr c21
                  have c21b1 : ((Int.tmod (wrap64 ((wrap64 (1 + t196)) + 1)) (wrap64 (1 + t197))) != 0) = false := bne_eq_false_iff_eq.mpr c21
                  clear c21
                  by_cases c22 : (wrap64 (Int.tdiv (wrap64 ((wrap64 (1 + t196)) + 1)) (wrap64 (1 + t197)))) = 0
                  · rw [if_pos c22] at H
                    exact absurd H (by simp)
                  · rw [if_neg c22] at H
                    have c22b0 : ((wrap64 (Int.tdiv (wrap64 ((wrap64 (1 + t196)) + 1)) (wrap64 (1 + t197)))) == 0) = false := beq_eq_false_iff_ne.mpr c22
                    have c22b1 : ((wrap64 (Int.tdiv (wrap64 ((wrap64 (1 + t196)) + 1)) (wrap64 (1 + t197)))) != 0) = true := bne_iff_ne.mpr c22
                    by_cases c23 : t200 = (wrap64 (Int.tdiv t198 (wrap64 (Int.tdiv (wrap64 ((wrap64 (1 + t196)) + 1)) (wrap64 (1 + t197))))))
                    · rw [if_pos c23] at H
                      have c23b0 : (t200 == (wrap64 (Int.tdiv t198 (wrap64 (Int.tdiv (wrap64 ((wrap64 (1 + t196)) + 1)) (wrap64 (1 + t197))))))) = true := beq_iff_eq.mpr c23
                      have c23b1 : (t200 != (wrap64 (Int.tdiv t198 (wrap64 (Int.tdiv (wrap64 ((wrap64 (1 + t196)) + 1)) (wrap64 (1 + t197))))))) = false := bne_eq_false_iff_eq.mpr c23
                      clear c23
                      replace H := Option.bind_eq_some_iff.mp H
                      obtain ⟨t204, A240, H⟩ := H
                      replace H : (some t204) = some r := H
                      have A24 := Aside0.mk A240
                      clear A240
                      obtain rfl := Option.some.inj H
                      go_enter Try.func6, Try.ntmps6
                      go_wp2_with (first | ((with_reducible refine gate_callee (f := 13) rfl ?_); refine goesL_ (some 16) rfl rfl Try.func13 (by kernel_rfl) rfl #[.int .i64 a2, .int .i64 70000] rfl (by (try simp only [List.map_toArray, List.map_cons, List.map_nil]); first | done | rfl | (simp only [List.length_drop, List.length_take]; rfl)) ?_; (with_reducible refine (tilefarmgen_Mod.calls a2 70000 t196 _ A5.out).mono ?_); rintro e w' ⟨rfl, ⟨nd, rfl⟩⟩; refine ⟨_, rfl, ?_⟩) | ((with_reducible refine gate_callee (f := 13) rfl ?_); refine goesL_ (some 19) rfl rfl Try.func13 (by kernel_rfl) rfl #[.int .i64 a3, .int .i64 128] rfl (by (try simp only [List.map_toArray, List.map_cons, List.map_nil]); first | done | rfl | (simp only [List.length_drop, List.length_take]; rfl)) ?_; (with_reducible refine (tilefarmgen_Mod.calls a3 128 t197 _ A6.out).mono ?_); rintro e w' ⟨rfl, ⟨nd, rfl⟩⟩; refine ⟨_, rfl, ?_⟩) | ((with_reducible refine gate_callee (f := 13) rfl ?_); refine goesL_ (some 24) rfl rfl Try.func13 (by kernel_rfl) rfl #[.int .i64 a0, .int .i64 (wrap64 ((wrap64 (1 + t196)) + 1))] rfl (by (try simp only [List.map_toArray, List.map_cons, List.map_nil]); first | done | rfl | (simp only [List.length_drop, List.length_take]; rfl)) ?_; (with_reducible refine (tilefarmgen_Mod.calls a0 (wrap64 ((wrap64 (1 + t196)) + 1)) t198 _ A7.out).mono ?_); rintro e w' ⟨rfl, ⟨nd, rfl⟩⟩; refine ⟨_, rfl, ?_⟩) | ((with_reducible refine gate_callee (f := 13) rfl ?_); refine goesL_ (some 27) rfl rfl Try.func13 (by kernel_rfl) rfl #[.int .i64 a1, .int .i64 1000] rfl (by (try simp only [List.map_toArray, List.map_cons, List.map_nil]); first | done | rfl | (simp only [List.length_drop, List.length_take]; rfl)) ?_; (with_reducible refine (tilefarmgen_Mod.calls a1 1000 t199 _ A8.out).mono ?_); rintro e w' ⟨rfl, ⟨nd, rfl⟩⟩; refine ⟨_, rfl, ?_⟩) | ((with_reducible refine gate_callee (f := 15) rfl ?_); refine goesL_ (some 34) rfl rfl Try.func15 (by kernel_rfl) rfl #[.int .i64 t198, .int .i64 (wrap64 (1 + t196)), .int .i64 (wrap64 (1 + t197))] rfl (by (try simp only [List.map_toArray, List.map_cons, List.map_nil]); first | done | rfl | (simp only [List.length_drop, List.length_take]; rfl)) ?_; (with_reducible refine (histogram_Bin.calls t198 (wrap64 (1 + t196)) (wrap64 (1 + t197)) t200 _ A10.out).mono ?_); rintro e w' ⟨rfl, ⟨nd, rfl⟩⟩; refine ⟨_, rfl, ?_⟩) | ((with_reducible refine gate_callee (f := 15) rfl ?_); refine goesL_ (some 38) rfl rfl Try.func15 (by kernel_rfl) rfl #[.int .i64 ji9, .int .i64 (wrap64 (1 + t196)), .int .i64 (wrap64 (1 + t197))] rfl (by (try simp only [List.map_toArray, List.map_cons, List.map_nil]); first | done | (simp only [hji9]; rfl) | rfl | (simp only [List.length_drop, List.length_take]; rfl)) ?_; (with_reducible refine (histogram_Bin.calls ji9 (wrap64 (1 + t196)) (wrap64 (1 + t197)) t201 _ A11.out).mono ?_); rintro e w' ⟨rfl, ⟨nd, rfl⟩⟩; refine ⟨_, rfl, ?_⟩) | (go_at_call 15; (with_reducible refine (histogram_Bin.calls 0 (wrap64 (1 + t196)) (wrap64 (1 + t197)) t202 _ A15.out).mono ?_); rintro e w' ⟨rfl, ⟨nd, rfl⟩⟩) | (go_at_call 15; (with_reducible refine (histogram_Bin.calls (wrap64 (1 + t196)) (wrap64 (1 + t196)) (wrap64 (1 + t197)) t203 _ A18.out).mono ?_); rintro e w' ⟨rfl, ⟨nd, rfl⟩⟩) | (go_at_call 16; (with_reducible refine (tilefarmlaw12_sane.calls k  t204 _ A24.out).mono ?_); rintro e w25 ⟨rfl, hb⟩; have n0_ := Aside0.mk (below_step (by repeat (first | (with_reducible first | exact HB.out | apply below_alloc | apply pw_below_drewN | apply below_drew1) | exact HB.out)) hb); clear HB; have HB := n0_; clear n0_; (try clear hb); (try clear hb2); (try clear hk); (try clear hi)))
                      go_ret
                      exact ⟨by first | rfl | (simp [errW_none, errW_some] <;> rfl) | (simp only [← hji9]; first | rfl | (simp [errW_none, errW_some] <;> rfl)) | (simp [*, errW_none, errW_some] <;> rfl), by repeat (first | (with_reducible first | exact HB.out | apply below_alloc | apply pw_below_drewN | apply below_drew1) | exact HB.out)⟩
                    · rw [if_neg c23] at H
                      have c23b0 : (t200 == (wrap64 (Int.tdiv t198 (wrap64 (Int.tdiv (wrap64 ((wrap64 (1 + t196)) + 1)) (wrap64 (1 + t197))))))) = false := beq_eq_false_iff_ne.mpr c23
                      have c23b1 : (t200 != (wrap64 (Int.tdiv t198 (wrap64 (Int.tdiv (wrap64 ((wrap64 (1 + t196)) + 1)) (wrap64 (1 + t197))))))) = true := bne_iff_ne.mpr c23
                      exact absurd ((Option.some.inj H).trans HT.out) (by decide)
                · rw [if_neg c21] at H
                  have c21b0 : ((Int.tmod (wrap64 ((wrap64 (1 + t196)) + 1)) (wrap64 (1 + t197))) == 0) = false := beq_eq_false_iff_ne.mpr c21
                  have c21b1 : ((Int.tmod (wrap64 ((wrap64 (1 + t196)) + 1)) (wrap64 (1 + t197))) != 0) = true := bne_iff_ne.mpr c21
                  replace H := Option.bind_eq_some_iff.mp H
                  obtain ⟨t205, A260, H⟩ := H
                  replace H : (some t205) = some r := H
                  have A26 := Aside0.mk A260
                  clear A260
                  obtain rfl := Option.some.inj H
                  go_enter Try.func6, Try.ntmps6
                  go_wp2_with (first | ((with_reducible refine gate_callee (f := 13) rfl ?_); refine goesL_ (some 16) rfl rfl Try.func13 (by kernel_rfl) rfl #[.int .i64 a2, .int .i64 70000] rfl (by (try simp only [List.map_toArray, List.map_cons, List.map_nil]); first | done | rfl | (simp only [List.length_drop, List.length_take]; rfl)) ?_; (with_reducible refine (tilefarmgen_Mod.calls a2 70000 t196 _ A5.out).mono ?_); rintro e w' ⟨rfl, ⟨nd, rfl⟩⟩; refine ⟨_, rfl, ?_⟩) | ((with_reducible refine gate_callee (f := 13) rfl ?_); refine goesL_ (some 19) rfl rfl Try.func13 (by kernel_rfl) rfl #[.int .i64 a3, .int .i64 128] rfl (by (try simp only [List.map_toArray, List.map_cons, List.map_nil]); first | done | rfl | (simp only [List.length_drop, List.length_take]; rfl)) ?_; (with_reducible refine (tilefarmgen_Mod.calls a3 128 t197 _ A6.out).mono ?_); rintro e w' ⟨rfl, ⟨nd, rfl⟩⟩; refine ⟨_, rfl, ?_⟩) | ((with_reducible refine gate_callee (f := 13) rfl ?_); refine goesL_ (some 24) rfl rfl Try.func13 (by kernel_rfl) rfl #[.int .i64 a0, .int .i64 (wrap64 ((wrap64 (1 + t196)) + 1))] rfl (by (try simp only [List.map_toArray, List.map_cons, List.map_nil]); first | done | rfl | (simp only [List.length_drop, List.length_take]; rfl)) ?_; (with_reducible refine (tilefarmgen_Mod.calls a0 (wrap64 ((wrap64 (1 + t196)) + 1)) t198 _ A7.out).mono ?_); rintro e w' ⟨rfl, ⟨nd, rfl⟩⟩; refine ⟨_, rfl, ?_⟩) | ((with_reducible refine gate_callee (f := 13) rfl ?_); refine goesL_ (some 27) rfl rfl Try.func13 (by kernel_rfl) rfl #[.int .i64 a1, .int .i64 1000] rfl (by (try simp only [List.map_toArray, List.map_cons, List.map_nil]); first | done | rfl | (simp only [List.length_drop, List.length_take]; rfl)) ?_; (with_reducible refine (tilefarmgen_Mod.calls a1 1000 t199 _ A8.out).mono ?_); rintro e w' ⟨rfl, ⟨nd, rfl⟩⟩; refine ⟨_, rfl, ?_⟩) | ((with_reducible refine gate_callee (f := 15) rfl ?_); refine goesL_ (some 34) rfl rfl Try.func15 (by kernel_rfl) rfl #[.int .i64 t198, .int .i64 (wrap64 (1 + t196)), .int .i64 (wrap64 (1 + t197))] rfl (by (try simp only [List.map_toArray, List.map_cons, List.map_nil]); first | done | rfl | (simp only [List.length_drop, List.length_take]; rfl)) ?_; (with_reducible refine (histogram_Bin.calls t198 (wrap64 (1 + t196)) (wrap64 (1 + t197)) t200 _ A10.out).mono ?_); rintro e w' ⟨rfl, ⟨nd, rfl⟩⟩; refine ⟨_, rfl, ?_⟩) | ((with_reducible refine gate_callee (f := 15) rfl ?_); refine goesL_ (some 38) rfl rfl Try.func15 (by kernel_rfl) rfl #[.int .i64 ji9, .int .i64 (wrap64 (1 + t196)), .int .i64 (wrap64 (1 + t197))] rfl (by (try simp only [List.map_toArray, List.map_cons, List.map_nil]); first | done | (simp only [hji9]; rfl) | rfl | (simp only [List.length_drop, List.length_take]; rfl)) ?_; (with_reducible refine (histogram_Bin.calls ji9 (wrap64 (1 + t196)) (wrap64 (1 + t197)) t201 _ A11.out).mono ?_); rintro e w' ⟨rfl, ⟨nd, rfl⟩⟩; refine ⟨_, rfl, ?_⟩) | (go_at_call 15; (with_reducible refine (histogram_Bin.calls 0 (wrap64 (1 + t196)) (wrap64 (1 + t197)) t202 _ A15.out).mono ?_); rintro e w' ⟨rfl, ⟨nd, rfl⟩⟩) | (go_at_call 15; (with_reducible refine (histogram_Bin.calls (wrap64 (1 + t196)) (wrap64 (1 + t196)) (wrap64 (1 + t197)) t203 _ A18.out).mono ?_); rintro e w' ⟨rfl, ⟨nd, rfl⟩⟩) | (go_at_call 16; (with_reducible refine (tilefarmlaw12_sane.calls k  t205 _ A26.out).mono ?_); rintro e w27 ⟨rfl, hb⟩; have n0_ := Aside0.mk (below_step (by repeat (first | (with_reducible first | exact HB.out | apply below_alloc | apply pw_below_drewN | apply below_drew1) | exact HB.out)) hb); clear HB; have HB := n0_; clear n0_; (try clear hb); (try clear hb2); (try clear hk); (try clear hi)))
                  go_ret
                  exact ⟨by first | rfl | (simp [errW_none, errW_some] <;> rfl) | (simp only [← hji9]; first | rfl | (simp [errW_none, errW_some] <;> rfl)) | (simp [*, errW_none, errW_some] <;> rfl), by repeat (first | (with_reducible first | exact HB.out | apply below_alloc | apply pw_below_drewN | apply below_drew1) | exact HB.out)⟩
            · rw [if_neg c19] at H
              have c19b0 : (t203 == (wrap64 ((wrap64 (1 + t197)) - 1))) = false := beq_eq_false_iff_ne.mpr c19
              have c19b1 : (t203 != (wrap64 ((wrap64 (1 + t197)) - 1))) = true := bne_iff_ne.mpr c19
              exact absurd ((Option.some.inj H).trans HT.out) (by decide)
          · rw [if_neg c17] at H
            have c17b0 : decide ((wrap64 (1 + t197)) ≤ (wrap64 ((wrap64 (1 + t196)) + 1))) = false := decide_eq_false c17
            clear c17
            by_cases c28 : (wrap64 (1 + t197)) = 0
            · rw [if_pos c28] at H
              exact absurd H (by simp)
            · rw [if_neg c28] at H
              have c28b0 : ((wrap64 (1 + t197)) == 0) = false := beq_eq_false_iff_ne.mpr c28
              have c28b1 : ((wrap64 (1 + t197)) != 0) = true := bne_iff_ne.mpr c28
              by_cases c29 : (Int.tmod (wrap64 ((wrap64 (1 + t196)) + 1)) (wrap64 (1 + t197))) = 0
              · rw [if_pos c29] at H
                have c29b0 : ((Int.tmod (wrap64 ((wrap64 (1 + t196)) + 1)) (wrap64 (1 + t197))) == 0) = true := beq_iff_eq.mpr c29
                have c29b1 : ((Int.tmod (wrap64 ((wrap64 (1 + t196)) + 1)) (wrap64 (1 + t197))) != 0) = false := bne_eq_false_iff_eq.mpr c29
                clear c29
                by_cases c30 : (wrap64 (Int.tdiv (wrap64 ((wrap64 (1 + t196)) + 1)) (wrap64 (1 + t197)))) = 0
                · rw [if_pos c30] at H
                  exact absurd H (by simp)
                · rw [if_neg c30] at H
                  have c30b0 : ((wrap64 (Int.tdiv (wrap64 ((wrap64 (1 + t196)) + 1)) (wrap64 (1 + t197)))) == 0) = false := beq_eq_false_iff_ne.mpr c30
                  have c30b1 : ((wrap64 (Int.tdiv (wrap64 ((wrap64 (1 + t196)) + 1)) (wrap64 (1 + t197)))) != 0) = true := bne_iff_ne.mpr c30
                  by_cases c31 : t200 = (wrap64 (Int.tdiv t198 (wrap64 (Int.tdiv (wrap64 ((wrap64 (1 + t196)) + 1)) (wrap64 (1 + t197))))))
                  · rw [if_pos c31] at H
                    have c31b0 : (t200 == (wrap64 (Int.tdiv t198 (wrap64 (Int.tdiv (wrap64 ((wrap64 (1 + t196)) + 1)) (wrap64 (1 + t197))))))) = true := beq_iff_eq.mpr c31
                    have c31b1 : (t200 != (wrap64 (Int.tdiv t198 (wrap64 (Int.tdiv (wrap64 ((wrap64 (1 + t196)) + 1)) (wrap64 (1 + t197))))))) = false := bne_eq_false_iff_eq.mpr c31
                    clear c31
                    replace H := Option.bind_eq_some_iff.mp H
                    obtain ⟨t206, A320, H⟩ := H
                    replace H : (some t206) = some r := H
                    have A32 := Aside0.mk A320
                    clear A320
                    obtain rfl := Option.some.inj H
                    go_enter Try.func6, Try.ntmps6
                    go_wp2_with (first | ((with_reducible refine gate_callee (f := 13) rfl ?_); refine goesL_ (some 16) rfl rfl Try.func13 (by kernel_rfl) rfl #[.int .i64 a2, .int .i64 70000] rfl (by (try simp only [List.map_toArray, List.map_cons, List.map_nil]); first | done | rfl | (simp only [List.length_drop, List.length_take]; rfl)) ?_; (with_reducible refine (tilefarmgen_Mod.calls a2 70000 t196 _ A5.out).mono ?_); rintro e w' ⟨rfl, ⟨nd, rfl⟩⟩; refine ⟨_, rfl, ?_⟩) | ((with_reducible refine gate_callee (f := 13) rfl ?_); refine goesL_ (some 19) rfl rfl Try.func13 (by kernel_rfl) rfl #[.int .i64 a3, .int .i64 128] rfl (by (try simp only [List.map_toArray, List.map_cons, List.map_nil]); first | done | rfl | (simp only [List.length_drop, List.length_take]; rfl)) ?_; (with_reducible refine (tilefarmgen_Mod.calls a3 128 t197 _ A6.out).mono ?_); rintro e w' ⟨rfl, ⟨nd, rfl⟩⟩; refine ⟨_, rfl, ?_⟩) | ((with_reducible refine gate_callee (f := 13) rfl ?_); refine goesL_ (some 24) rfl rfl Try.func13 (by kernel_rfl) rfl #[.int .i64 a0, .int .i64 (wrap64 ((wrap64 (1 + t196)) + 1))] rfl (by (try simp only [List.map_toArray, List.map_cons, List.map_nil]); first | done | rfl | (simp only [List.length_drop, List.length_take]; rfl)) ?_; (with_reducible refine (tilefarmgen_Mod.calls a0 (wrap64 ((wrap64 (1 + t196)) + 1)) t198 _ A7.out).mono ?_); rintro e w' ⟨rfl, ⟨nd, rfl⟩⟩; refine ⟨_, rfl, ?_⟩) | ((with_reducible refine gate_callee (f := 13) rfl ?_); refine goesL_ (some 27) rfl rfl Try.func13 (by kernel_rfl) rfl #[.int .i64 a1, .int .i64 1000] rfl (by (try simp only [List.map_toArray, List.map_cons, List.map_nil]); first | done | rfl | (simp only [List.length_drop, List.length_take]; rfl)) ?_; (with_reducible refine (tilefarmgen_Mod.calls a1 1000 t199 _ A8.out).mono ?_); rintro e w' ⟨rfl, ⟨nd, rfl⟩⟩; refine ⟨_, rfl, ?_⟩) | ((with_reducible refine gate_callee (f := 15) rfl ?_); refine goesL_ (some 34) rfl rfl Try.func15 (by kernel_rfl) rfl #[.int .i64 t198, .int .i64 (wrap64 (1 + t196)), .int .i64 (wrap64 (1 + t197))] rfl (by (try simp only [List.map_toArray, List.map_cons, List.map_nil]); first | done | rfl | (simp only [List.length_drop, List.length_take]; rfl)) ?_; (with_reducible refine (histogram_Bin.calls t198 (wrap64 (1 + t196)) (wrap64 (1 + t197)) t200 _ A10.out).mono ?_); rintro e w' ⟨rfl, ⟨nd, rfl⟩⟩; refine ⟨_, rfl, ?_⟩) | ((with_reducible refine gate_callee (f := 15) rfl ?_); refine goesL_ (some 38) rfl rfl Try.func15 (by kernel_rfl) rfl #[.int .i64 ji9, .int .i64 (wrap64 (1 + t196)), .int .i64 (wrap64 (1 + t197))] rfl (by (try simp only [List.map_toArray, List.map_cons, List.map_nil]); first | done | (simp only [hji9]; rfl) | rfl | (simp only [List.length_drop, List.length_take]; rfl)) ?_; (with_reducible refine (histogram_Bin.calls ji9 (wrap64 (1 + t196)) (wrap64 (1 + t197)) t201 _ A11.out).mono ?_); rintro e w' ⟨rfl, ⟨nd, rfl⟩⟩; refine ⟨_, rfl, ?_⟩) | (go_at_call 15; (with_reducible refine (histogram_Bin.calls 0 (wrap64 (1 + t196)) (wrap64 (1 + t197)) t202 _ A15.out).mono ?_); rintro e w' ⟨rfl, ⟨nd, rfl⟩⟩) | (go_at_call 16; (with_reducible refine (tilefarmlaw12_sane.calls k  t206 _ A32.out).mono ?_); rintro e w33 ⟨rfl, hb⟩; have n0_ := Aside0.mk (below_step (by repeat (first | (with_reducible first | exact HB.out | apply below_alloc | apply pw_below_drewN | apply below_drew1) | exact HB.out)) hb); clear HB; have HB := n0_; clear n0_; (try clear hb); (try clear hb2); (try clear hk); (try clear hi)))
                    go_ret
                    exact ⟨by first | rfl | (simp [errW_none, errW_some] <;> rfl) | (simp only [← hji9]; first | rfl | (simp [errW_none, errW_some] <;> rfl)) | (simp [*, errW_none, errW_some] <;> rfl), by repeat (first | (with_reducible first | exact HB.out | apply below_alloc | apply pw_below_drewN | apply below_drew1) | exact HB.out)⟩
                  · rw [if_neg c31] at H
                    have c31b0 : (t200 == (wrap64 (Int.tdiv t198 (wrap64 (Int.tdiv (wrap64 ((wrap64 (1 + t196)) + 1)) (wrap64 (1 + t197))))))) = false := beq_eq_false_iff_ne.mpr c31
                    have c31b1 : (t200 != (wrap64 (Int.tdiv t198 (wrap64 (Int.tdiv (wrap64 ((wrap64 (1 + t196)) + 1)) (wrap64 (1 + t197))))))) = true := bne_iff_ne.mpr c31
                    exact absurd ((Option.some.inj H).trans HT.out) (by decide)
              · rw [if_neg c29] at H
                have c29b0 : ((Int.tmod (wrap64 ((wrap64 (1 + t196)) + 1)) (wrap64 (1 + t197))) == 0) = false := beq_eq_false_iff_ne.mpr c29
                have c29b1 : ((Int.tmod (wrap64 ((wrap64 (1 + t196)) + 1)) (wrap64 (1 + t197))) != 0) = true := bne_iff_ne.mpr c29
                replace H := Option.bind_eq_some_iff.mp H
                obtain ⟨t207, A340, H⟩ := H
                replace H : (some t207) = some r := H
                have A34 := Aside0.mk A340
                clear A340
                obtain rfl := Option.some.inj H
                go_enter Try.func6, Try.ntmps6
                go_wp2_with (first | ((with_reducible refine gate_callee (f := 13) rfl ?_); refine goesL_ (some 16) rfl rfl Try.func13 (by kernel_rfl) rfl #[.int .i64 a2, .int .i64 70000] rfl (by (try simp only [List.map_toArray, List.map_cons, List.map_nil]); first | done | rfl | (simp only [List.length_drop, List.length_take]; rfl)) ?_; (with_reducible refine (tilefarmgen_Mod.calls a2 70000 t196 _ A5.out).mono ?_); rintro e w' ⟨rfl, ⟨nd, rfl⟩⟩; refine ⟨_, rfl, ?_⟩) | ((with_reducible refine gate_callee (f := 13) rfl ?_); refine goesL_ (some 19) rfl rfl Try.func13 (by kernel_rfl) rfl #[.int .i64 a3, .int .i64 128] rfl (by (try simp only [List.map_toArray, List.map_cons, List.map_nil]); first | done | rfl | (simp only [List.length_drop, List.length_take]; rfl)) ?_; (with_reducible refine (tilefarmgen_Mod.calls a3 128 t197 _ A6.out).mono ?_); rintro e w' ⟨rfl, ⟨nd, rfl⟩⟩; refine ⟨_, rfl, ?_⟩) | ((with_reducible refine gate_callee (f := 13) rfl ?_); refine goesL_ (some 24) rfl rfl Try.func13 (by kernel_rfl) rfl #[.int .i64 a0, .int .i64 (wrap64 ((wrap64 (1 + t196)) + 1))] rfl (by (try simp only [List.map_toArray, List.map_cons, List.map_nil]); first | done | rfl | (simp only [List.length_drop, List.length_take]; rfl)) ?_; (with_reducible refine (tilefarmgen_Mod.calls a0 (wrap64 ((wrap64 (1 + t196)) + 1)) t198 _ A7.out).mono ?_); rintro e w' ⟨rfl, ⟨nd, rfl⟩⟩; refine ⟨_, rfl, ?_⟩) | ((with_reducible refine gate_callee (f := 13) rfl ?_); refine goesL_ (some 27) rfl rfl Try.func13 (by kernel_rfl) rfl #[.int .i64 a1, .int .i64 1000] rfl (by (try simp only [List.map_toArray, List.map_cons, List.map_nil]); first | done | rfl | (simp only [List.length_drop, List.length_take]; rfl)) ?_; (with_reducible refine (tilefarmgen_Mod.calls a1 1000 t199 _ A8.out).mono ?_); rintro e w' ⟨rfl, ⟨nd, rfl⟩⟩; refine ⟨_, rfl, ?_⟩) | ((with_reducible refine gate_callee (f := 15) rfl ?_); refine goesL_ (some 34) rfl rfl Try.func15 (by kernel_rfl) rfl #[.int .i64 t198, .int .i64 (wrap64 (1 + t196)), .int .i64 (wrap64 (1 + t197))] rfl (by (try simp only [List.map_toArray, List.map_cons, List.map_nil]); first | done | rfl | (simp only [List.length_drop, List.length_take]; rfl)) ?_; (with_reducible refine (histogram_Bin.calls t198 (wrap64 (1 + t196)) (wrap64 (1 + t197)) t200 _ A10.out).mono ?_); rintro e w' ⟨rfl, ⟨nd, rfl⟩⟩; refine ⟨_, rfl, ?_⟩) | ((with_reducible refine gate_callee (f := 15) rfl ?_); refine goesL_ (some 38) rfl rfl Try.func15 (by kernel_rfl) rfl #[.int .i64 ji9, .int .i64 (wrap64 (1 + t196)), .int .i64 (wrap64 (1 + t197))] rfl (by (try simp only [List.map_toArray, List.map_cons, List.map_nil]); first | done | (simp only [hji9]; rfl) | rfl | (simp only [List.length_drop, List.length_take]; rfl)) ?_; (with_reducible refine (histogram_Bin.calls ji9 (wrap64 (1 + t196)) (wrap64 (1 + t197)) t201 _ A11.out).mono ?_); rintro e w' ⟨rfl, ⟨nd, rfl⟩⟩; refine ⟨_, rfl, ?_⟩) | (go_at_call 15; (with_reducible refine (histogram_Bin.calls 0 (wrap64 (1 + t196)) (wrap64 (1 + t197)) t202 _ A15.out).mono ?_); rintro e w' ⟨rfl, ⟨nd, rfl⟩⟩) | (go_at_call 16; (with_reducible refine (tilefarmlaw12_sane.calls k  t207 _ A34.out).mono ?_); rintro e w35 ⟨rfl, hb⟩; have n0_ := Aside0.mk (below_step (by repeat (first | (with_reducible first | exact HB.out | apply below_alloc | apply pw_below_drewN | apply below_drew1) | exact HB.out)) hb); clear HB; have HB := n0_; clear n0_; (try clear hb); (try clear hb2); (try clear hk); (try clear hi)))
                go_ret
                exact ⟨by first | rfl | (simp [errW_none, errW_some] <;> rfl) | (simp only [← hji9]; first | rfl | (simp [errW_none, errW_some] <;> rfl)) | (simp [*, errW_none, errW_some] <;> rfl), by repeat (first | (with_reducible first | exact HB.out | apply below_alloc | apply pw_below_drewN | apply below_drew1) | exact HB.out)⟩
        · rw [if_neg c16] at H
          have c16b0 : (t202 == 0) = false := beq_eq_false_iff_ne.mpr c16
          have c16b1 : (t202 != 0) = true := bne_iff_ne.mpr c16
          exact absurd ((Option.some.inj H).trans HT.out) (by decide)

/-- THE ONE PURE STATEMENT of tilefarmlaw12_HistogramBins: yours. -/
def tilefarmlaw12_HistogramBins.Pure : Prop := ∀ (a0 : Int) (a1 : Int) (a2 : Int) (a3 : Int), (Lit.int .i64 a0).wf = true → (Lit.int .i64 a1).wf = true → (Lit.int .i64 a2).wf = true → (Lit.int .i64 a3).wf = true → ∃ k, tilefarmlaw12_HistogramBins.f k a0 a1 a2 a3 = some true
theorem tilefarmlaw12_HistogramBins.walk (P : tilefarmlaw12_HistogramBins.Pure) (a0 : Int) (a1 : Int) (a2 : Int) (a3 : Int) (w : World) (w0 : (Lit.int .i64 a0).wf = true) (w1 : (Lit.int .i64 a1).wf = true) (w2 : (Lit.int .i64 a2).wf = true) (w3 : (Lit.int .i64 a3).wf = true) :
    Calls Try.prog 6 #[.int .i64 a0, .int .i64 a1, .int .i64 a2, .int .i64 a3] w fun e w' => e = .returned (.bool true) ∧ Below w.heap.size w w' := by
  obtain ⟨k, h⟩ := P a0 a1 a2 a3 w0 w1 w2 w3
  refine (tilefarmlaw12_HistogramBins.calls k a0 a1 a2 a3 true w h).mono ?_
  rintro e w' ⟨rfl, hd⟩
  exact ⟨rfl, hd⟩

end Go.Proofs.Yticicecobchdiaa.PHistogramBins
