-- Written by a program of the session (wip/tools/pack.py): the printed texts, pruned; checked by Lean.
import Derived.Test.YticicecobchdiaaKHistogramCountsa
import Derived.Test.YticicecobchdiaaKHistogramCountsx0
import Derived.Test.YticicecobchdiaaKHistogramCountsx8
import Derived.Test.YticicecobchdiaaKHistogramCountsx10
namespace Go.Proofs.Yticicecobchdiaa.PHistogramCounts
open Go.RowKit Go.Proofs.YticicecobchdiaaW.PrintWords Go.Proofs.YticicecobchdiaaW.PrintLast Go.Proofs.YticicecobchdiaaW.PrintMore
attribute [local go_sem] max2_int min2_int max_two min_two max_three min_three max_four min_four   -- for this text's walks alone
set_option linter.unusedVariables false
set_option linter.unusedSimpArgs false
mutual
def tilefarmref12_Partial.l0 : Nat → Int → List Int → Int → Int → Int → Int → List Int → Int → Int → Int → Int → Option (List Int × Int)
  | 0, _, _, _, _, _, _, _, _, _, _, _ => none
  | k + 1, x1, x8, x9, x307000, x307001, x307002, x307003, x308000, x308001, x308002, x308003 => if x9 < x308003 then (tilefarmref12_Partial.l1 k x1 x8 x9 x308000 x307000 x307001 x307002 x307003 x308000 x308001 x308002 x308003) else (some (x8, 0))
def tilefarmref12_Partial.l1 : Nat → Int → List Int → Int → Int → Int → Int → Int → List Int → Int → Int → Int → Int → Option (List Int × Int)
  | 0, _, _, _, _, _, _, _, _, _, _, _, _ => none
  | k + 1, x1, x8, x9, x10, x307000, x307001, x307002, x307003, x308000, x308001, x308002, x308003 => if x10 < x308002 then (if 0 ≤ (wrap64 ((wrap64 (x9 * x307000)) + x10)) then (if (wrap64 ((wrap64 (x9 * x307000)) + x10)) < (x307003.length : Int) then ((tilefarmref12_Bin.f (rd x307003 (wrap64 ((wrap64 (x9 * x307000)) + x10))) x307002 x1).bind fun t320 => (if 0 ≤ t320 then (if t320 < (x8.length : Int) then (tilefarmref12_Partial.l1 k x1 (x8.set (t320 : Int).toNat (wrap64 ((rd x8 t320) + 1))) x9 (wrap64 (x10 + 1)) x307000 x307001 x307002 x307003 x308000 x308001 x308002 x308003) else (none)) else (none))) else (none)) else (none)) else (tilefarmref12_Partial.l0 k x1 x8 (wrap64 (x9 + 1)) x307000 x307001 x307002 x307003 x308000 x308001 x308002 x308003)
end
def tilefarmref12_Partial.f (k : Nat) (a0_0 : Int) (a0_1 : Int) (a0_2 : Int) (l0_3 : List Int) (a1 : Int) (a2_0 : Int) (a2_1 : Int) (a2_2 : Int) (a2_3 : Int) : Option (List Int × Int) := (tilefarmref4_Valid.f k a0_0 a0_1 a0_2 l0_3).bind fun t308 => (if t308 = true then ((tilefarmref12_Bins.f a1).bind fun t309 => (if t309 = true then ((tilefarmref2_Full.f a2_0 a2_1 a2_2 a2_3).bind fun t310 => (if t310 = true then ((tilefarmref4_Cover.f a0_0 a0_1 a0_2 l0_3).bind fun bt311 => ((tilefarmref2_Inside.f a2_0 a2_1 a2_2 a2_3 bt311.1 bt311.2.1 bt311.2.2.1 bt311.2.2.2).bind fun t315 => (if t315 = true then (if 0 ≤ a1 then (if (a1 : Int).toNat ≤ 35184372088832 then (tilefarmref12_Partial.l0 k a1 (List.replicate (a1 : Int).toNat 0) a2_1 a0_0 a0_1 a0_2 l0_3 a2_0 a2_1 a2_2 a2_3) else (none)) else (none)) else (some (([] : List Int), 8))))) else (some (([] : List Int), 8)))) else (some (([] : List Int), 9)))) else (some (([] : List Int), 1)))
theorem tilefarmref12_Partial.mono_l : ∀ k, (∀ y0 y1 y2 y3 y4 y5 y6 y7 y8 y9 y10, LeO (tilefarmref12_Partial.l0 k y0 y1 y2 y3 y4 y5 y6 y7 y8 y9 y10) (tilefarmref12_Partial.l0 (k + 1) y0 y1 y2 y3 y4 y5 y6 y7 y8 y9 y10)) ∧ (∀ y0 y1 y2 y3 y4 y5 y6 y7 y8 y9 y10 y11, LeO (tilefarmref12_Partial.l1 k y0 y1 y2 y3 y4 y5 y6 y7 y8 y9 y10 y11) (tilefarmref12_Partial.l1 (k + 1) y0 y1 y2 y3 y4 y5 y6 y7 y8 y9 y10 y11))
  | 0 => ⟨fun _ _ _ _ _ _ _ _ _ _ _ r h => by simp [tilefarmref12_Partial.l0] at h, fun _ _ _ _ _ _ _ _ _ _ _ _ r h => by simp [tilefarmref12_Partial.l1] at h⟩
  | k + 1 => by
    obtain ⟨ih0, ih1⟩ := tilefarmref12_Partial.mono_l k
    refine ⟨?_, ?_⟩
    · intro y0 y1 y2 y3 y4 y5 y6 y7 y8 y9 y10
      unfold tilefarmref12_Partial.l0
      repeat' first
      | (with_reducible exact ih0 _ _ _ _ _ _ _ _ _ _ _)
      | (with_reducible exact ih1 _ _ _ _ _ _ _ _ _ _ _ _)
      | (with_reducible exact tilefarmref4_Valid.mono _ _ _ _ _)
      | (with_reducible exact LeO.refl _)
      | (with_reducible exact LeO.none _)
      | (with_reducible refine LeO.ite ?_ ?_)
      | (with_reducible refine LeO.bind ?_ (fun _ => ?_))
      | exact ih0 _ _ _ _ _ _ _ _ _ _ _
      | exact ih1 _ _ _ _ _ _ _ _ _ _ _ _
      | exact tilefarmref4_Valid.mono _ _ _ _ _
      | exact LeO.none _
      | refine LeO.ite ?_ ?_
      | refine LeO.bind ?_ (fun _ => ?_)
    · intro y0 y1 y2 y3 y4 y5 y6 y7 y8 y9 y10 y11
      unfold tilefarmref12_Partial.l1
      repeat' first
      | (with_reducible exact ih0 _ _ _ _ _ _ _ _ _ _ _)
      | (with_reducible exact ih1 _ _ _ _ _ _ _ _ _ _ _ _)
      | (with_reducible exact tilefarmref4_Valid.mono _ _ _ _ _)
      | (with_reducible exact LeO.refl _)
      | (with_reducible exact LeO.none _)
      | (with_reducible refine LeO.ite ?_ ?_)
      | (with_reducible refine LeO.bind ?_ (fun _ => ?_))
      | exact ih0 _ _ _ _ _ _ _ _ _ _ _
      | exact ih1 _ _ _ _ _ _ _ _ _ _ _ _
      | exact tilefarmref4_Valid.mono _ _ _ _ _
      | exact LeO.none _
      | refine LeO.ite ?_ ?_
      | refine LeO.bind ?_ (fun _ => ?_)
theorem tilefarmref12_Partial.mono : ∀ a0 a1 a2 a3 a4 a5 a6 a7 a8 k, LeO (tilefarmref12_Partial.f k a0 a1 a2 a3 a4 a5 a6 a7 a8) (tilefarmref12_Partial.f (k + 1) a0 a1 a2 a3 a4 a5 a6 a7 a8) := by
  intro a0 a1 a2 a3 a4 a5 a6 a7 a8 k
  obtain ⟨ih0, ih1⟩ := tilefarmref12_Partial.mono_l k
  unfold tilefarmref12_Partial.f
  repeat' first
      | (with_reducible exact ih0 _ _ _ _ _ _ _ _ _ _ _)
      | (with_reducible exact ih1 _ _ _ _ _ _ _ _ _ _ _ _)
      | (with_reducible exact tilefarmref4_Valid.mono _ _ _ _ _)
      | (with_reducible exact LeO.refl _)
      | (with_reducible exact LeO.none _)
      | (with_reducible refine LeO.ite ?_ ?_)
      | (with_reducible refine LeO.bind ?_ (fun _ => ?_))
      | exact ih0 _ _ _ _ _ _ _ _ _ _ _
      | exact ih1 _ _ _ _ _ _ _ _ _ _ _ _
      | exact tilefarmref4_Valid.mono _ _ _ _ _
      | exact LeO.none _
      | refine LeO.ite ?_ ?_
      | refine LeO.bind ?_ (fun _ => ?_)
def tilefarmref12_Partial.T5 : Bool × List (List Nat × List Nat) := (true, [([], []), ([0], [0]), ([1], [1]), ([2, 1], [2]), ([3], [3]), ([3], [3]), ([5, 3, 3], [3, 5]), ([4, 6, 6, 3], [3, 4, 6]), ([7, 3], [3, 7]), ([3, 8], [3, 8]), ([9, 7], [9])])
def tilefarmref12_Partial.B5 : List Nat := [0, 1, 3, 7, 15, 15, 47, 127, 255, 511, 1023]
theorem tilefarmref12_Partial.tab5 : rtab .any (opsOf Try.f22 5) = tilefarmref12_Partial.T5 := by kernel_rfl
theorem tilefarmref12_Partial.bits5 : waitsOk tilefarmref12_Partial.T5.2 tilefarmref12_Partial.B5 = true := by kernel_rfl
def tilefarmref12_Partial.T14 : Bool × List (List Nat × List Nat) := (true, [([], []), ([], []), ([1], [1]), ([], []), ([], []), ([4], [4]), ([3, 5], [3, 5]), ([], []), ([6, 7], [6, 7]), ([2, 8], [2, 8]), ([9], [9]), ([], []), ([11], [11]), ([], []), ([10, 12, 13], [10, 12, 13]), ([0, 14], [0, 14]), ([15], [15]), ([16], [16]), ([0, 14, 0, 1, 2, 3, 4, 5, 6, 7, 8, 9, 10, 11, 12, 13, 14, 15, 16, 17], [0, 14]), ([18, 17, 14, 0, 1, 2, 3, 4, 5, 6, 7, 8, 9, 10, 11, 12, 13, 14, 15, 16, 17], [17, 18])])
def tilefarmref12_Partial.B14 : List Nat := [0, 0, 2, 0, 0, 16, 56, 0, 248, 510, 1022, 0, 2048, 0, 16382, 32767, 65535, 131071, 262143, 524287]
theorem tilefarmref12_Partial.tab14 : rtab .any (opsOf Try.f22 14) = tilefarmref12_Partial.T14 := by kernel_rfl
theorem tilefarmref12_Partial.bits14 : waitsOk tilefarmref12_Partial.T14.2 tilefarmref12_Partial.B14 = true := by kernel_rfl
set_option maxHeartbeats 8000000 in
set_option maxRecDepth 100000 in
theorem tilefarmref12_Partial.calls (k : Nat) (a0_0 : Int) (a0_1 : Int) (a0_2 : Int) (A0_3 : Option Addr) (c0_3 : Nat) (l0_3 : List Int) (a1 : Int) (a2_0 : Int) (a2_1 : Int) (a2_2 : Int) (a2_3 : Int) (r1 : List Int) (r2 : Int) (w : World) (hr0_3 : Kd.C (Kd.int .i64) w A0_3 l0_3.length l0_3) (hc0_3 : l0_3.length ≤ c0_3) (h : tilefarmref12_Partial.f k a0_0 a0_1 a0_2 l0_3 a1 a2_0 a2_1 a2_2 a2_3 = some (r1, r2)) :
    Calls Try.prog 22 #[.agg #[.int .i64 a0_0, .int .i64 a0_1, .int .i64 a0_2, .slice A0_3 l0_3.length c0_3], .int .i64 a1, .agg #[.int .i64 a2_0, .int .i64 a2_1, .int .i64 a2_2, .int .i64 a2_3]] w fun e w' => ∃ v0_ : Value, e = .returned (.tuple #[v0_, .int .i64 r2]) ∧ Kd.R (Kd.int .i64) 3 w' w.heap.size (fun _ => True) v0_ r1 ∧ Below w.heap.size w w' := by
  have hu26 := Try.underlying26
  have hu39 := Try.underlying39
  have HR0_3 := Aside0.mk hr0_3
  have HC0_3 := Aside0.mk hc0_3
  clear hr0_3 hc0_3
  have HB := Aside0.mk (Below.refl w.heap.size w)
  have H : ((tilefarmref4_Valid.f k a0_0 a0_1 a0_2 l0_3).bind fun t308 => (if t308 = true then ((tilefarmref12_Bins.f a1).bind fun t309 => (if t309 = true then ((tilefarmref2_Full.f a2_0 a2_1 a2_2 a2_3).bind fun t310 => (if t310 = true then ((tilefarmref4_Cover.f a0_0 a0_1 a0_2 l0_3).bind fun bt311 => ((tilefarmref2_Inside.f a2_0 a2_1 a2_2 a2_3 bt311.1 bt311.2.1 bt311.2.2.1 bt311.2.2.2).bind fun t315 => (if t315 = true then (if 0 ≤ a1 then (if (a1 : Int).toNat ≤ 35184372088832 then (tilefarmref12_Partial.l0 k a1 (List.replicate (a1 : Int).toNat 0) a2_1 a0_0 a0_1 a0_2 l0_3 a2_0 a2_1 a2_2 a2_3) else (none)) else (none)) else (some (([] : List Int), 8))))) else (some (([] : List Int), 8)))) else (some (([] : List Int), 9)))) else (some (([] : List Int), 1)))) = some (r1, r2) := h
  clear h
  replace H := Option.bind_eq_some_iff.mp H
  obtain ⟨t308, A40, H⟩ := H
  replace H : (if t308 = true then ((tilefarmref12_Bins.f a1).bind fun t309 => (if t309 = true then ((tilefarmref2_Full.f a2_0 a2_1 a2_2 a2_3).bind fun t310 => (if t310 = true then ((tilefarmref4_Cover.f a0_0 a0_1 a0_2 l0_3).bind fun bt311 => ((tilefarmref2_Inside.f a2_0 a2_1 a2_2 a2_3 bt311.1 bt311.2.1 bt311.2.2.1 bt311.2.2.2).bind fun t315 => (if t315 = true then (if 0 ≤ a1 then (if (a1 : Int).toNat ≤ 35184372088832 then (tilefarmref12_Partial.l0 k a1 (List.replicate (a1 : Int).toNat 0) a2_1 a0_0 a0_1 a0_2 l0_3 a2_0 a2_1 a2_2 a2_3) else (none)) else (none)) else (some (([] : List Int), 8))))) else (some (([] : List Int), 8)))) else (some (([] : List Int), 9)))) else (some (([] : List Int), 1))) = some (r1, r2) := H
  have A4 := Aside0.mk A40
  clear A40
  by_cases c5 : t308 = true
  · subst c5
    have H1 : ((tilefarmref12_Bins.f a1).bind fun t309 => (if t309 = true then ((tilefarmref2_Full.f a2_0 a2_1 a2_2 a2_3).bind fun t310 => (if t310 = true then ((tilefarmref4_Cover.f a0_0 a0_1 a0_2 l0_3).bind fun bt311 => ((tilefarmref2_Inside.f a2_0 a2_1 a2_2 a2_3 bt311.1 bt311.2.1 bt311.2.2.1 bt311.2.2.2).bind fun t315 => (if t315 = true then (if 0 ≤ a1 then (if (a1 : Int).toNat ≤ 35184372088832 then (tilefarmref12_Partial.l0 k a1 (List.replicate (a1 : Int).toNat 0) a2_1 a0_0 a0_1 a0_2 l0_3 a2_0 a2_1 a2_2 a2_3) else (none)) else (none)) else (some (([] : List Int), 8))))) else (some (([] : List Int), 8)))) else (some (([] : List Int), 9)))) = some (r1, r2) := by rw [if_pos rfl] at H; exact H
    clear H
    have H := H1
    clear H1
    replace H := Option.bind_eq_some_iff.mp H
    obtain ⟨t309, A60, H⟩ := H
    replace H : (if t309 = true then ((tilefarmref2_Full.f a2_0 a2_1 a2_2 a2_3).bind fun t310 => (if t310 = true then ((tilefarmref4_Cover.f a0_0 a0_1 a0_2 l0_3).bind fun bt311 => ((tilefarmref2_Inside.f a2_0 a2_1 a2_2 a2_3 bt311.1 bt311.2.1 bt311.2.2.1 bt311.2.2.2).bind fun t315 => (if t315 = true then (if 0 ≤ a1 then (if (a1 : Int).toNat ≤ 35184372088832 then (tilefarmref12_Partial.l0 k a1 (List.replicate (a1 : Int).toNat 0) a2_1 a0_0 a0_1 a0_2 l0_3 a2_0 a2_1 a2_2 a2_3) else (none)) else (none)) else (some (([] : List Int), 8))))) else (some (([] : List Int), 8)))) else (some (([] : List Int), 9))) = some (r1, r2) := H
    have A6 := Aside0.mk A60
    clear A60
    by_cases c7 : t309 = true
    · subst c7
      have H1 : ((tilefarmref2_Full.f a2_0 a2_1 a2_2 a2_3).bind fun t310 => (if t310 = true then ((tilefarmref4_Cover.f a0_0 a0_1 a0_2 l0_3).bind fun bt311 => ((tilefarmref2_Inside.f a2_0 a2_1 a2_2 a2_3 bt311.1 bt311.2.1 bt311.2.2.1 bt311.2.2.2).bind fun t315 => (if t315 = true then (if 0 ≤ a1 then (if (a1 : Int).toNat ≤ 35184372088832 then (tilefarmref12_Partial.l0 k a1 (List.replicate (a1 : Int).toNat 0) a2_1 a0_0 a0_1 a0_2 l0_3 a2_0 a2_1 a2_2 a2_3) else (none)) else (none)) else (some (([] : List Int), 8))))) else (some (([] : List Int), 8)))) = some (r1, r2) := by rw [if_pos rfl] at H; exact H
      clear H
      have H := H1
      clear H1
      replace H := Option.bind_eq_some_iff.mp H
      obtain ⟨t310, A80, H⟩ := H
      replace H : (if t310 = true then ((tilefarmref4_Cover.f a0_0 a0_1 a0_2 l0_3).bind fun bt311 => ((tilefarmref2_Inside.f a2_0 a2_1 a2_2 a2_3 bt311.1 bt311.2.1 bt311.2.2.1 bt311.2.2.2).bind fun t315 => (if t315 = true then (if 0 ≤ a1 then (if (a1 : Int).toNat ≤ 35184372088832 then (tilefarmref12_Partial.l0 k a1 (List.replicate (a1 : Int).toNat 0) a2_1 a0_0 a0_1 a0_2 l0_3 a2_0 a2_1 a2_2 a2_3) else (none)) else (none)) else (some (([] : List Int), 8))))) else (some (([] : List Int), 8))) = some (r1, r2) := H
      have A8 := Aside0.mk A80
      clear A80
      by_cases c9 : t310 = true
      · subst c9
        have H1 : ((tilefarmref4_Cover.f a0_0 a0_1 a0_2 l0_3).bind fun bt311 => ((tilefarmref2_Inside.f a2_0 a2_1 a2_2 a2_3 bt311.1 bt311.2.1 bt311.2.2.1 bt311.2.2.2).bind fun t315 => (if t315 = true then (if 0 ≤ a1 then (if (a1 : Int).toNat ≤ 35184372088832 then (tilefarmref12_Partial.l0 k a1 (List.replicate (a1 : Int).toNat 0) a2_1 a0_0 a0_1 a0_2 l0_3 a2_0 a2_1 a2_2 a2_3) else (none)) else (none)) else (some (([] : List Int), 8))))) = some (r1, r2) := by rw [if_pos rfl] at H; exact H
        clear H
        have H := H1
        clear H1
        replace H := Option.bind_eq_some_iff.mp H
        obtain ⟨⟨t311, t312, t313, t314⟩, A100, H⟩ := H
        replace H : ((tilefarmref2_Inside.f a2_0 a2_1 a2_2 a2_3 t311 t312 t313 t314).bind fun t315 => (if t315 = true then (if 0 ≤ a1 then (if (a1 : Int).toNat ≤ 35184372088832 then (tilefarmref12_Partial.l0 k a1 (List.replicate (a1 : Int).toNat 0) a2_1 a0_0 a0_1 a0_2 l0_3 a2_0 a2_1 a2_2 a2_3) else (none)) else (none)) else (some (([] : List Int), 8)))) = some (r1, r2) := H
        have A10 := Aside0.mk A100
        clear A100
        replace H := Option.bind_eq_some_iff.mp H
        obtain ⟨t315, A110, H⟩ := H
        replace H : (if t315 = true then (if 0 ≤ a1 then (if (a1 : Int).toNat ≤ 35184372088832 then (tilefarmref12_Partial.l0 k a1 (List.replicate (a1 : Int).toNat 0) a2_1 a0_0 a0_1 a0_2 l0_3 a2_0 a2_1 a2_2 a2_3) else (none)) else (none)) else (some (([] : List Int), 8))) = some (r1, r2) := H
        have A11 := Aside0.mk A110
        clear A110
        by_cases c12 : t315 = true
        · subst c12
          have H1 : (if 0 ≤ a1 then (if (a1 : Int).toNat ≤ 35184372088832 then (tilefarmref12_Partial.l0 k a1 (List.replicate (a1 : Int).toNat 0) a2_1 a0_0 a0_1 a0_2 l0_3 a2_0 a2_1 a2_2 a2_3) else (none)) else (none)) = some (r1, r2) := by rw [if_pos rfl] at H; exact H
          clear H
          have H := H1
          clear H1
          by_cases c13 : 0 ≤ a1
          · rw [if_pos c13] at H
            have c13b0 := eq_true c13
            have c13b1 : decide (0 ≤ a1) = true := decide_eq_true c13
            clear c13
            by_cases c14 : (a1 : Int).toNat ≤ 35184372088832
            · rw [if_pos c14] at H
              have c14b0 := eq_true c14
              have c14b1 : decide ((a1 : Int).toNat ≤ 35184372088832) = true := decide_eq_true c14
              clear c14
              obtain ⟨y316, hy316⟩ : ∃ y_ : List Int, y_ = (List.replicate (a1 : Int).toNat 0) := ⟨_, rfl⟩
              replace H : (tilefarmref12_Partial.l0 k a1 y316 a2_1 a0_0 a0_1 a0_2 l0_3 a2_0 a2_1 a2_2 a2_3) = some (r1, r2) := by first | (rw [hy316]; with_reducible exact H) | (have H2_ := (Option.bind_some _ _).symm.trans H; rw [hy316]; with_reducible exact H2_) | (have H2_ := (Option.bind_some _ _).symm.trans H; with_reducible exact H2_) | with_reducible exact H | (rw [hy316]; exact H) | exact H
              have Ny316 := Aside0.mk hy316
              clear hy316
              have H' := Aside0.mk H
              clear H
              go_enter Try.func22, Try.ntmps22
              try go_wp2_with (first | ((with_reducible refine gate_dst (N := 3) rfl ?_); refine box_event ?hg (N := 3) ?hd (cs := #[.int .i64 a0_0, .int .i64 a0_1, .int .i64 a0_2, .slice A0_3 l0_3.length c0_3]) (t := 26) ?hr ?_; (case hd => rfl); (case hg => rfl); (case hr => first | (go_simp; done) | (go_simp; rfl)); intro gb306 hg w15 hbox hb; have n0_ := Aside0.mk (below_step q103_ hb); have n1_ := Aside0.mk (hbox); have n2_ := Aside0.mk ((q79_ : w.heap.size ≤ gb306)); have n3_ := Aside0.mk ((q79_ : w.heap.size ≤ gb306)); clear HB; have HB := n0_; have BK306 := n1_; have GW306 := n2_; have GE306 := n3_; clear n0_ n1_ n2_ n3_; clear hb hbox hg) | ((with_reducible refine gate_dst (N := 5) rfl ?_); refine box_event ?hg (N := 5) ?hd (cs := #[.int .i64 a2_0, .int .i64 a2_1, .int .i64 a2_2, .int .i64 a2_3]) (t := 39) ?hr ?_; (case hd => rfl); (case hg => rfl); (case hr => first | (go_simp; done) | (go_simp; rfl)); intro gb307 hg w16 hbox hb; have n0_ := Aside0.mk (blk_below (g := gb306) (o := .cells #[.int .i64 a0_0, .int .i64 a0_1, .int .i64 a0_2, .slice A0_3 l0_3.length c0_3] 26 (0, 0)) q128_ hb); have n1_ := Aside0.mk (below_step q93_ hb); have n2_ := Aside0.mk (hbox); have n3_ := Aside0.mk ((q60_ : w.heap.size ≤ gb307)); have n4_ := Aside0.mk ((q60_ : w.heap.size ≤ gb307)); have n5_ := Aside0.mk ((q10_ : gb306 ≠ gb307)); have n6_ := Aside0.mk ((q11_ : gb307 ≠ gb306)); clear BK306; clear HB; have BK306 := n0_; have HB := n1_; have BK307 := n2_; have GW307 := n3_; have GE307 := n4_; have NB306_307 := n5_; have NB307_306 := n6_; clear n0_ n1_ n2_ n3_ n4_ n5_ n6_; clear hb hbox hg; have hnb17 := NB306_307.out; have hnc17 := NB307_306.out; have hcz18_0 : w16.cell? ⟨gb306, 0, none⟩ = some (.int .i64 a0_0) := (blk_cell BK306.out 0).trans rfl; have hcz18_1 : w16.cell? ⟨gb306, 1, none⟩ = some (.int .i64 a0_1) := (blk_cell BK306.out 1).trans rfl; have hcz18_2 : w16.cell? ⟨gb306, 2, none⟩ = some (.int .i64 a0_2) := (blk_cell BK306.out 2).trans rfl; have hcz18_3 : w16.cell? ⟨gb306, 3, none⟩ = some (.slice A0_3 l0_3.length c0_3) := (blk_cell BK306.out 3).trans rfl; have hfz18_0 := blk_frozen BK306.out 0; have hfz18_1 := blk_frozen BK306.out 1; have hfz18_2 := blk_frozen BK306.out 2; have hfz18_3 := blk_frozen BK306.out 3) | ((with_reducible refine gate_callee (f := 35) rfl ?_); refine goesL_ (some 13) rfl rfl Try.func35 (by kernel_rfl) rfl #[.agg #[.int .i64 a0_0, .int .i64 a0_1, .int .i64 a0_2, .slice A0_3 l0_3.length c0_3]] rfl q100_ ?_; (with_reducible refine (tilefarmref4_Valid.calls k a0_0 a0_1 a0_2 _ _ l0_3 true _ ?side1 ?side2 A4.out).mono ?_); (case side1 => repeat (first | exact (Kd.C_below HR0_3.out HB.out) | (with_reducible refine Kd.C_alloc ?_ _) | (with_reducible refine Kd.C_drewN ?_ _) | (with_reducible refine Kd.C_drew ?_))); (case side2 => exact HC0_3.out); rintro e w19 ⟨rfl, hb⟩; refine ⟨_, rfl, ?_⟩; have n0_ := Aside0.mk (blk_below (g := gb306) (o := .cells #[.int .i64 a0_0, .int .i64 a0_1, .int .i64 a0_2, .slice A0_3 l0_3.length c0_3] 26 (0, 0)) q128_ hb); have n1_ := Aside0.mk (blk_below (g := gb307) (o := .cells #[.int .i64 a2_0, .int .i64 a2_1, .int .i64 a2_2, .int .i64 a2_3] 39 (0, 0)) q129_ hb); have n2_ := Aside0.mk (below_step q69_ hb); clear BK306; clear BK307; clear HB; have BK306 := n0_; have BK307 := n1_; have HB := n2_; clear n0_ n1_ n2_; (try clear hb); (try clear hb2); (try clear hk); (try clear hi)) | ((with_reducible refine gate_callee (f := 31) rfl ?_); refine goesL_ (some 17) rfl rfl Try.func31 (by kernel_rfl) rfl #[.int .i64 a1] rfl q100_ ?_; (with_reducible refine (tilefarmref12_Bins.calls a1 true _ A6.out).mono ?_); rintro e w' ⟨rfl, ⟨nd, rfl⟩⟩; refine ⟨_, rfl, ?_⟩))
              (try (rw [drewN_self w19]; generalize hq_ : World.drewN w19 _ = w19; have n0_ : Aside0 (w19.heap[gb306]? = some (.cells #[.int .i64 a0_0, .int .i64 a0_1, .int .i64 a0_2, .slice A0_3 l0_3.length c0_3] 26 (0, 0))) := ⟨q98_⟩; have n1_ : Aside0 (w19.heap[gb307]? = some (.cells #[.int .i64 a2_0, .int .i64 a2_1, .int .i64 a2_2, .int .i64 a2_3] 39 (0, 0))) := ⟨q99_⟩; have n2_ : Aside0 (Below w.heap.size w w19) := ⟨q45_⟩; clear BK306 BK307 HB hq_; have BK306 := n0_; have BK307 := n1_; have HB := n2_; clear n0_ n1_ n2_))
              have n0_ := Aside0.mk (blk_drew BK306.out)
              have n1_ := Aside0.mk (blk_drew BK307.out)
              have n2_ := Aside0.mk (below_drew1 HB.out)
              clear BK306
              clear BK307
              clear HB
              have BK306 := n0_
              have BK307 := n1_
              have HB := n2_
              clear n0_ n1_ n2_
              refine start_ (n := 11) (S := fun w' => w'.cell? ⟨gb307, 0, none⟩ = some (.int .i64 a2_0) ∧ w'.cell? ⟨gb307, 1, none⟩ = some (.int .i64 a2_1) ∧ w'.cell? ⟨gb307, 2, none⟩ = some (.int .i64 a2_2) ∧ w'.cell? ⟨gb307, 3, none⟩ = some (.int .i64 a2_3) ∧ w'.cell? ⟨gb306, 0, none⟩ = some (.int .i64 a0_0) ∧ w'.cell? ⟨gb306, 1, none⟩ = some (.int .i64 a0_1) ∧ w'.cell? ⟨gb306, 2, none⟩ = some (.int .i64 a0_2) ∧ w'.cell? ⟨gb306, 3, none⟩ = some (.slice A0_3 l0_3.length c0_3)) (ds := []) #[false, false, false, false, false, false, false, false, false, false, false] (by kernel_rfl) rfl rfl ⟨(blk_cell BK307.out 0).trans rfl, (blk_cell BK307.out 1).trans rfl, (blk_cell BK307.out 2).trans rfl, (blk_cell BK307.out 3).trans rfl, (blk_cell BK306.out 0).trans rfl, (blk_cell BK306.out 1).trans rfl, (blk_cell BK306.out 2).trans rfl, (blk_cell BK306.out 3).trans rfl⟩ (fun hHeld => ?_); refine with_tabW tilefarmref12_Partial.tab5 tilefarmref12_Partial.bits5 (fun HT_ HW_ => ?_)
              generalize w19.drew = w20 at BK306 BK307 HB hHeld ⊢
              refine take_ (i := 0) (N := some 20) (v := ?_) (a' := ?_) #[true, false, false, false, false, false, false, false, false, false, false] rfl rfl (take_ofW HT_.out HW_.out (by kernel_rfl)) (fun _ _ _ h => h) (Or.inl ⟨by rfl, ?_⟩) hHeld ?_ ?_
              rotate_left
              · rintro w' ⟨s0, s1, s2, s3, s4, s5, s6, s7⟩
                go_simp
                with_reducible rfl
              rotate_left
              · simp only [Act.put, List.setIfInBounds_toArray, List.set_cons_zero, List.set_cons_succ, i64_w, i32_w]
                rfl
              refine one_ (i := 1) (N := some 21) #[true, true, false, false, false, false, false, false, false, false, false] rfl rfl (one_of HT_.out (by kernel_rfl)) (by decide) (fun K hK => ?_)
              refine goes_ Try.func36 (by kernel_rfl) rfl #[.agg #[.int .i64 a2_0, .int .i64 a2_1, .int .i64 a2_2, .int .i64 a2_3]] (by rfl) rfl rfl q100_ ?_
              with_reducible refine (tilefarmref2_Full.calls a2_0 a2_1 a2_2 a2_3 true _ A8.out).mono ?_
              rintro e w21 ⟨rfl, hb⟩
              refine ⟨_, rfl, ?_⟩
              have n0_ := Aside0.mk (blk_below (g := gb306) (o := .cells #[.int .i64 a0_0, .int .i64 a0_1, .int .i64 a0_2, .slice A0_3 l0_3.length c0_3] 26 (0, 0)) q128_ hb)
              have n1_ := Aside0.mk (blk_below (g := gb307) (o := .cells #[.int .i64 a2_0, .int .i64 a2_1, .int .i64 a2_2, .int .i64 a2_3] 39 (0, 0)) q129_ hb)
              have n2_ := Aside0.mk (below_step q69_ hb)
              clear BK306
              clear BK307
              clear HB
              have BK306 := n0_
              have BK307 := n1_
              have HB := n2_
              clear n0_ n1_ n2_
              (try clear hb)
              (try clear hb2)
              (try clear hk)
              (try clear hi)
              refine hK.out _ _ ⟨(blk_cell BK307.out 0).trans rfl, (blk_cell BK307.out 1).trans rfl, (blk_cell BK307.out 2).trans rfl, (blk_cell BK307.out 3).trans rfl, (blk_cell BK306.out 0).trans rfl, (blk_cell BK306.out 1).trans rfl, (blk_cell BK306.out 2).trans rfl, (blk_cell BK306.out 3).trans rfl⟩ (fun hHeld => ?_)
              clear hK K
              refine norm_ (a' := ?_) ?_ ?_
              rotate_left
              · show Act.put _ (some 21) _ = _
                simp only [Act.put, List.setIfInBounds_toArray, List.set_cons_zero, List.set_cons_succ, i64_w, i32_w]
                rfl
              refine pure_ (i := 2) (N := some 22) (v := ?_) (a' := ?_) #[true, true, true, false, false, false, false, false, false, false, false] rfl rfl (any_of HT_.out (by kernel_rfl)) (fun _ _ _ h => h) (Or.inl ⟨by rfl, ?_⟩) ?_ ?_
              rotate_left
              · intro w'
                go_simp
                with_reducible rfl
              rotate_left
              · simp only [Act.put, List.setIfInBounds_toArray, List.set_cons_zero, List.set_cons_succ, i64_w, i32_w]
                rfl
              refine pure_ (i := 3) (N := some 23) (v := ?_) (a' := ?_) #[true, true, true, true, false, false, false, false, false, false, false] rfl rfl (any_of HT_.out (by kernel_rfl)) (fun _ _ _ h => h) (Or.inl ⟨by rfl, ?_⟩) ?_ ?_
              rotate_left
              · intro w'
                go_simp
                with_reducible rfl
              rotate_left
              · simp only [Act.put, List.setIfInBounds_toArray, List.set_cons_zero, List.set_cons_succ, i64_w, i32_w]
                rfl
              refine take_ (i := 4) (N := some 24) (v := ?_) (a' := ?_) #[true, true, true, true, true, false, false, false, false, false, false] rfl rfl (take_ofW HT_.out HW_.out (by kernel_rfl)) (fun _ _ _ h => h) (Or.inl ⟨by rfl, ?_⟩) hHeld ?_ ?_
              rotate_left
              · rintro w' ⟨s0, s1, s2, s3, s4, s5, s6, s7⟩
                go_simp
                with_reducible rfl
              rotate_left
              · simp only [Act.put, List.setIfInBounds_toArray, List.set_cons_zero, List.set_cons_succ, i64_w, i32_w]
                rfl
              refine take_ (i := 5) (N := some 25) (v := ?_) (a' := ?_) #[true, true, true, true, true, true, false, false, false, false, false] rfl rfl (take_ofW HT_.out HW_.out (by kernel_rfl)) (fun _ _ _ h => h) (Or.inl ⟨by rfl, ?_⟩) hHeld ?_ ?_
              rotate_left
              · rintro w' ⟨s0, s1, s2, s3, s4, s5, s6, s7⟩
                go_simp
                with_reducible rfl
              rotate_left
              · simp only [Act.put, List.setIfInBounds_toArray, List.set_cons_zero, List.set_cons_succ, i64_w, i32_w]
                rfl
              refine one_ (i := 6) (N := some 26) #[true, true, true, true, true, true, true, false, false, false, false] rfl rfl (one_of HT_.out (by kernel_rfl)) (by decide) (fun K hK => ?_)
              refine goes_ Try.func38 (by kernel_rfl) rfl #[.agg #[.int .i64 a0_0, .int .i64 a0_1, .int .i64 a0_2, .slice A0_3 l0_3.length c0_3]] (by rfl) rfl rfl q100_ ?_
              with_reducible refine (tilefarmref4_Cover.calls a0_0 a0_1 a0_2 _ _ l0_3 t311 t312 t313 t314 _ ?side1 ?side2 A10.out).mono ?_
              (case side1 => repeat (first | exact (Kd.C_below HR0_3.out HB.out) | (with_reducible refine Kd.C_alloc ?_ _) | (with_reducible refine Kd.C_drewN ?_ _) | (with_reducible refine Kd.C_drew ?_)))
              (case side2 => exact HC0_3.out)
              rintro e w22 ⟨rfl, hb⟩
              refine ⟨_, rfl, ?_⟩
              have n0_ := Aside0.mk (blk_below (g := gb306) (o := .cells #[.int .i64 a0_0, .int .i64 a0_1, .int .i64 a0_2, .slice A0_3 l0_3.length c0_3] 26 (0, 0)) q128_ hb)
              have n1_ := Aside0.mk (blk_below (g := gb307) (o := .cells #[.int .i64 a2_0, .int .i64 a2_1, .int .i64 a2_2, .int .i64 a2_3] 39 (0, 0)) q129_ hb)
              have n2_ := Aside0.mk (below_step q69_ hb)
              clear BK306
              clear BK307
              clear HB
              have BK306 := n0_
              have BK307 := n1_
              have HB := n2_
              clear n0_ n1_ n2_
              (try clear hb)
              (try clear hb2)
              (try clear hk)
              (try clear hi)
              refine hK.out _ _ ⟨(blk_cell BK307.out 0).trans rfl, (blk_cell BK307.out 1).trans rfl, (blk_cell BK307.out 2).trans rfl, (blk_cell BK307.out 3).trans rfl, (blk_cell BK306.out 0).trans rfl, (blk_cell BK306.out 1).trans rfl, (blk_cell BK306.out 2).trans rfl, (blk_cell BK306.out 3).trans rfl⟩ (fun hHeld => ?_)
              clear hK K
              refine norm_ (a' := ?_) ?_ ?_
              rotate_left
              · show Act.put _ (some 26) _ = _
                simp only [Act.put, List.setIfInBounds_toArray, List.set_cons_zero, List.set_cons_succ, i64_w, i32_w]
                rfl
              refine one_ (i := 7) (N := some 27) #[true, true, true, true, true, true, true, true, false, false, false] rfl rfl (one_of HT_.out (by kernel_rfl)) (by decide) (fun K hK => ?_)
              refine goes_ Try.func37 (by kernel_rfl) rfl #[.agg #[.int .i64 a2_0, .int .i64 a2_1, .int .i64 a2_2, .int .i64 a2_3], .agg #[.int .i64 t311, .int .i64 t312, .int .i64 t313, .int .i64 t314]] (by rfl) rfl rfl q100_ ?_
              with_reducible refine (tilefarmref2_Inside.calls a2_0 a2_1 a2_2 a2_3 t311 t312 t313 t314 true _ A11.out).mono ?_
              rintro e w23 ⟨rfl, hb⟩
              refine ⟨_, rfl, ?_⟩
              have n0_ := Aside0.mk (blk_below (g := gb306) (o := .cells #[.int .i64 a0_0, .int .i64 a0_1, .int .i64 a0_2, .slice A0_3 l0_3.length c0_3] 26 (0, 0)) q128_ hb)
              have n1_ := Aside0.mk (blk_below (g := gb307) (o := .cells #[.int .i64 a2_0, .int .i64 a2_1, .int .i64 a2_2, .int .i64 a2_3] 39 (0, 0)) q129_ hb)
              have n2_ := Aside0.mk (below_step q69_ hb)
              clear BK306
              clear BK307
              clear HB
              have BK306 := n0_
              have BK307 := n1_
              have HB := n2_
              clear n0_ n1_ n2_
              (try clear hb)
              (try clear hb2)
              (try clear hk)
              (try clear hi)
              refine hK.out _ _ ⟨(blk_cell BK307.out 0).trans rfl, (blk_cell BK307.out 1).trans rfl, (blk_cell BK307.out 2).trans rfl, (blk_cell BK307.out 3).trans rfl, (blk_cell BK306.out 0).trans rfl, (blk_cell BK306.out 1).trans rfl, (blk_cell BK306.out 2).trans rfl, (blk_cell BK306.out 3).trans rfl⟩ (fun hHeld => ?_)
              clear hK K
              refine norm_ (a' := ?_) ?_ ?_
              rotate_left
              · show Act.put _ (some 27) _ = _
                simp only [Act.put, List.setIfInBounds_toArray, List.set_cons_zero, List.set_cons_succ, i64_w, i32_w]
                rfl
              refine pure_ (i := 8) (N := some 28) (v := ?_) (a' := ?_) #[true, true, true, true, true, true, true, true, true, false, false] rfl rfl (any_of HT_.out (by kernel_rfl)) (fun _ _ _ h => h) (Or.inl ⟨by rfl, ?_⟩) ?_ ?_
              rotate_left
              · intro w'
                go_simp
                with_reducible rfl
              rotate_left
              · simp only [Act.put, List.setIfInBounds_toArray, List.set_cons_zero, List.set_cons_succ, i64_w, i32_w]
                rfl
              refine pure_ (i := 9) (N := some 29) (v := ?_) (a' := ?_) #[true, true, true, true, true, true, true, true, true, true, false] rfl rfl (any_of HT_.out (by kernel_rfl)) (fun _ _ _ h => h) (Or.inl ⟨by rfl, ?_⟩) ?_ ?_
              rotate_left
              · intro w'
                go_simp
                with_reducible rfl
              rotate_left
              · simp only [Act.put, List.setIfInBounds_toArray, List.set_cons_zero, List.set_cons_succ, i64_w, i32_w]
                rfl
              refine pure_ (i := 10) (N := some 19) (v := ?_) (a' := ?_) #[true, true, true, true, true, true, true, true, true, true, true] rfl rfl (any_of HT_.out (by kernel_rfl)) (fun _ _ _ h => h) (Or.inl ⟨by rfl, ?_⟩) ?_ ?_
              rotate_left
              · intro w'
                go_simp
                with_reducible rfl
              rotate_left
              · simp only [Act.put, List.setIfInBounds_toArray, List.set_cons_zero, List.set_cons_succ, i64_w, i32_w]
                rfl
              refine done_ (done_of HT_.out (by kernel_rfl)) ?_
              try go_wp2_with (first | ((with_reducible refine gate_dst (N := 31) rfl ?_); refine Kd.R_make (Kd.int .i64) _ 3 rfl (N := 31) rfl 22 _ _ rfl a1 rfl rfl Try.underlying22 (.int .i64 0) 8 info3 rfl (by decide) (by omega) 0 (ok := fun _ => True) (okp := fun _ => True) rfl (fun _ hk => hk) trivial (of_decide_eq_true q155_) (Nat.le_trans (Nat.mul_le_mul_right _ (of_decide_eq_true q155_ : a1.toNat ≤ 35184372088832)) (by omega)) (Below.refl _ _) (Nat.le_refl _) ?_; intro v317 w24 ho25 hb hg_ hnew_; clear hg_ hnew_; (first | rw [← Ny316.out] at ho25 | (simp only [Int.reduceToNat] at ho25; rw [← Ny316.out] at ho25)); have n0_ := Aside0.mk (Kd.R_lower ho25 (below_size q69_)); have n1_ := Aside0.mk (blk_below (g := gb306) (o := .cells #[.int .i64 a0_0, .int .i64 a0_1, .int .i64 a0_2, .slice A0_3 l0_3.length c0_3] 26 (0, 0)) q128_ hb); have n2_ := Aside0.mk (blk_below (g := gb307) (o := .cells #[.int .i64 a2_0, .int .i64 a2_1, .int .i64 a2_2, .int .i64 a2_3] 39 (0, 0)) q129_ hb); have n3_ := Aside0.mk (below_step q69_ hb); clear BK306; clear BK307; clear HB; have HO318 := n0_; have BK306 := n1_; have BK307 := n2_; have HB := n3_; clear n0_ n1_ n2_ n3_; clear hb ho25; have hcz26_0 : w24.cell? ⟨gb307, 0, none⟩ = some (.int .i64 a2_0) := (blk_cell BK307.out 0).trans rfl; have hcz26_1 : w24.cell? ⟨gb307, 1, none⟩ = some (.int .i64 a2_1) := (blk_cell BK307.out 1).trans rfl; have hcz26_2 : w24.cell? ⟨gb307, 2, none⟩ = some (.int .i64 a2_2) := (blk_cell BK307.out 2).trans rfl; have hcz26_3 : w24.cell? ⟨gb307, 3, none⟩ = some (.int .i64 a2_3) := (blk_cell BK307.out 3).trans rfl; have hfz26_0 := blk_frozen BK307.out 0; have hfz26_1 := blk_frozen BK307.out 1; have hfz26_2 := blk_frozen BK307.out 2; have hfz26_3 := blk_frozen BK307.out 3))
              go_loopg [9] k (fun kq v9 w' => ∃ (x8_1 : List Int) (x9_1 : Int), v9 = .int .i64 x9_1 ∧ Aside0 (tilefarmref12_Partial.l0 kq a1 x8_1 x9_1 a0_0 a0_1 a0_2 l0_3 a2_0 a2_1 a2_2 a2_3 = some (r1, r2)) ∧ Aside0 (kq ≤ k) ∧ Aside0 (Kd.R (Kd.int .i64) 3 w' w.heap.size (fun _ => True) v317 x8_1) ∧ Aside0 (w'.heap[gb306]? = some (.cells #[.int .i64 a0_0, .int .i64 a0_1, .int .i64 a0_2, (.slice A0_3 l0_3.length c0_3)] 26 (0, 0))) ∧ Aside0 (w'.heap[gb307]? = some (.cells #[.int .i64 a2_0, .int .i64 a2_1, .int .i64 a2_2, .int .i64 a2_3] 39 (0, 0))) ∧ Aside0 (Below w.heap.size w w'))
              case atStart => exact ⟨(y316), (a2_1), q156_, H', ⟨Nat.le_refl _⟩, ⟨by (with_reducible repeat (first | apply Kd.R_alloc | apply Kd.R_drewN | apply Kd.R_drew)); exact HO318.out⟩, ⟨q128_⟩, ⟨q129_⟩, ⟨q69_⟩⟩
              case round =>
                clear H'
                try clear c1
                try clear c2
                try clear p2
                try clear c3
                try clear c5
                try clear c7
                try clear c9
                try clear c12
                try clear c13
                try clear c13b0
                try clear c13b1
                try clear c14
                try clear c14b0
                try clear c14b1
                try clear c17
                try clear c22
                try clear hcz18_0
                try clear hcz18_1
                try clear hcz18_2
                try clear hcz18_3
                try clear hcz26_0
                try clear hcz26_1
                try clear hcz26_2
                try clear hcz26_3
                try clear hfz18_0
                try clear hfz18_1
                try clear hfz18_2
                try clear hfz18_3
                try clear hfz26_0
                try clear hfz26_1
                try clear hfz26_2
                try clear hfz26_3
                obtain ⟨x8_1, x9_1, rfl, HA, HK1, HO_8, BK306, BK307, HB⟩ := hrel
                cases gk with
                | zero => exact absurd HA.out (by simp [tilefarmref12_Partial.l0])
                | succ k1 =>
                  have H := HA.out
                  clear HA
                  simp only [tilefarmref12_Partial.l0] at H
                  by_cases c27 : x9_1 < a2_3
                  · rw [if_pos c27] at H
                    have c27b0 : decide (x9_1 < a2_3) = true := decide_eq_true c27
                    clear c27
                    have H' := Aside0.mk H
                    clear H
                    have hnb28 := NB307_306.out
                    have hnc28 := NB306_307.out
                    have hcz29_0 : wr.cell? ⟨gb307, 0, none⟩ = some (.int .i64 a2_0) := (blk_cell BK307.out 0).trans rfl
                    have hcz29_1 : wr.cell? ⟨gb307, 1, none⟩ = some (.int .i64 a2_1) := (blk_cell BK307.out 1).trans rfl
                    have hcz29_2 : wr.cell? ⟨gb307, 2, none⟩ = some (.int .i64 a2_2) := (blk_cell BK307.out 2).trans rfl
                    have hcz29_3 : wr.cell? ⟨gb307, 3, none⟩ = some (.int .i64 a2_3) := (blk_cell BK307.out 3).trans rfl
                    have hfz29_0 := blk_frozen BK307.out 0
                    have hfz29_1 := blk_frozen BK307.out 1
                    have hfz29_2 := blk_frozen BK307.out 2
                    have hfz29_3 := blk_frozen BK307.out 3
                    go_wp2
                    go_loopg [10] k1 (fun kq v10 w' => ∃ (x8_2 : List Int) (x10_2 : Int), v10 = .int .i64 x10_2 ∧ Aside0 (tilefarmref12_Partial.l1 kq a1 x8_2 x9_1 x10_2 a0_0 a0_1 a0_2 l0_3 a2_0 a2_1 a2_2 a2_3 = some (r1, r2)) ∧ Aside0 (kq ≤ k1) ∧ Aside0 (Kd.R (Kd.int .i64) 3 w' w.heap.size (fun _ => True) v317 x8_2) ∧ Aside0 (w'.heap[gb306]? = some (.cells #[.int .i64 a0_0, .int .i64 a0_1, .int .i64 a0_2, (.slice A0_3 l0_3.length c0_3)] 26 (0, 0))) ∧ Aside0 (w'.heap[gb307]? = some (.cells #[.int .i64 a2_0, .int .i64 a2_1, .int .i64 a2_2, .int .i64 a2_3] 39 (0, 0))) ∧ Aside0 (Below w.heap.size w w'))
                    case atStart => exact ⟨(x8_1), (a2_0), q156_, H', ⟨Nat.le_refl _⟩, ⟨q150_⟩, ⟨q128_⟩, ⟨q129_⟩, ⟨q69_⟩⟩
                    case round =>
                      clear H'
                      try clear c1
                      try clear c2
                      try clear p2
                      try clear c3
                      try clear c5
                      try clear c7
                      try clear c9
                      try clear c12
                      try clear c13
                      try clear c13b0
                      try clear c13b1
                      try clear c14
                      try clear c14b0
                      try clear c14b1
                      try clear c17
                      try clear c22
                      try clear c27
                      try clear c27b0
                      try clear c28
                      try clear hcz18_0
                      try clear hcz18_1
                      try clear hcz18_2
                      try clear hcz18_3
                      try clear hcz26_0
                      try clear hcz26_1
                      try clear hcz26_2
                      try clear hcz26_3
                      try clear hcz29_0
                      try clear hcz29_1
                      try clear hcz29_2
                      try clear hcz29_3
                      try clear hfz18_0
                      try clear hfz18_1
                      try clear hfz18_2
                      try clear hfz18_3
                      try clear hfz26_0
                      try clear hfz26_1
                      try clear hfz26_2
                      try clear hfz26_3
                      try clear hfz29_0
                      try clear hfz29_1
                      try clear hfz29_2
                      try clear hfz29_3
                      try clear p2
                      obtain ⟨x8_2, x10_2, rfl, HA, HK2, HO_8, BK306, BK307, HB⟩ := hrel
                      cases gk with
                      | zero => exact absurd HA.out (by simp [tilefarmref12_Partial.l1])
                      | succ k2 =>
                        have H := HA.out
                        clear HA
                        simp only [tilefarmref12_Partial.l1] at H
                        by_cases c30 : x10_2 < a2_2
                        · rw [if_pos c30] at H
                          have c30b0 : decide (x10_2 < a2_2) = true := decide_eq_true c30
                          clear c30
                          obtain ⟨ji31, hji31⟩ : ∃ j_ : Int, (wrap64 ((wrap64 (x9_1 * a0_0)) + x10_2)) = j_ := ⟨_, rfl⟩
                          replace H : (if 0 ≤ (ji31) then (if (ji31) < (l0_3.length : Int) then ((tilefarmref12_Bin.f (rd l0_3 (ji31)) a0_2 a1).bind fun t320 => (if 0 ≤ t320 then (if t320 < (x8_2.length : Int) then (tilefarmref12_Partial.l1 k2 a1 (x8_2.set (t320 : Int).toNat (wrap64 ((rd x8_2 t320) + 1))) x9_1 (wrap64 (x10_2 + 1)) a0_0 a0_1 a0_2 l0_3 a2_0 a2_1 a2_2 a2_3) else (none)) else (none))) else (none)) else (none)) = some (r1, r2) := by first | (rw [hji31] at H; exact H) | (simp only [hji31] at H ⊢; exact H)
                          have hji31w : (IntKind.i64.wrap ((wrap64 (x9_1 * a0_0)) + x10_2)) = ji31 := (i64_w _).trans hji31
                          by_cases c32 : 0 ≤ (ji31)
                          · rw [if_pos c32] at H
                            have c32b0 : decide (0 ≤ (ji31)) = true := decide_eq_true c32
                            clear c32
                            by_cases c33 : (ji31) < (l0_3.length : Int)
                            · rw [if_pos c33] at H
                              have c33b0 : decide ((ji31) < (l0_3.length : Int)) = true := decide_eq_true c33
                              clear c33
                              replace H := Option.bind_eq_some_iff.mp H
                              obtain ⟨t320, A340, H⟩ := H
                              replace H : (if 0 ≤ t320 then (if t320 < (x8_2.length : Int) then (tilefarmref12_Partial.l1 k2 a1 (x8_2.set (t320 : Int).toNat (wrap64 ((rd x8_2 t320) + 1))) x9_1 (wrap64 (x10_2 + 1)) a0_0 a0_1 a0_2 l0_3 a2_0 a2_1 a2_2 a2_3) else (none)) else (none)) = some (r1, r2) := H
                              have A34 := Aside0.mk A340
                              clear A340
                              by_cases c35 : 0 ≤ t320
                              · rw [if_pos c35] at H
                                have c35b0 : decide (0 ≤ t320) = true := decide_eq_true c35
                                clear c35
                                by_cases c36 : t320 < (x8_2.length : Int)
                                · rw [if_pos c36] at H
                                  have c36b0 : decide (t320 < (x8_2.length : Int)) = true := decide_eq_true c36
                                  clear c36
                                  obtain ⟨y322, hy322⟩ : ∃ y_ : List Int, y_ = (x8_2.set (t320 : Int).toNat (wrap64 ((rd x8_2 t320) + 1))) := ⟨_, rfl⟩
                                  replace H : (tilefarmref12_Partial.l1 k2 a1 y322 x9_1 (wrap64 (x10_2 + 1)) a0_0 a0_1 a0_2 l0_3 a2_0 a2_1 a2_2 a2_3) = some (r1, r2) := by first | (rw [hy322]; with_reducible exact H) | (have H2_ := (Option.bind_some _ _).symm.trans H; rw [hy322]; with_reducible exact H2_) | (have H2_ := (Option.bind_some _ _).symm.trans H; with_reducible exact H2_) | with_reducible exact H | (rw [hy322]; exact H) | exact H
                                  have Ny322 := Aside0.mk hy322
                                  clear hy322
                                  have H' := Aside0.mk H
                                  clear H
                                  have hnb38 := NB307_306.out
                                  have hnc38 := NB306_307.out
                                  have hcz39_0 : wr.cell? ⟨gb307, 0, none⟩ = some (.int .i64 a2_0) := (blk_cell BK307.out 0).trans rfl
                                  have hcz39_1 : wr.cell? ⟨gb307, 1, none⟩ = some (.int .i64 a2_1) := (blk_cell BK307.out 1).trans rfl
                                  have hcz39_2 : wr.cell? ⟨gb307, 2, none⟩ = some (.int .i64 a2_2) := (blk_cell BK307.out 2).trans rfl
                                  have hcz39_3 : wr.cell? ⟨gb307, 3, none⟩ = some (.int .i64 a2_3) := (blk_cell BK307.out 3).trans rfl
                                  have hfz39_0 := blk_frozen BK307.out 0
                                  have hfz39_1 := blk_frozen BK307.out 1
                                  have hfz39_2 := blk_frozen BK307.out 2
                                  have hfz39_3 := blk_frozen BK307.out 3
                                  try go_wp2
                                  have n0_ := Aside0.mk (Kd.R_drew HO_8.out)
                                  have n1_ := Aside0.mk (blk_drew BK306.out)
                                  have n2_ := Aside0.mk (blk_drew BK307.out)
                                  have n3_ := Aside0.mk (below_drew1 HB.out)
                                  clear HO_8
                                  clear BK306
                                  clear BK307
                                  clear HB
                                  have HO_8 := n0_
                                  have BK306 := n1_
                                  have BK307 := n2_
                                  have HB := n3_
                                  clear n0_ n1_ n2_ n3_
                                  have p319 : 0 ≤ ((ji31) : Int) := of_decide_eq_true q155_
                                  have q319 : (ji31) < (l0_3.length : Int) := of_decide_eq_true q155_
                                  obtain ⟨ad319, e319, hx319_0⟩ := Kd.at_int HR0_3.out (ji31) p319 q319
                                  have hw319_0 := hx319_0
                                  cases e319
                                  replace hx319_0 := (HB.out.cell (World.block_lt_of_cell? w _ hx319_0)).trans hx319_0
                                  replace p319 := eq_true p319
                                  replace q319 := eq_true q319
                                  have p321 : 0 ≤ (t320 : Int) := of_decide_eq_true q155_
                                  have q321 : t320 < (x8_2.length : Int) := of_decide_eq_true q155_
                                  obtain ⟨Ao9001, co9001, eo9001⟩ := Kd.R_slice HO_8.out
                                  subst eo9001
                                  obtain ⟨ad321, e321, hx321_0⟩ := Kd.at_int (Kd.R_reads' HO_8.out).2.2 t320 p321 q321
                                  cases e321
                                  replace p321 := eq_true p321
                                  replace q321 := eq_true q321
                                  refine start_ (n := 20) (S := fun w' => w'.cell? ⟨gb306, 0, none⟩ = some (.int .i64 a0_0) ∧ w'.cell? ⟨gb306, 1, none⟩ = some (.int .i64 a0_1) ∧ w'.cell? ⟨gb306, 2, none⟩ = some (.int .i64 a0_2) ∧ w'.cell? ⟨gb306, 3, none⟩ = some (.slice (some ad319) l0_3.length c0_3) ∧ w'.cell? (ad319.add ((ji31)).toNat) = some (.int .i64 (rd l0_3 (ji31))) ∧ w'.cell? (ad321.add (t320).toNat) = some (.int .i64 (rd x8_2 t320))) (ds := [19]) #[false, false, false, false, false, false, false, false, false, false, false, false, false, false, false, false, false, false, false, false] (by kernel_rfl) rfl rfl ⟨(blk_cell BK306.out 0).trans rfl, (blk_cell BK306.out 1).trans rfl, (blk_cell BK306.out 2).trans rfl, (blk_cell BK306.out 3).trans rfl, ((HB.out.cell (World.block_lt_of_cell? w _ hw319_0)).trans hw319_0), hx321_0⟩ (fun hHeld => ?_); refine with_tabW tilefarmref12_Partial.tab14 tilefarmref12_Partial.bits14 (fun HT_ HW_ => ?_)
                                  generalize wr.drew = w40 at HO_8 BK306 BK307 HB hx319_0 hx321_0 hHeld ⊢
                                  refine pure_ (i := 0) (N := some 48) (v := ?_) (a' := ?_) #[true, false, false, false, false, false, false, false, false, false, false, false, false, false, false, false, false, false, false, false] rfl rfl (any_of HT_.out (by kernel_rfl)) (fun _ _ _ h => h) (Or.inl ⟨by rfl, ?_⟩) ?_ ?_
                                  rotate_left
                                  · intro w'
                                    go_simp
                                    with_reducible rfl
                                  rotate_left
                                  · simp only [Act.put, List.setIfInBounds_toArray, List.set_cons_zero, List.set_cons_succ, i64_w, i32_w]
                                    rfl
                                  refine pure_ (i := 1) (N := some 49) (v := ?_) (a' := ?_) #[true, true, false, false, false, false, false, false, false, false, false, false, false, false, false, false, false, false, false, false] rfl rfl (any_of HT_.out (by kernel_rfl)) (fun _ _ _ h => h) (Or.inl ⟨by rfl, ?_⟩) ?_ ?_
                                  rotate_left
                                  · intro w'
                                    go_simp
                                    with_reducible rfl
                                  rotate_left
                                  · simp only [Act.put, List.setIfInBounds_toArray, List.set_cons_zero, List.set_cons_succ, i64_w, i32_w]
                                    rfl
                                  refine pure_ (i := 3) (N := some 51) (v := ?_) (a' := ?_) #[true, true, false, true, false, false, false, false, false, false, false, false, false, false, false, false, false, false, false, false] rfl rfl (any_of HT_.out (by kernel_rfl)) (fun _ _ _ h => h) (Or.inl ⟨by rfl, ?_⟩) ?_ ?_
                                  rotate_left
                                  · intro w'
                                    go_simp
                                    with_reducible rfl
                                  rotate_left
                                  · simp only [Act.put, List.setIfInBounds_toArray, List.set_cons_zero, List.set_cons_succ, i64_w, i32_w]
                                    rfl
                                  refine pure_ (i := 4) (N := some 52) (v := ?_) (a' := ?_) #[true, true, false, true, true, false, false, false, false, false, false, false, false, false, false, false, false, false, false, false] rfl rfl (any_of HT_.out (by kernel_rfl)) (fun _ _ _ h => h) (Or.inl ⟨by rfl, ?_⟩) ?_ ?_
                                  rotate_left
                                  · intro w'
                                    go_simp
                                    with_reducible rfl
                                  rotate_left
                                  · simp only [Act.put, List.setIfInBounds_toArray, List.set_cons_zero, List.set_cons_succ, i64_w, i32_w]
                                    rfl
                                  refine pure_ (i := 7) (N := some 55) (v := ?_) (a' := ?_) #[true, true, false, true, true, false, false, true, false, false, false, false, false, false, false, false, false, false, false, false] rfl rfl (any_of HT_.out (by kernel_rfl)) (fun _ _ _ h => h) (Or.inl ⟨by rfl, ?_⟩) ?_ ?_
                                  rotate_left
                                  · intro w'
                                    go_simp
                                    with_reducible rfl
                                  rotate_left
                                  · simp only [Act.put, List.setIfInBounds_toArray, List.set_cons_zero, List.set_cons_succ, i64_w, i32_w]
                                    rfl
                                  refine pure_ (i := 11) (N := some 59) (v := ?_) (a' := ?_) #[true, true, false, true, true, false, false, true, false, false, false, true, false, false, false, false, false, false, false, false] rfl rfl (any_of HT_.out (by kernel_rfl)) (fun _ _ _ h => h) (Or.inl ⟨by rfl, ?_⟩) ?_ ?_
                                  rotate_left
                                  · intro w'
                                    go_simp
                                    with_reducible rfl
                                  rotate_left
                                  · simp only [Act.put, List.setIfInBounds_toArray, List.set_cons_zero, List.set_cons_succ, i64_w, i32_w]
                                    rfl
                                  refine pure_ (i := 13) (N := some 61) (v := ?_) (a' := ?_) #[true, true, false, true, true, false, false, true, false, false, false, true, false, true, false, false, false, false, false, false] rfl rfl (any_of HT_.out (by kernel_rfl)) (fun _ _ _ h => h) (Or.inl ⟨by rfl, ?_⟩) ?_ ?_
                                  rotate_left
                                  · intro w'
                                    go_simp
                                    with_reducible rfl
                                  rotate_left
                                  · simp only [Act.put, List.setIfInBounds_toArray, List.set_cons_zero, List.set_cons_succ, i64_w, i32_w]
                                    rfl
                                  refine take_ (i := 2) (N := some 50) (v := ?_) (a' := ?_) #[true, true, true, true, true, false, false, true, false, false, false, true, false, true, false, false, false, false, false, false] rfl rfl (take_ofW HT_.out HW_.out (by kernel_rfl)) (fun _ _ _ h => h) (Or.inl ⟨by rfl, ?_⟩) hHeld ?_ ?_
                                  rotate_left
                                  · rintro w' ⟨s0, s1, s2, s3, s4, s5⟩
                                    (try simp only [add_plain] at s5)
                                    go_simp
                                    with_reducible rfl
                                  rotate_left
                                  · simp only [Act.put, List.setIfInBounds_toArray, List.set_cons_zero, List.set_cons_succ, i64_w, i32_w]
                                    rfl
                                  refine take_ (i := 5) (N := some 53) (v := ?_) (a' := ?_) #[true, true, true, true, true, true, false, true, false, false, false, true, false, true, false, false, false, false, false, false] rfl rfl (take_ofW HT_.out HW_.out (by kernel_rfl)) (fun _ _ _ h => h) (Or.inl ⟨by rfl, ?_⟩) hHeld ?_ ?_
                                  rotate_left
                                  · rintro w' ⟨s0, s1, s2, s3, s4, s5⟩
                                    (try simp only [add_plain] at s5)
                                    go_simp
                                    with_reducible rfl
                                  rotate_left
                                  · simp only [Act.put, List.setIfInBounds_toArray, List.set_cons_zero, List.set_cons_succ, i64_w, i32_w]
                                    rfl
                                  refine pure_ (i := 6) (N := some 54) (v := ?_) (a' := ?_) #[true, true, true, true, true, true, true, true, false, false, false, true, false, true, false, false, false, false, false, false] rfl rfl (any_of HT_.out (by kernel_rfl)) (fun _ _ _ h => h) (Or.inl ⟨by rfl, ?_⟩) ?_ ?_
                                  rotate_left
                                  · intro w'
                                    go_simp
                                    with_reducible rfl
                                  rotate_left
                                  · simp only [Act.put, List.setIfInBounds_toArray, List.set_cons_zero, List.set_cons_succ, i64_w, i32_w]
                                    rfl
                                  refine pure_ (i := 8) (N := some 56) (v := ?_) (a' := ?_) #[true, true, true, true, true, true, true, true, true, false, false, true, false, true, false, false, false, false, false, false] rfl rfl (any_of HT_.out (by kernel_rfl)) (fun _ _ _ h => h) (Or.inl ⟨by rfl, ?_⟩) ?_ ?_
                                  rotate_left
                                  · intro w'
                                    go_simp
                                    with_reducible rfl
                                  rotate_left
                                  · simp only [Act.put, List.setIfInBounds_toArray, List.set_cons_zero, List.set_cons_succ, i64_w, i32_w]
                                    rfl
                                  refine pure_ (i := 9) (N := some 57) (v := ?_) (a' := ?_) #[true, true, true, true, true, true, true, true, true, true, false, true, false, true, false, false, false, false, false, false] rfl rfl (any_of HT_.out (by kernel_rfl)) (fun _ _ _ h => h) (Or.inl ⟨by rfl, ?_⟩) ?_ ?_
                                  rotate_left
                                  · intro w'
                                    go_simp
                                    with_reducible rfl
                                  rotate_left
                                  · simp only [Act.put, List.setIfInBounds_toArray, List.set_cons_zero, List.set_cons_succ, i64_w, i32_w]
                                    rfl
                                  refine take_ (i := 10) (N := some 58) (v := ?_) (a' := ?_) #[true, true, true, true, true, true, true, true, true, true, true, true, false, true, false, false, false, false, false, false] rfl rfl (take_ofW HT_.out HW_.out (by kernel_rfl)) (fun _ _ _ h => h) (Or.inl ⟨by rfl, ?_⟩) hHeld ?_ ?_
                                  rotate_left
                                  · rintro w' ⟨s0, s1, s2, s3, s4, s5⟩
                                    (try simp only [add_plain] at s5)
                                    go_simp
                                    with_reducible rfl
                                  rotate_left
                                  · simp only [Act.put, List.setIfInBounds_toArray, List.set_cons_zero, List.set_cons_succ, i64_w, i32_w]
                                    rfl
                                  refine take_ (i := 12) (N := some 60) (v := ?_) (a' := ?_) #[true, true, true, true, true, true, true, true, true, true, true, true, true, true, false, false, false, false, false, false] rfl rfl (take_ofW HT_.out HW_.out (by kernel_rfl)) (fun _ _ _ h => h) (Or.inl ⟨by rfl, ?_⟩) hHeld ?_ ?_
                                  rotate_left
                                  · rintro w' ⟨s0, s1, s2, s3, s4, s5⟩
                                    (try simp only [add_plain] at s5)
                                    go_simp
                                    with_reducible rfl
                                  rotate_left
                                  · simp only [Act.put, List.setIfInBounds_toArray, List.set_cons_zero, List.set_cons_succ, i64_w, i32_w]
                                    rfl
                                  refine one_ (i := 14) (N := some 62) #[true, true, true, true, true, true, true, true, true, true, true, true, true, true, true, false, false, false, false, false] rfl rfl (one_of HT_.out (by kernel_rfl)) (by decide) (fun K hK => ?_)
                                  refine goes_ Try.func17 (by kernel_rfl) rfl #[.int .i64 (rd l0_3 (ji31)), .int .i64 a0_2, .int .i64 a1] (by rfl) rfl rfl (by (try simp only [List.map_toArray, List.map_cons, List.map_nil]); first | done | (simp only [hji31]; rfl) | rfl | (simp only [List.length_drop, List.length_take]; rfl)) ?_
                                  with_reducible refine (tilefarmref12_Bin.calls (rd l0_3 (ji31)) a0_2 a1 t320 _ A34.out).mono ?_
                                  rintro e w' ⟨rfl, ⟨nd, rfl⟩⟩
                                  refine ⟨_, rfl, ?_⟩
                                  obtain ⟨Ao41, co41, eo41⟩ := Kd.R_slice HO_8.out
                                  (first | subst eo41 | (injection eo41 with f1_ f2_ f3_; have f4_ := f1_.symm; have f5_ := f3_.symm; clear f1_ f2_ f3_; subst f4_; subst f5_))
                                  have p37 : 0 ≤ (t320 : Int) := of_decide_eq_true q155_
                                  have q37 : (t320 : Int) < ((x8_2.length : Int) : Int) := of_decide_eq_true q155_
                                  obtain ⟨go37, co37, eo37, gb37, gl37, cl37, HG37⟩ := Kd.R_form HO_8.out (by omega)
                                  (first | cases eo37 | (injection eo37 with ea_ en_ ec_; (first | subst ea_ | (injection ea_ with ea_; subst ea_)); subst ec_; clear en_))
                                  have GB37 := Aside0.mk gb37
                                  have GG37 := Aside0.mk HG37
                                  clear gb37 gl37 HG37
                                  (first | simp only [add_plain] at hx321_0 | skip)
                                  obtain ⟨hx37_0, hf37_0⟩ := Kd.R_celln 0 HO_8.out (t320 : Int) p37 q37
                                  replace p37 := eq_true p37
                                  replace q37 := eq_true q37
                                  have HP42 := Kd.R_putn HO_8.out (t320 : Int) (wrap64 ((rd x8_2 t320) + 1))
                                  rw [← Ny322.out] at HP42
                                  have HQ42 := Aside0.mk HP42
                                  clear HP42
                                  refine hK.out _ _ ⟨(blk_cell BK306.out 0).trans rfl, (blk_cell BK306.out 1).trans rfl, (blk_cell BK306.out 2).trans rfl, (blk_cell BK306.out 3).trans rfl, ((HB.out.cell (World.block_lt_of_cell? w _ hw319_0)).trans hw319_0), hHeld.2.2.2.2.2⟩ (fun hHeld => ?_)
                                  clear hK K
                                  refine norm_ (a' := ?_) ?_ ?_
                                  rotate_left
                                  · show Act.put _ (some 62) _ = _
                                    simp only [Act.put, List.setIfInBounds_toArray, List.set_cons_zero, List.set_cons_succ, i64_w, i32_w]
                                    rfl
                                  refine pure_ (i := 15) (N := some 63) (v := ?_) (a' := ?_) #[true, true, true, true, true, true, true, true, true, true, true, true, true, true, true, true, false, false, false, false] rfl rfl (any_of HT_.out (by kernel_rfl)) (fun _ _ _ h => h) (Or.inl ⟨by rfl, ?_⟩) ?_ ?_
                                  rotate_left
                                  · intro w'
                                    go_simp
                                    with_reducible rfl
                                  rotate_left
                                  · simp only [Act.put, List.setIfInBounds_toArray, List.set_cons_zero, List.set_cons_succ, i64_w, i32_w]
                                    rfl
                                  refine take_ (i := 16) (N := some 64) (v := ?_) (a' := ?_) #[true, true, true, true, true, true, true, true, true, true, true, true, true, true, true, true, true, false, false, false] rfl rfl (take_ofW HT_.out HW_.out (by kernel_rfl)) (fun _ _ _ h => h) (Or.inl ⟨by rfl, ?_⟩) hHeld ?_ ?_
                                  rotate_left
                                  · rintro w' ⟨s0, s1, s2, s3, s4, s5⟩
                                    (try simp only [add_plain] at s5)
                                    go_simp
                                    with_reducible rfl
                                  rotate_left
                                  · simp only [Act.put, List.setIfInBounds_toArray, List.set_cons_zero, List.set_cons_succ, i64_w, i32_w]
                                    rfl
                                  refine pure_ (i := 17) (N := some 65) (v := ?_) (a' := ?_) #[true, true, true, true, true, true, true, true, true, true, true, true, true, true, true, true, true, true, false, false] rfl rfl (any_of HT_.out (by kernel_rfl)) (fun _ _ _ h => h) (Or.inl ⟨by rfl, ?_⟩) ?_ ?_
                                  rotate_left
                                  · intro w'
                                    go_simp
                                    with_reducible rfl
                                  rotate_left
                                  · simp only [Act.put, List.setIfInBounds_toArray, List.set_cons_zero, List.set_cons_succ, i64_w, i32_w]
                                    rfl
                                  refine pure_ (i := 18) (N := some 66) (v := ?_) (a' := ?_) #[true, true, true, true, true, true, true, true, true, true, true, true, true, true, true, true, true, true, true, false] rfl rfl (any_of HT_.out (by kernel_rfl)) (fun _ _ _ h => h) (Or.inl ⟨by rfl, ?_⟩) ?_ ?_
                                  rotate_left
                                  · intro w'
                                    go_simp
                                    with_reducible rfl
                                  rotate_left
                                  · simp only [Act.put, List.setIfInBounds_toArray, List.set_cons_zero, List.set_cons_succ, i64_w, i32_w]
                                    rfl
                                  refine last_ (i := 19) (N := none) #[true, true, true, true, true, true, true, true, true, true, true, true, true, true, true, true, true, true, true, true] rfl rfl (one_of HT_.out (by kernel_rfl)) (by decide) (fun K hK => ?_)
                                  refine skip_ (w1 := ?_) (by rfl) rfl ?_ ?_
                                  rotate_left
                                  · go_simp
                                    rfl
                                  refine hK.out _ _ ?_
                                  clear hK K
                                  refine done_ (done_of HT_.out (by kernel_rfl)) ?_
                                  try go_wp2
                                  go_roundg k2
                                  case measure => have := HK1.out; have := HK2.out; omega
                                  case rel => exact ⟨(y322), (wrap64 (x10_2 + 1)), q156_, (by first | exact H' | ((try (rw [hji31])); exact H')), ⟨q157_⟩, ⟨by (with_reducible repeat (first | apply Kd.R_alloc | apply Kd.R_drewN | apply Kd.R_drew)); exact HQ42.out⟩, ⟨by (with_reducible repeat (first | refine blk_drewN ?_ _ | refine blk_drew ?_ | refine blk_alloc ?_ _)); refine blk_far ?_ (by have h_ := Kd.R_ne HO_8.out BK306.out (by decide); intro e_; exact h_ (by rw [e_]; rfl)) _; (with_reducible repeat (first | refine blk_drewN ?_ _ | refine blk_drew ?_ | refine blk_alloc ?_ _)); exact BK306.out⟩, ⟨by (with_reducible repeat (first | refine blk_drewN ?_ _ | refine blk_drew ?_ | refine blk_alloc ?_ _)); refine blk_far ?_ (by have h_ := Kd.R_ne HO_8.out BK307.out (by decide); intro e_; exact h_ (by rw [e_]; rfl)) _; (with_reducible repeat (first | refine blk_drewN ?_ _ | refine blk_drew ?_ | refine blk_alloc ?_ _)); exact BK307.out⟩, ⟨by repeat (first | (with_reducible first | exact HB.out | apply below_alloc | apply pw_below_drewN | apply below_drew1 | refine below_set ?_ GB37.out | refine below_set ?_ GE306.out | refine below_set ?_ GE307.out) | exact HB.out)⟩⟩
                                · rw [if_neg c36] at H
                                  exact absurd H (by simp)
                              · rw [if_neg c35] at H
                                exact absurd H (by simp)
                            · rw [if_neg c33] at H
                              exact absurd H (by simp)
                          · rw [if_neg c32] at H
                            exact absurd H (by simp)
                        · rw [if_neg c30] at H
                          have c30b0 : decide (x10_2 < a2_2) = false := decide_eq_false c30
                          clear c30
                          have H' := Aside0.mk H
                          clear H
                          have hnb43 := NB307_306.out
                          have hnc43 := NB306_307.out
                          have hcz44_0 : wr.cell? ⟨gb307, 0, none⟩ = some (.int .i64 a2_0) := (blk_cell BK307.out 0).trans rfl
                          have hcz44_1 : wr.cell? ⟨gb307, 1, none⟩ = some (.int .i64 a2_1) := (blk_cell BK307.out 1).trans rfl
                          have hcz44_2 : wr.cell? ⟨gb307, 2, none⟩ = some (.int .i64 a2_2) := (blk_cell BK307.out 2).trans rfl
                          have hcz44_3 : wr.cell? ⟨gb307, 3, none⟩ = some (.int .i64 a2_3) := (blk_cell BK307.out 3).trans rfl
                          have hfz44_0 := blk_frozen BK307.out 0
                          have hfz44_1 := blk_frozen BK307.out 1
                          have hfz44_2 := blk_frozen BK307.out 2
                          have hfz44_3 := blk_frozen BK307.out 3
                          go_wp2
                          go_roundg k2
                          case measure => have := HK1.out; have := HK2.out; omega
                          case rel => exact ⟨(x8_2), (wrap64 (x9_1 + 1)), q156_, (by first | exact H' | ((try (rw [hji31])); exact H')), ⟨q157_⟩, ⟨q150_⟩, ⟨q128_⟩, ⟨q129_⟩, ⟨q69_⟩⟩
                  · rw [if_neg c27] at H
                    have c27b0 : decide (x9_1 < a2_3) = false := decide_eq_false c27
                    clear c27
                    simp only [Option.some.injEq, Prod.mk.injEq] at H
                    obtain ⟨rfl, rfl⟩ := H
                    have hnb45 := NB307_306.out
                    have hnc45 := NB306_307.out
                    have hcz46_0 : wr.cell? ⟨gb307, 0, none⟩ = some (.int .i64 a2_0) := (blk_cell BK307.out 0).trans rfl
                    have hcz46_1 : wr.cell? ⟨gb307, 1, none⟩ = some (.int .i64 a2_1) := (blk_cell BK307.out 1).trans rfl
                    have hcz46_2 : wr.cell? ⟨gb307, 2, none⟩ = some (.int .i64 a2_2) := (blk_cell BK307.out 2).trans rfl
                    have hcz46_3 : wr.cell? ⟨gb307, 3, none⟩ = some (.int .i64 a2_3) := (blk_cell BK307.out 3).trans rfl
                    have hfz46_0 := blk_frozen BK307.out 0
                    have hfz46_1 := blk_frozen BK307.out 1
                    have hfz46_2 := blk_frozen BK307.out 2
                    have hfz46_3 := blk_frozen BK307.out 3
                    go_wp2
                    go_ret2
                    exact ⟨_, q152_, q150_, q69_⟩
            · rw [if_neg c14] at H
              exact absurd H (by simp)
          · rw [if_neg c13] at H
            exact absurd H (by simp)
        · replace c12 := Bool.eq_false_iff.mpr c12
          subst c12
          have H1 : (some (([] : List Int), 8)) = some (r1, r2) := by rw [if_neg (show ¬ (false = true) by decide)] at H; exact H
          clear H
          have H := H1
          clear H1
          simp only [Option.some.injEq, Prod.mk.injEq] at H
          obtain ⟨rfl, rfl⟩ := H
          go_enter Try.func22, Try.ntmps22
          try go_wp2_with (first | ((with_reducible refine gate_dst (N := 3) rfl ?_); refine box_event ?hg (N := 3) ?hd (cs := #[.int .i64 a0_0, .int .i64 a0_1, .int .i64 a0_2, .slice A0_3 l0_3.length c0_3]) (t := 26) ?hr ?_; (case hd => rfl); (case hg => rfl); (case hr => first | (go_simp; done) | (go_simp; rfl)); intro gb306 hg w47 hbox hb; have n0_ := Aside0.mk (below_step q103_ hb); have n1_ := Aside0.mk (hbox); have n2_ := Aside0.mk ((q79_ : w.heap.size ≤ gb306)); have n3_ := Aside0.mk ((q79_ : w.heap.size ≤ gb306)); clear HB; have HB := n0_; have BK306 := n1_; have GW306 := n2_; have GE306 := n3_; clear n0_ n1_ n2_ n3_; clear hb hbox hg) | ((with_reducible refine gate_dst (N := 5) rfl ?_); refine box_event ?hg (N := 5) ?hd (cs := #[.int .i64 a2_0, .int .i64 a2_1, .int .i64 a2_2, .int .i64 a2_3]) (t := 39) ?hr ?_; (case hd => rfl); (case hg => rfl); (case hr => first | (go_simp; done) | (go_simp; rfl)); intro gb307 hg w48 hbox hb; have n0_ := Aside0.mk (blk_below (g := gb306) (o := .cells #[.int .i64 a0_0, .int .i64 a0_1, .int .i64 a0_2, .slice A0_3 l0_3.length c0_3] 26 (0, 0)) q128_ hb); have n1_ := Aside0.mk (below_step q93_ hb); have n2_ := Aside0.mk (hbox); have n3_ := Aside0.mk ((q60_ : w.heap.size ≤ gb307)); have n4_ := Aside0.mk ((q60_ : w.heap.size ≤ gb307)); have n5_ := Aside0.mk ((q10_ : gb306 ≠ gb307)); have n6_ := Aside0.mk ((q11_ : gb307 ≠ gb306)); clear BK306; clear HB; have BK306 := n0_; have HB := n1_; have BK307 := n2_; have GW307 := n3_; have GE307 := n4_; have NB306_307 := n5_; have NB307_306 := n6_; clear n0_ n1_ n2_ n3_ n4_ n5_ n6_; clear hb hbox hg; have hnb49 := NB306_307.out; have hnc49 := NB307_306.out; have hcz50_0 : w48.cell? ⟨gb306, 0, none⟩ = some (.int .i64 a0_0) := (blk_cell BK306.out 0).trans rfl; have hcz50_1 : w48.cell? ⟨gb306, 1, none⟩ = some (.int .i64 a0_1) := (blk_cell BK306.out 1).trans rfl; have hcz50_2 : w48.cell? ⟨gb306, 2, none⟩ = some (.int .i64 a0_2) := (blk_cell BK306.out 2).trans rfl; have hcz50_3 : w48.cell? ⟨gb306, 3, none⟩ = some (.slice A0_3 l0_3.length c0_3) := (blk_cell BK306.out 3).trans rfl; have hfz50_0 := blk_frozen BK306.out 0; have hfz50_1 := blk_frozen BK306.out 1; have hfz50_2 := blk_frozen BK306.out 2; have hfz50_3 := blk_frozen BK306.out 3) | ((with_reducible refine gate_callee (f := 35) rfl ?_); refine goesL_ (some 13) rfl rfl Try.func35 (by kernel_rfl) rfl #[.agg #[.int .i64 a0_0, .int .i64 a0_1, .int .i64 a0_2, .slice A0_3 l0_3.length c0_3]] rfl q100_ ?_; (with_reducible refine (tilefarmref4_Valid.calls k a0_0 a0_1 a0_2 _ _ l0_3 true _ ?side1 ?side2 A4.out).mono ?_); (case side1 => repeat (first | exact (Kd.C_below HR0_3.out HB.out) | (with_reducible refine Kd.C_alloc ?_ _) | (with_reducible refine Kd.C_drewN ?_ _) | (with_reducible refine Kd.C_drew ?_))); (case side2 => exact HC0_3.out); rintro e w51 ⟨rfl, hb⟩; refine ⟨_, rfl, ?_⟩; have n0_ := Aside0.mk (blk_below (g := gb306) (o := .cells #[.int .i64 a0_0, .int .i64 a0_1, .int .i64 a0_2, .slice A0_3 l0_3.length c0_3] 26 (0, 0)) q128_ hb); have n1_ := Aside0.mk (blk_below (g := gb307) (o := .cells #[.int .i64 a2_0, .int .i64 a2_1, .int .i64 a2_2, .int .i64 a2_3] 39 (0, 0)) q129_ hb); have n2_ := Aside0.mk (below_step q69_ hb); clear BK306; clear BK307; clear HB; have BK306 := n0_; have BK307 := n1_; have HB := n2_; clear n0_ n1_ n2_; (try clear hb); (try clear hb2); (try clear hk); (try clear hi)) | ((with_reducible refine gate_callee (f := 31) rfl ?_); refine goesL_ (some 17) rfl rfl Try.func31 (by kernel_rfl) rfl #[.int .i64 a1] rfl q100_ ?_; (with_reducible refine (tilefarmref12_Bins.calls a1 true _ A6.out).mono ?_); rintro e w' ⟨rfl, ⟨nd, rfl⟩⟩; refine ⟨_, rfl, ?_⟩))
          (try (rw [drewN_self w51]; generalize hq_ : World.drewN w51 _ = w51; have n0_ : Aside0 (w51.heap[gb306]? = some (.cells #[.int .i64 a0_0, .int .i64 a0_1, .int .i64 a0_2, .slice A0_3 l0_3.length c0_3] 26 (0, 0))) := ⟨q98_⟩; have n1_ : Aside0 (w51.heap[gb307]? = some (.cells #[.int .i64 a2_0, .int .i64 a2_1, .int .i64 a2_2, .int .i64 a2_3] 39 (0, 0))) := ⟨q99_⟩; have n2_ : Aside0 (Below w.heap.size w w51) := ⟨q45_⟩; clear BK306 BK307 HB hq_; have BK306 := n0_; have BK307 := n1_; have HB := n2_; clear n0_ n1_ n2_))
          have n0_ := Aside0.mk (blk_drew BK306.out)
          have n1_ := Aside0.mk (blk_drew BK307.out)
          have n2_ := Aside0.mk (below_drew1 HB.out)
          clear BK306
          clear BK307
          clear HB
          have BK306 := n0_
          have BK307 := n1_
          have HB := n2_
          clear n0_ n1_ n2_
          refine start_ (n := 11) (S := fun w' => w'.cell? ⟨gb307, 0, none⟩ = some (.int .i64 a2_0) ∧ w'.cell? ⟨gb307, 1, none⟩ = some (.int .i64 a2_1) ∧ w'.cell? ⟨gb307, 2, none⟩ = some (.int .i64 a2_2) ∧ w'.cell? ⟨gb307, 3, none⟩ = some (.int .i64 a2_3) ∧ w'.cell? ⟨gb306, 0, none⟩ = some (.int .i64 a0_0) ∧ w'.cell? ⟨gb306, 1, none⟩ = some (.int .i64 a0_1) ∧ w'.cell? ⟨gb306, 2, none⟩ = some (.int .i64 a0_2) ∧ w'.cell? ⟨gb306, 3, none⟩ = some (.slice A0_3 l0_3.length c0_3)) (ds := []) #[false, false, false, false, false, false, false, false, false, false, false] (by kernel_rfl) rfl rfl ⟨(blk_cell BK307.out 0).trans rfl, (blk_cell BK307.out 1).trans rfl, (blk_cell BK307.out 2).trans rfl, (blk_cell BK307.out 3).trans rfl, (blk_cell BK306.out 0).trans rfl, (blk_cell BK306.out 1).trans rfl, (blk_cell BK306.out 2).trans rfl, (blk_cell BK306.out 3).trans rfl⟩ (fun hHeld => ?_); refine with_tabW tilefarmref12_Partial.tab5 tilefarmref12_Partial.bits5 (fun HT_ HW_ => ?_)
          generalize w51.drew = w52 at BK306 BK307 HB hHeld ⊢
          refine take_ (i := 0) (N := some 20) (v := ?_) (a' := ?_) #[true, false, false, false, false, false, false, false, false, false, false] rfl rfl (take_ofW HT_.out HW_.out (by kernel_rfl)) (fun _ _ _ h => h) (Or.inl ⟨by rfl, ?_⟩) hHeld ?_ ?_
          rotate_left
          · rintro w' ⟨s0, s1, s2, s3, s4, s5, s6, s7⟩
            (try simp only [add_plain] at s7)
            go_simp
            with_reducible rfl
          rotate_left
          · simp only [Act.put, List.setIfInBounds_toArray, List.set_cons_zero, List.set_cons_succ, i64_w, i32_w]
            rfl
          refine one_ (i := 1) (N := some 21) #[true, true, false, false, false, false, false, false, false, false, false] rfl rfl (one_of HT_.out (by kernel_rfl)) (by decide) (fun K hK => ?_)
          refine goes_ Try.func36 (by kernel_rfl) rfl #[.agg #[.int .i64 a2_0, .int .i64 a2_1, .int .i64 a2_2, .int .i64 a2_3]] (by rfl) rfl rfl q100_ ?_
          with_reducible refine (tilefarmref2_Full.calls a2_0 a2_1 a2_2 a2_3 true _ A8.out).mono ?_
          rintro e w53 ⟨rfl, hb⟩
          refine ⟨_, rfl, ?_⟩
          have n0_ := Aside0.mk (blk_below (g := gb306) (o := .cells #[.int .i64 a0_0, .int .i64 a0_1, .int .i64 a0_2, .slice A0_3 l0_3.length c0_3] 26 (0, 0)) q128_ hb)
          have n1_ := Aside0.mk (blk_below (g := gb307) (o := .cells #[.int .i64 a2_0, .int .i64 a2_1, .int .i64 a2_2, .int .i64 a2_3] 39 (0, 0)) q129_ hb)
          have n2_ := Aside0.mk (below_step q69_ hb)
          clear BK306
          clear BK307
          clear HB
          have BK306 := n0_
          have BK307 := n1_
          have HB := n2_
          clear n0_ n1_ n2_
          (try clear hb)
          (try clear hb2)
          (try clear hk)
          (try clear hi)
          refine hK.out _ _ ⟨(blk_cell BK307.out 0).trans rfl, (blk_cell BK307.out 1).trans rfl, (blk_cell BK307.out 2).trans rfl, (blk_cell BK307.out 3).trans rfl, (blk_cell BK306.out 0).trans rfl, (blk_cell BK306.out 1).trans rfl, (blk_cell BK306.out 2).trans rfl, (blk_cell BK306.out 3).trans rfl⟩ (fun hHeld => ?_)
          clear hK K
          refine norm_ (a' := ?_) ?_ ?_
          rotate_left
          · show Act.put _ (some 21) _ = _
            simp only [Act.put, List.setIfInBounds_toArray, List.set_cons_zero, List.set_cons_succ, i64_w, i32_w]
            rfl
          refine pure_ (i := 2) (N := some 22) (v := ?_) (a' := ?_) #[true, true, true, false, false, false, false, false, false, false, false] rfl rfl (any_of HT_.out (by kernel_rfl)) (fun _ _ _ h => h) (Or.inl ⟨by rfl, ?_⟩) ?_ ?_
          rotate_left
          · intro w'
            go_simp
            with_reducible rfl
          rotate_left
          · simp only [Act.put, List.setIfInBounds_toArray, List.set_cons_zero, List.set_cons_succ, i64_w, i32_w]
            rfl
          refine pure_ (i := 3) (N := some 23) (v := ?_) (a' := ?_) #[true, true, true, true, false, false, false, false, false, false, false] rfl rfl (any_of HT_.out (by kernel_rfl)) (fun _ _ _ h => h) (Or.inl ⟨by rfl, ?_⟩) ?_ ?_
          rotate_left
          · intro w'
            go_simp
            with_reducible rfl
          rotate_left
          · simp only [Act.put, List.setIfInBounds_toArray, List.set_cons_zero, List.set_cons_succ, i64_w, i32_w]
            rfl
          refine take_ (i := 4) (N := some 24) (v := ?_) (a' := ?_) #[true, true, true, true, true, false, false, false, false, false, false] rfl rfl (take_ofW HT_.out HW_.out (by kernel_rfl)) (fun _ _ _ h => h) (Or.inl ⟨by rfl, ?_⟩) hHeld ?_ ?_
          rotate_left
          · rintro w' ⟨s0, s1, s2, s3, s4, s5, s6, s7⟩
            (try simp only [add_plain] at s7)
            go_simp
            with_reducible rfl
          rotate_left
          · simp only [Act.put, List.setIfInBounds_toArray, List.set_cons_zero, List.set_cons_succ, i64_w, i32_w]
            rfl
          refine take_ (i := 5) (N := some 25) (v := ?_) (a' := ?_) #[true, true, true, true, true, true, false, false, false, false, false] rfl rfl (take_ofW HT_.out HW_.out (by kernel_rfl)) (fun _ _ _ h => h) (Or.inl ⟨by rfl, ?_⟩) hHeld ?_ ?_
          rotate_left
          · rintro w' ⟨s0, s1, s2, s3, s4, s5, s6, s7⟩
            (try simp only [add_plain] at s7)
            go_simp
            with_reducible rfl
          rotate_left
          · simp only [Act.put, List.setIfInBounds_toArray, List.set_cons_zero, List.set_cons_succ, i64_w, i32_w]
            rfl
          refine one_ (i := 6) (N := some 26) #[true, true, true, true, true, true, true, false, false, false, false] rfl rfl (one_of HT_.out (by kernel_rfl)) (by decide) (fun K hK => ?_)
          refine goes_ Try.func38 (by kernel_rfl) rfl #[.agg #[.int .i64 a0_0, .int .i64 a0_1, .int .i64 a0_2, .slice A0_3 l0_3.length c0_3]] (by rfl) rfl rfl q100_ ?_
          with_reducible refine (tilefarmref4_Cover.calls a0_0 a0_1 a0_2 _ _ l0_3 t311 t312 t313 t314 _ ?side1 ?side2 A10.out).mono ?_
          (case side1 => repeat (first | exact (Kd.C_below HR0_3.out HB.out) | (with_reducible refine Kd.C_alloc ?_ _) | (with_reducible refine Kd.C_drewN ?_ _) | (with_reducible refine Kd.C_drew ?_)))
          (case side2 => exact HC0_3.out)
          rintro e w54 ⟨rfl, hb⟩
          refine ⟨_, rfl, ?_⟩
          have n0_ := Aside0.mk (blk_below (g := gb306) (o := .cells #[.int .i64 a0_0, .int .i64 a0_1, .int .i64 a0_2, .slice A0_3 l0_3.length c0_3] 26 (0, 0)) q128_ hb)
          have n1_ := Aside0.mk (blk_below (g := gb307) (o := .cells #[.int .i64 a2_0, .int .i64 a2_1, .int .i64 a2_2, .int .i64 a2_3] 39 (0, 0)) q129_ hb)
          have n2_ := Aside0.mk (below_step q69_ hb)
          clear BK306
          clear BK307
          clear HB
          have BK306 := n0_
          have BK307 := n1_
          have HB := n2_
          clear n0_ n1_ n2_
          (try clear hb)
          (try clear hb2)
          (try clear hk)
          (try clear hi)
          refine hK.out _ _ ⟨(blk_cell BK307.out 0).trans rfl, (blk_cell BK307.out 1).trans rfl, (blk_cell BK307.out 2).trans rfl, (blk_cell BK307.out 3).trans rfl, (blk_cell BK306.out 0).trans rfl, (blk_cell BK306.out 1).trans rfl, (blk_cell BK306.out 2).trans rfl, (blk_cell BK306.out 3).trans rfl⟩ (fun hHeld => ?_)
          clear hK K
          refine norm_ (a' := ?_) ?_ ?_
          rotate_left
          · show Act.put _ (some 26) _ = _
            simp only [Act.put, List.setIfInBounds_toArray, List.set_cons_zero, List.set_cons_succ, i64_w, i32_w]
            rfl
          refine one_ (i := 7) (N := some 27) #[true, true, true, true, true, true, true, true, false, false, false] rfl rfl (one_of HT_.out (by kernel_rfl)) (by decide) (fun K hK => ?_)
          refine goes_ Try.func37 (by kernel_rfl) rfl #[.agg #[.int .i64 a2_0, .int .i64 a2_1, .int .i64 a2_2, .int .i64 a2_3], .agg #[.int .i64 t311, .int .i64 t312, .int .i64 t313, .int .i64 t314]] (by rfl) rfl rfl q100_ ?_
          with_reducible refine (tilefarmref2_Inside.calls a2_0 a2_1 a2_2 a2_3 t311 t312 t313 t314 false _ A11.out).mono ?_
          rintro e w55 ⟨rfl, hb⟩
          refine ⟨_, rfl, ?_⟩
          have n0_ := Aside0.mk (blk_below (g := gb306) (o := .cells #[.int .i64 a0_0, .int .i64 a0_1, .int .i64 a0_2, .slice A0_3 l0_3.length c0_3] 26 (0, 0)) q128_ hb)
          have n1_ := Aside0.mk (blk_below (g := gb307) (o := .cells #[.int .i64 a2_0, .int .i64 a2_1, .int .i64 a2_2, .int .i64 a2_3] 39 (0, 0)) q129_ hb)
          have n2_ := Aside0.mk (below_step q69_ hb)
          clear BK306
          clear BK307
          clear HB
          have BK306 := n0_
          have BK307 := n1_
          have HB := n2_
          clear n0_ n1_ n2_
          (try clear hb)
          (try clear hb2)
          (try clear hk)
          (try clear hi)
          refine hK.out _ _ ⟨(blk_cell BK307.out 0).trans rfl, (blk_cell BK307.out 1).trans rfl, (blk_cell BK307.out 2).trans rfl, (blk_cell BK307.out 3).trans rfl, (blk_cell BK306.out 0).trans rfl, (blk_cell BK306.out 1).trans rfl, (blk_cell BK306.out 2).trans rfl, (blk_cell BK306.out 3).trans rfl⟩ (fun hHeld => ?_)
          clear hK K
          refine norm_ (a' := ?_) ?_ ?_
          rotate_left
          · show Act.put _ (some 27) _ = _
            simp only [Act.put, List.setIfInBounds_toArray, List.set_cons_zero, List.set_cons_succ, i64_w, i32_w]
            rfl
          refine pure_ (i := 8) (N := some 28) (v := ?_) (a' := ?_) #[true, true, true, true, true, true, true, true, true, false, false] rfl rfl (any_of HT_.out (by kernel_rfl)) (fun _ _ _ h => h) (Or.inl ⟨by rfl, ?_⟩) ?_ ?_
          rotate_left
          · intro w'
            go_simp
            with_reducible rfl
          rotate_left
          · simp only [Act.put, List.setIfInBounds_toArray, List.set_cons_zero, List.set_cons_succ, i64_w, i32_w]
            rfl
          refine pure_ (i := 9) (N := some 29) (v := ?_) (a' := ?_) #[true, true, true, true, true, true, true, true, true, true, false] rfl rfl (any_of HT_.out (by kernel_rfl)) (fun _ _ _ h => h) (Or.inl ⟨by rfl, ?_⟩) ?_ ?_
          rotate_left
          · intro w'
            go_simp
            with_reducible rfl
          rotate_left
          · simp only [Act.put, List.setIfInBounds_toArray, List.set_cons_zero, List.set_cons_succ, i64_w, i32_w]
            rfl
          refine pure_ (i := 10) (N := some 19) (v := ?_) (a' := ?_) #[true, true, true, true, true, true, true, true, true, true, true] rfl rfl (any_of HT_.out (by kernel_rfl)) (fun _ _ _ h => h) (Or.inl ⟨by rfl, ?_⟩) ?_ ?_
          rotate_left
          · intro w'
            go_simp
            with_reducible rfl
          rotate_left
          · simp only [Act.put, List.setIfInBounds_toArray, List.set_cons_zero, List.set_cons_succ, i64_w, i32_w]
            rfl
          refine done_ (done_of HT_.out (by kernel_rfl)) ?_
          try go_wp2
          go_ret2
          exact ⟨_, q152_, q97_, q69_⟩
      · replace c9 := Bool.eq_false_iff.mpr c9
        subst c9
        have H1 : (some (([] : List Int), 8)) = some (r1, r2) := by rw [if_neg (show ¬ (false = true) by decide)] at H; exact H
        clear H
        have H := H1
        clear H1
        simp only [Option.some.injEq, Prod.mk.injEq] at H
        obtain ⟨rfl, rfl⟩ := H
        go_enter Try.func22, Try.ntmps22
        try go_wp2_with (first | ((with_reducible refine gate_dst (N := 3) rfl ?_); refine box_event ?hg (N := 3) ?hd (cs := #[.int .i64 a0_0, .int .i64 a0_1, .int .i64 a0_2, .slice A0_3 l0_3.length c0_3]) (t := 26) ?hr ?_; (case hd => rfl); (case hg => rfl); (case hr => first | (go_simp; done) | (go_simp; rfl)); intro gb306 hg w56 hbox hb; have n0_ := Aside0.mk (below_step q103_ hb); have n1_ := Aside0.mk (hbox); have n2_ := Aside0.mk ((q79_ : w.heap.size ≤ gb306)); have n3_ := Aside0.mk ((q79_ : w.heap.size ≤ gb306)); clear HB; have HB := n0_; have BK306 := n1_; have GW306 := n2_; have GE306 := n3_; clear n0_ n1_ n2_ n3_; clear hb hbox hg) | ((with_reducible refine gate_dst (N := 5) rfl ?_); refine box_event ?hg (N := 5) ?hd (cs := #[.int .i64 a2_0, .int .i64 a2_1, .int .i64 a2_2, .int .i64 a2_3]) (t := 39) ?hr ?_; (case hd => rfl); (case hg => rfl); (case hr => first | (go_simp; done) | (go_simp; rfl)); intro gb307 hg w57 hbox hb; have n0_ := Aside0.mk (blk_below (g := gb306) (o := .cells #[.int .i64 a0_0, .int .i64 a0_1, .int .i64 a0_2, .slice A0_3 l0_3.length c0_3] 26 (0, 0)) q128_ hb); have n1_ := Aside0.mk (below_step q93_ hb); have n2_ := Aside0.mk (hbox); have n3_ := Aside0.mk ((q60_ : w.heap.size ≤ gb307)); have n4_ := Aside0.mk ((q60_ : w.heap.size ≤ gb307)); have n5_ := Aside0.mk ((q10_ : gb306 ≠ gb307)); have n6_ := Aside0.mk ((q11_ : gb307 ≠ gb306)); clear BK306; clear HB; have BK306 := n0_; have HB := n1_; have BK307 := n2_; have GW307 := n3_; have GE307 := n4_; have NB306_307 := n5_; have NB307_306 := n6_; clear n0_ n1_ n2_ n3_ n4_ n5_ n6_; clear hb hbox hg; have hnb58 := NB306_307.out; have hnc58 := NB307_306.out; have hcz59_0 : w57.cell? ⟨gb306, 0, none⟩ = some (.int .i64 a0_0) := (blk_cell BK306.out 0).trans rfl; have hcz59_1 : w57.cell? ⟨gb306, 1, none⟩ = some (.int .i64 a0_1) := (blk_cell BK306.out 1).trans rfl; have hcz59_2 : w57.cell? ⟨gb306, 2, none⟩ = some (.int .i64 a0_2) := (blk_cell BK306.out 2).trans rfl; have hcz59_3 : w57.cell? ⟨gb306, 3, none⟩ = some (.slice A0_3 l0_3.length c0_3) := (blk_cell BK306.out 3).trans rfl; have hfz59_0 := blk_frozen BK306.out 0; have hfz59_1 := blk_frozen BK306.out 1; have hfz59_2 := blk_frozen BK306.out 2; have hfz59_3 := blk_frozen BK306.out 3) | ((with_reducible refine gate_callee (f := 35) rfl ?_); refine goesL_ (some 13) rfl rfl Try.func35 (by kernel_rfl) rfl #[.agg #[.int .i64 a0_0, .int .i64 a0_1, .int .i64 a0_2, .slice A0_3 l0_3.length c0_3]] rfl q100_ ?_; (with_reducible refine (tilefarmref4_Valid.calls k a0_0 a0_1 a0_2 _ _ l0_3 true _ ?side1 ?side2 A4.out).mono ?_); (case side1 => repeat (first | exact (Kd.C_below HR0_3.out HB.out) | (with_reducible refine Kd.C_alloc ?_ _) | (with_reducible refine Kd.C_drewN ?_ _) | (with_reducible refine Kd.C_drew ?_))); (case side2 => exact HC0_3.out); rintro e w60 ⟨rfl, hb⟩; refine ⟨_, rfl, ?_⟩; have n0_ := Aside0.mk (blk_below (g := gb306) (o := .cells #[.int .i64 a0_0, .int .i64 a0_1, .int .i64 a0_2, .slice A0_3 l0_3.length c0_3] 26 (0, 0)) q128_ hb); have n1_ := Aside0.mk (blk_below (g := gb307) (o := .cells #[.int .i64 a2_0, .int .i64 a2_1, .int .i64 a2_2, .int .i64 a2_3] 39 (0, 0)) q129_ hb); have n2_ := Aside0.mk (below_step q69_ hb); clear BK306; clear BK307; clear HB; have BK306 := n0_; have BK307 := n1_; have HB := n2_; clear n0_ n1_ n2_; (try clear hb); (try clear hb2); (try clear hk); (try clear hi)) | ((with_reducible refine gate_callee (f := 31) rfl ?_); refine goesL_ (some 17) rfl rfl Try.func31 (by kernel_rfl) rfl #[.int .i64 a1] rfl q100_ ?_; (with_reducible refine (tilefarmref12_Bins.calls a1 true _ A6.out).mono ?_); rintro e w' ⟨rfl, ⟨nd, rfl⟩⟩; refine ⟨_, rfl, ?_⟩))
        (try (rw [drewN_self w60]; generalize hq_ : World.drewN w60 _ = w60; have n0_ : Aside0 (w60.heap[gb306]? = some (.cells #[.int .i64 a0_0, .int .i64 a0_1, .int .i64 a0_2, .slice A0_3 l0_3.length c0_3] 26 (0, 0))) := ⟨q98_⟩; have n1_ : Aside0 (w60.heap[gb307]? = some (.cells #[.int .i64 a2_0, .int .i64 a2_1, .int .i64 a2_2, .int .i64 a2_3] 39 (0, 0))) := ⟨q99_⟩; have n2_ : Aside0 (Below w.heap.size w w60) := ⟨q45_⟩; clear BK306 BK307 HB hq_; have BK306 := n0_; have BK307 := n1_; have HB := n2_; clear n0_ n1_ n2_))
        have n0_ := Aside0.mk (blk_drew BK306.out)
        have n1_ := Aside0.mk (blk_drew BK307.out)
        have n2_ := Aside0.mk (below_drew1 HB.out)
        clear BK306
        clear BK307
        clear HB
        have BK306 := n0_
        have BK307 := n1_
        have HB := n2_
        clear n0_ n1_ n2_
        refine start_ (n := 11) (S := fun w' => w'.cell? ⟨gb307, 0, none⟩ = some (.int .i64 a2_0) ∧ w'.cell? ⟨gb307, 1, none⟩ = some (.int .i64 a2_1) ∧ w'.cell? ⟨gb307, 2, none⟩ = some (.int .i64 a2_2) ∧ w'.cell? ⟨gb307, 3, none⟩ = some (.int .i64 a2_3)) (ds := []) #[false, false, false, false, false, false, false, false, false, false, false] (by kernel_rfl) rfl rfl ⟨(blk_cell BK307.out 0).trans rfl, (blk_cell BK307.out 1).trans rfl, (blk_cell BK307.out 2).trans rfl, (blk_cell BK307.out 3).trans rfl⟩ (fun hHeld => ?_); refine with_tabW tilefarmref12_Partial.tab5 tilefarmref12_Partial.bits5 (fun HT_ HW_ => ?_)
        generalize w60.drew = w61 at BK306 BK307 HB hHeld ⊢
        refine take_ (i := 0) (N := some 20) (v := ?_) (a' := ?_) #[true, false, false, false, false, false, false, false, false, false, false] rfl rfl (take_ofW HT_.out HW_.out (by kernel_rfl)) (fun _ _ _ h => h) (Or.inl ⟨by rfl, ?_⟩) hHeld ?_ ?_
        rotate_left
        · rintro w' ⟨s0, s1, s2, s3⟩
          (try simp only [add_plain] at s3)
          go_simp
          with_reducible rfl
        rotate_left
        · simp only [Act.put, List.setIfInBounds_toArray, List.set_cons_zero, List.set_cons_succ, i64_w, i32_w]
          rfl
        refine one_ (i := 1) (N := some 21) #[true, true, false, false, false, false, false, false, false, false, false] rfl rfl (one_of HT_.out (by kernel_rfl)) (by decide) (fun K hK => ?_)
        refine goes_ Try.func36 (by kernel_rfl) rfl #[.agg #[.int .i64 a2_0, .int .i64 a2_1, .int .i64 a2_2, .int .i64 a2_3]] (by rfl) rfl rfl q100_ ?_
        with_reducible refine (tilefarmref2_Full.calls a2_0 a2_1 a2_2 a2_3 false _ A8.out).mono ?_
        rintro e w62 ⟨rfl, hb⟩
        refine ⟨_, rfl, ?_⟩
        have n0_ := Aside0.mk (blk_below (g := gb306) (o := .cells #[.int .i64 a0_0, .int .i64 a0_1, .int .i64 a0_2, .slice A0_3 l0_3.length c0_3] 26 (0, 0)) q128_ hb)
        have n1_ := Aside0.mk (blk_below (g := gb307) (o := .cells #[.int .i64 a2_0, .int .i64 a2_1, .int .i64 a2_2, .int .i64 a2_3] 39 (0, 0)) q129_ hb)
        have n2_ := Aside0.mk (below_step q69_ hb)
        clear BK306
        clear BK307
        clear HB
        have BK306 := n0_
        have BK307 := n1_
        have HB := n2_
        clear n0_ n1_ n2_
        (try clear hb)
        (try clear hb2)
        (try clear hk)
        (try clear hi)
        refine hK.out _ _ ⟨(blk_cell BK307.out 0).trans rfl, (blk_cell BK307.out 1).trans rfl, (blk_cell BK307.out 2).trans rfl, (blk_cell BK307.out 3).trans rfl⟩ (fun hHeld => ?_)
        clear hK K
        refine norm_ (a' := ?_) ?_ ?_
        rotate_left
        · show Act.put _ (some 21) _ = _
          simp only [Act.put, List.setIfInBounds_toArray, List.set_cons_zero, List.set_cons_succ, i64_w, i32_w]
          rfl
        refine pure_ (i := 2) (N := some 22) (v := ?_) (a' := ?_) #[true, true, true, false, false, false, false, false, false, false, false] rfl rfl (any_of HT_.out (by kernel_rfl)) (fun _ _ _ h => h) (Or.inl ⟨by rfl, ?_⟩) ?_ ?_
        rotate_left
        · intro w'
          go_simp
          with_reducible rfl
        rotate_left
        · simp only [Act.put, List.setIfInBounds_toArray, List.set_cons_zero, List.set_cons_succ, i64_w, i32_w]
          rfl
        refine pure_ (i := 3) (N := some 23) (v := ?_) (a' := ?_) #[true, true, true, true, false, false, false, false, false, false, false] rfl rfl (any_of HT_.out (by kernel_rfl)) (fun _ _ _ h => h) (Or.inl ⟨by rfl, ?_⟩) ?_ ?_
        rotate_left
        · intro w'
          go_simp
          with_reducible rfl
        rotate_left
        · simp only [Act.put, List.setIfInBounds_toArray, List.set_cons_zero, List.set_cons_succ, i64_w, i32_w]
          rfl
        refine pure_ (i := 4) (N := some 24) (v := undef) (a' := ?_) #[true, true, true, true, true, false, false, false, false, false, false] rfl rfl (any_of HT_.out (by kernel_rfl)) (fun _ _ _ h => h) (Or.inr ⟨by rfl, rfl⟩) ?_ ?_
        rotate_left
        · simp only [Act.put, List.setIfInBounds_toArray, List.set_cons_zero, List.set_cons_succ, i64_w, i32_w]
          rfl
        refine pure_ (i := 5) (N := some 25) (v := undef) (a' := ?_) #[true, true, true, true, true, true, false, false, false, false, false] rfl rfl (any_of HT_.out (by kernel_rfl)) (fun _ _ _ h => h) (Or.inr ⟨by rfl, rfl⟩) ?_ ?_
        rotate_left
        · simp only [Act.put, List.setIfInBounds_toArray, List.set_cons_zero, List.set_cons_succ, i64_w, i32_w]
          rfl
        refine pure_ (i := 6) (N := some 26) (v := undef) (a' := ?_) #[true, true, true, true, true, true, true, false, false, false, false] rfl rfl (any_of HT_.out (by kernel_rfl)) (fun _ _ _ h => h) (Or.inr ⟨by rfl, rfl⟩) ?_ ?_
        rotate_left
        · simp only [Act.put, List.setIfInBounds_toArray, List.set_cons_zero, List.set_cons_succ, i64_w, i32_w]
          rfl
        refine pure_ (i := 7) (N := some 27) (v := undef) (a' := ?_) #[true, true, true, true, true, true, true, true, false, false, false] rfl rfl (any_of HT_.out (by kernel_rfl)) (fun _ _ _ h => h) (Or.inr ⟨by rfl, rfl⟩) ?_ ?_
        rotate_left
        · simp only [Act.put, List.setIfInBounds_toArray, List.set_cons_zero, List.set_cons_succ, i64_w, i32_w]
          rfl
        refine pure_ (i := 8) (N := some 28) (v := undef) (a' := ?_) #[true, true, true, true, true, true, true, true, true, false, false] rfl rfl (any_of HT_.out (by kernel_rfl)) (fun _ _ _ h => h) (Or.inr ⟨by rfl, rfl⟩) ?_ ?_
        rotate_left
        · simp only [Act.put, List.setIfInBounds_toArray, List.set_cons_zero, List.set_cons_succ, i64_w, i32_w]
          rfl
        refine pure_ (i := 9) (N := some 29) (v := ?_) (a' := ?_) #[true, true, true, true, true, true, true, true, true, true, false] rfl rfl (any_of HT_.out (by kernel_rfl)) (fun _ _ _ h => h) (Or.inl ⟨by rfl, ?_⟩) ?_ ?_
        rotate_left
        · intro w'
          go_simp
          with_reducible rfl
        rotate_left
        · simp only [Act.put, List.setIfInBounds_toArray, List.set_cons_zero, List.set_cons_succ, i64_w, i32_w]
          rfl
        refine pure_ (i := 10) (N := some 19) (v := ?_) (a' := ?_) #[true, true, true, true, true, true, true, true, true, true, true] rfl rfl (any_of HT_.out (by kernel_rfl)) (fun _ _ _ h => h) (Or.inl ⟨by rfl, ?_⟩) ?_ ?_
        rotate_left
        · intro w'
          go_simp
          with_reducible rfl
        rotate_left
        · simp only [Act.put, List.setIfInBounds_toArray, List.set_cons_zero, List.set_cons_succ, i64_w, i32_w]
          rfl
        refine done_ (done_of HT_.out (by kernel_rfl)) ?_
        try go_wp2
        go_ret2
        exact ⟨_, q152_, q97_, q69_⟩
    · replace c7 := Bool.eq_false_iff.mpr c7
      subst c7
      have H1 : (some (([] : List Int), 9)) = some (r1, r2) := by rw [if_neg (show ¬ (false = true) by decide)] at H; exact H
      clear H
      have H := H1
      clear H1
      simp only [Option.some.injEq, Prod.mk.injEq] at H
      obtain ⟨rfl, rfl⟩ := H
      go_enter Try.func22, Try.ntmps22
      go_wp2_with (first | ((with_reducible refine gate_dst (N := 3) rfl ?_); refine box_event ?hg (N := 3) ?hd (cs := #[.int .i64 a0_0, .int .i64 a0_1, .int .i64 a0_2, .slice A0_3 l0_3.length c0_3]) (t := 26) ?hr ?_; (case hd => rfl); (case hg => rfl); (case hr => first | (go_simp; done) | (go_simp; rfl)); intro gb306 hg w63 hbox hb; have n0_ := Aside0.mk (below_step q103_ hb); have n1_ := Aside0.mk (hbox); have n2_ := Aside0.mk ((q79_ : w.heap.size ≤ gb306)); have n3_ := Aside0.mk ((q79_ : w.heap.size ≤ gb306)); clear HB; have HB := n0_; have BK306 := n1_; have GW306 := n2_; have GE306 := n3_; clear n0_ n1_ n2_ n3_; clear hb hbox hg) | ((with_reducible refine gate_dst (N := 5) rfl ?_); refine box_event ?hg (N := 5) ?hd (cs := #[.int .i64 a2_0, .int .i64 a2_1, .int .i64 a2_2, .int .i64 a2_3]) (t := 39) ?hr ?_; (case hd => rfl); (case hg => rfl); (case hr => first | (go_simp; done) | (go_simp; rfl)); intro gb307 hg w64 hbox hb; have n0_ := Aside0.mk (blk_below (g := gb306) (o := .cells #[.int .i64 a0_0, .int .i64 a0_1, .int .i64 a0_2, .slice A0_3 l0_3.length c0_3] 26 (0, 0)) q128_ hb); have n1_ := Aside0.mk (below_step q93_ hb); have n2_ := Aside0.mk (hbox); have n3_ := Aside0.mk ((q60_ : w.heap.size ≤ gb307)); have n4_ := Aside0.mk ((q60_ : w.heap.size ≤ gb307)); have n5_ := Aside0.mk ((q10_ : gb306 ≠ gb307)); have n6_ := Aside0.mk ((q11_ : gb307 ≠ gb306)); clear BK306; clear HB; have BK306 := n0_; have HB := n1_; have BK307 := n2_; have GW307 := n3_; have GE307 := n4_; have NB306_307 := n5_; have NB307_306 := n6_; clear n0_ n1_ n2_ n3_ n4_ n5_ n6_; clear hb hbox hg; have hnb65 := NB306_307.out; have hnc65 := NB307_306.out; have hcz66_0 : w64.cell? ⟨gb306, 0, none⟩ = some (.int .i64 a0_0) := (blk_cell BK306.out 0).trans rfl; have hcz66_1 : w64.cell? ⟨gb306, 1, none⟩ = some (.int .i64 a0_1) := (blk_cell BK306.out 1).trans rfl; have hcz66_2 : w64.cell? ⟨gb306, 2, none⟩ = some (.int .i64 a0_2) := (blk_cell BK306.out 2).trans rfl; have hcz66_3 : w64.cell? ⟨gb306, 3, none⟩ = some (.slice A0_3 l0_3.length c0_3) := (blk_cell BK306.out 3).trans rfl; have hfz66_0 := blk_frozen BK306.out 0; have hfz66_1 := blk_frozen BK306.out 1; have hfz66_2 := blk_frozen BK306.out 2; have hfz66_3 := blk_frozen BK306.out 3) | ((with_reducible refine gate_callee (f := 35) rfl ?_); refine goesL_ (some 13) rfl rfl Try.func35 (by kernel_rfl) rfl #[.agg #[.int .i64 a0_0, .int .i64 a0_1, .int .i64 a0_2, .slice A0_3 l0_3.length c0_3]] rfl q100_ ?_; (with_reducible refine (tilefarmref4_Valid.calls k a0_0 a0_1 a0_2 _ _ l0_3 true _ ?side1 ?side2 A4.out).mono ?_); (case side1 => repeat (first | exact (Kd.C_below HR0_3.out HB.out) | (with_reducible refine Kd.C_alloc ?_ _) | (with_reducible refine Kd.C_drewN ?_ _) | (with_reducible refine Kd.C_drew ?_))); (case side2 => exact HC0_3.out); rintro e w67 ⟨rfl, hb⟩; refine ⟨_, rfl, ?_⟩; have n0_ := Aside0.mk (blk_below (g := gb306) (o := .cells #[.int .i64 a0_0, .int .i64 a0_1, .int .i64 a0_2, .slice A0_3 l0_3.length c0_3] 26 (0, 0)) q128_ hb); have n1_ := Aside0.mk (blk_below (g := gb307) (o := .cells #[.int .i64 a2_0, .int .i64 a2_1, .int .i64 a2_2, .int .i64 a2_3] 39 (0, 0)) q129_ hb); have n2_ := Aside0.mk (below_step q69_ hb); clear BK306; clear BK307; clear HB; have BK306 := n0_; have BK307 := n1_; have HB := n2_; clear n0_ n1_ n2_; (try clear hb); (try clear hb2); (try clear hk); (try clear hi)) | ((with_reducible refine gate_callee (f := 31) rfl ?_); refine goesL_ (some 17) rfl rfl Try.func31 (by kernel_rfl) rfl #[.int .i64 a1] rfl q100_ ?_; (with_reducible refine (tilefarmref12_Bins.calls a1 false _ A6.out).mono ?_); rintro e w' ⟨rfl, ⟨nd, rfl⟩⟩; refine ⟨_, rfl, ?_⟩))
      go_ret2
      exact ⟨_, q152_, q97_, q69_⟩
  · replace c5 := Bool.eq_false_iff.mpr c5
    subst c5
    have H1 : (some (([] : List Int), 1)) = some (r1, r2) := by rw [if_neg (show ¬ (false = true) by decide)] at H; exact H
    clear H
    have H := H1
    clear H1
    simp only [Option.some.injEq, Prod.mk.injEq] at H
    obtain ⟨rfl, rfl⟩ := H
    go_enter Try.func22, Try.ntmps22
    go_wp2_with (first | ((with_reducible refine gate_dst (N := 3) rfl ?_); refine box_event ?hg (N := 3) ?hd (cs := #[.int .i64 a0_0, .int .i64 a0_1, .int .i64 a0_2, .slice A0_3 l0_3.length c0_3]) (t := 26) ?hr ?_; (case hd => rfl); (case hg => rfl); (case hr => first | (go_simp; done) | (go_simp; rfl)); intro gb306 hg w68 hbox hb; have n0_ := Aside0.mk (below_step q103_ hb); have n1_ := Aside0.mk (hbox); have n2_ := Aside0.mk ((q79_ : w.heap.size ≤ gb306)); have n3_ := Aside0.mk ((q79_ : w.heap.size ≤ gb306)); clear HB; have HB := n0_; have BK306 := n1_; have GW306 := n2_; have GE306 := n3_; clear n0_ n1_ n2_ n3_; clear hb hbox hg) | ((with_reducible refine gate_dst (N := 5) rfl ?_); refine box_event ?hg (N := 5) ?hd (cs := #[.int .i64 a2_0, .int .i64 a2_1, .int .i64 a2_2, .int .i64 a2_3]) (t := 39) ?hr ?_; (case hd => rfl); (case hg => rfl); (case hr => first | (go_simp; done) | (go_simp; rfl)); intro gb307 hg w69 hbox hb; have n0_ := Aside0.mk (blk_below (g := gb306) (o := .cells #[.int .i64 a0_0, .int .i64 a0_1, .int .i64 a0_2, .slice A0_3 l0_3.length c0_3] 26 (0, 0)) q128_ hb); have n1_ := Aside0.mk (below_step q93_ hb); have n2_ := Aside0.mk (hbox); have n3_ := Aside0.mk ((q60_ : w.heap.size ≤ gb307)); have n4_ := Aside0.mk ((q60_ : w.heap.size ≤ gb307)); have n5_ := Aside0.mk ((q10_ : gb306 ≠ gb307)); have n6_ := Aside0.mk ((q11_ : gb307 ≠ gb306)); clear BK306; clear HB; have BK306 := n0_; have HB := n1_; have BK307 := n2_; have GW307 := n3_; have GE307 := n4_; have NB306_307 := n5_; have NB307_306 := n6_; clear n0_ n1_ n2_ n3_ n4_ n5_ n6_; clear hb hbox hg; have hnb70 := NB306_307.out; have hnc70 := NB307_306.out; have hcz71_0 : w69.cell? ⟨gb306, 0, none⟩ = some (.int .i64 a0_0) := (blk_cell BK306.out 0).trans rfl; have hcz71_1 : w69.cell? ⟨gb306, 1, none⟩ = some (.int .i64 a0_1) := (blk_cell BK306.out 1).trans rfl; have hcz71_2 : w69.cell? ⟨gb306, 2, none⟩ = some (.int .i64 a0_2) := (blk_cell BK306.out 2).trans rfl; have hcz71_3 : w69.cell? ⟨gb306, 3, none⟩ = some (.slice A0_3 l0_3.length c0_3) := (blk_cell BK306.out 3).trans rfl; have hfz71_0 := blk_frozen BK306.out 0; have hfz71_1 := blk_frozen BK306.out 1; have hfz71_2 := blk_frozen BK306.out 2; have hfz71_3 := blk_frozen BK306.out 3) | ((with_reducible refine gate_callee (f := 35) rfl ?_); refine goesL_ (some 13) rfl rfl Try.func35 (by kernel_rfl) rfl #[.agg #[.int .i64 a0_0, .int .i64 a0_1, .int .i64 a0_2, .slice A0_3 l0_3.length c0_3]] rfl q100_ ?_; (with_reducible refine (tilefarmref4_Valid.calls k a0_0 a0_1 a0_2 _ _ l0_3 false _ ?side1 ?side2 A4.out).mono ?_); (case side1 => repeat (first | exact (Kd.C_below HR0_3.out HB.out) | (with_reducible refine Kd.C_alloc ?_ _) | (with_reducible refine Kd.C_drewN ?_ _) | (with_reducible refine Kd.C_drew ?_))); (case side2 => exact HC0_3.out); rintro e w72 ⟨rfl, hb⟩; refine ⟨_, rfl, ?_⟩; have n0_ := Aside0.mk (blk_below (g := gb306) (o := .cells #[.int .i64 a0_0, .int .i64 a0_1, .int .i64 a0_2, .slice A0_3 l0_3.length c0_3] 26 (0, 0)) q128_ hb); have n1_ := Aside0.mk (blk_below (g := gb307) (o := .cells #[.int .i64 a2_0, .int .i64 a2_1, .int .i64 a2_2, .int .i64 a2_3] 39 (0, 0)) q129_ hb); have n2_ := Aside0.mk (below_step q69_ hb); clear BK306; clear BK307; clear HB; have BK306 := n0_; have BK307 := n1_; have HB := n2_; clear n0_ n1_ n2_; (try clear hb); (try clear hb2); (try clear hk); (try clear hi)))
    go_ret2
    exact ⟨_, q152_, q97_, q69_⟩

end Go.Proofs.Yticicecobchdiaa.PHistogramCounts
