-- Written by a program of the session (wip/tools/myprint.py) over the kit's printer; checked by Lean.
import Derived.Test.YtikpmojofdndnaaPGridOrderx0
import Derived.Test.YtikpmojofdndnaaPGridOrderx2
import Derived.Test.YtikpmojofdndnaaPGridOrderx4
namespace Go.Proofs.Ytikpmojofdndnaa.PGridOrder
open Go.RowKit Go.Proofs.YtikpmojofdndnaaW.PrintWords Go.Proofs.YtikpmojofdndnaaW.PrintLast Go.Proofs.YtikpmojofdndnaaW.PrintMore
attribute [local go_sem] max2_int min2_int max_two min_two max_three min_three max_four min_four   -- for this text's walks alone
set_option linter.unusedVariables false
set_option linter.unusedSimpArgs false

/-! ### tilefarmlaw5_GridOrder: function 3 -/
def tilefarmlaw5_GridOrder.f (k : Nat) (a0 : Int) (a1 : Int) (a2 : Int) (a3 : Int) (a4 : Int) (a5 : Int) (a6 : Int) : Option (Bool) := (tilefarmgen_Mod.f a0 30).bind fun t151 => ((tilefarmgen_Mod.f a1 30).bind fun t152 => ((tilefarmgen_Mod.f a2 9).bind fun t153 => ((tilefarmgen_Mod.f a3 9).bind fun t154 => ((tilefarmgen_Mod.f a4 (wrap64 (1 + t151))).bind fun t155 => ((tilefarmgen_Mod.f a5 (wrap64 (1 + t152))).bind fun t156 => ((grid_Of.f k (wrap64 (1 + t151)) (wrap64 (1 + t152)) (wrap64 (1 + t153)) (wrap64 (1 + t154)) t155 t156).bind fun bt157 => ((tilefarmgen_Mod.f a6 12).bind fun t159 => ((grid_Of.f k (wrap64 (1 + t151)) (wrap64 (1 + t152)) (wrap64 (1 + t153)) (wrap64 (1 + t154)) (mn (wrap64 (t155 + t159)) (wrap64 ((wrap64 (1 + t151)) - 1))) t156).bind fun bt160 => ((tilefarmgen_Mod.f a6 12).bind fun t162 => ((grid_Of.f k (wrap64 (1 + t151)) (wrap64 (1 + t152)) (wrap64 (1 + t153)) (wrap64 (1 + t154)) t155 (mn (wrap64 (t156 + t162)) (wrap64 ((wrap64 (1 + t152)) - 1)))).bind fun bt163 => ((grid_Count.f k (wrap64 (1 + t151)) (wrap64 (1 + t152)) (wrap64 (1 + t153)) (wrap64 (1 + t154))).bind fun bt165 => (if bt157.2 = true then (if bt160.2 = true then (if bt163.2 = true then (if bt160.1 ≥ bt157.1 then (if (wrap64 (bt160.1 - bt157.1)) < bt165.1 then (if bt163.1 ≥ bt157.1 then (if bt165.1 = 0 then (if (wrap64 (1 + t154)) = 0 then (none) else ((tilefarmgen_Mod.f a6 12).bind fun t167 => (if ((bt163.1 == bt157.1) == ((wrap64 (Int.tdiv t156 (wrap64 (1 + t154)))) == (wrap64 (Int.tdiv (mn (wrap64 (t156 + t167)) (wrap64 ((wrap64 (1 + t152)) - 1))) (wrap64 (1 + t154)))))) = true then ((tilefarmlaw5_sane.f k).bind fun t168 => (some t168)) else (some false)))) else (if (Int.tmod (wrap64 (bt163.1 - bt157.1)) bt165.1) = 0 then (if (wrap64 (1 + t154)) = 0 then (none) else ((tilefarmgen_Mod.f a6 12).bind fun t169 => (if ((bt163.1 == bt157.1) == ((wrap64 (Int.tdiv t156 (wrap64 (1 + t154)))) == (wrap64 (Int.tdiv (mn (wrap64 (t156 + t169)) (wrap64 ((wrap64 (1 + t152)) - 1))) (wrap64 (1 + t154)))))) = true then ((tilefarmlaw5_sane.f k).bind fun t170 => (some t170)) else (some false)))) else (some false))) else (some false)) else (some false)) else (some false)) else (some false)) else (some false)) else (some false)))))))))))))
theorem tilefarmlaw5_GridOrder.mono : ∀ a0 a1 a2 a3 a4 a5 a6 k, LeO (tilefarmlaw5_GridOrder.f k a0 a1 a2 a3 a4 a5 a6) (tilefarmlaw5_GridOrder.f (k + 1) a0 a1 a2 a3 a4 a5 a6) := by
  intro a0 a1 a2 a3 a4 a5 a6 k
  unfold tilefarmlaw5_GridOrder.f
  repeat' first
      | (with_reducible exact grid_Count.mono _ _ _ _ _)
      | (with_reducible exact grid_Of.mono _ _ _ _ _ _ _)
      | (with_reducible exact tilefarmlaw5_sane.mono _)
      | (with_reducible exact LeO.refl _)
      | (with_reducible exact LeO.none _)
      | (with_reducible refine LeO.ite ?_ ?_)
      | (with_reducible refine LeO.bind ?_ (fun _ => ?_))
      | exact grid_Count.mono _ _ _ _ _
      | exact grid_Of.mono _ _ _ _ _ _ _
      | exact tilefarmlaw5_sane.mono _
      | exact LeO.none _
      | refine LeO.ite ?_ ?_
      | refine LeO.bind ?_ (fun _ => ?_)
def tilefarmlaw5_GridOrder.T7 : Bool × List (List Nat × List Nat) := (true, [([], []), ([0], [0]), ([1], [1]), ([1, 2], [1, 2]), ([3, 1], [3]), ([4], [4]), ([4, 5], [4, 5]), ([6, 4], [6]), ([7], [7]), ([7], [7]), ([8, 9, 7], [7, 8, 9]), ([7, 10], [7, 10]), ([11, 7], [11]), ([12], [12]), ([12], [12]), ([13, 14, 12], [12, 13, 14]), ([12], [12]), ([15, 16, 12], [12, 15, 16]), ([12, 17], [12, 17]), ([18, 12], [18]), ([19], [19]), ([19], [19]), ([20, 21, 19], [19, 20, 21]), ([19, 22], [19, 22]), ([23, 19], [23]), ([24], [24]), ([25, 24], [24, 25]), ([26, 24, 24], [24, 26]), ([27], [27]), ([27], [27]), ([28, 29, 27], [27, 28, 29]), ([27], [27]), ([30, 31, 27], [27, 30, 31]), ([32, 27], [27, 32]), ([27, 33, 24], [24, 27, 33]), ([24, 34], [24, 34]), ([35, 27], [35]), ([36], [36]), ([36], [36]), ([37, 38, 36], [36, 37, 38]), ([36], [36]), ([36], [36]), ([40, 41, 36], [36, 40, 41]), ([36], [36]), ([36], [36]), ([44, 36, 36], [36, 44]), ([43, 45, 36], [36, 43, 45]), ([36], [36]), ([47, 36], [36, 47]), ([46, 48, 36], [36, 46, 48]), ([36], [36]), ([49, 50, 36], [36, 49, 50]), ([42, 51, 36], [36, 42, 51]), ([39, 52, 36], [36, 39, 52]), ([36, 53], [36, 53]), ([54, 45], [54]), ([55, 55], [55]), ([55, 56], [55, 56]), ([57, 56, 0, 1, 2, 3, 4, 5, 6, 7, 8, 9, 10, 11, 12, 13, 14, 15, 16, 17, 18, 19, 20, 21, 22, 23, 24, 25, 26, 27, 28, 29, 30, 31, 32, 33, 34, 35, 36, 37, 38, 39, 40, 41, 42, 43, 44, 45, 46, 47, 48, 49, 50, 51, 52, 53, 54, 55, 56, 57], [57])])
def tilefarmlaw5_GridOrder.B7 : List Nat := [0, 1, 3, 7, 15, 31, 63, 127, 255, 255, 1023, 2047, 4095, 8191, 8191, 32767, 8191, 131071, 262143, 524287, 1048575, 1048575, 4194303, 8388607, 16777215, 33554431, 67108863, 134217727, 268435455, 268435455, 1073741823, 268435455, 4294967295, 8589934591, 17179869183, 34359738367, 68719476735, 137438953471, 137438953471, 549755813887, 137438953471, 137438953471, 3435973836799, 137438953471, 137438953471, 17729624997887, 61710090108927, 137438953471, 140874927308799, 554291299352575, 137438953471, 2243141159616511, 4502637554696191, 9007199254740991, 18014398509481983, 36028797018963967, 72057594037927935, 144115188075855871, 288230376151711743]
theorem tilefarmlaw5_GridOrder.tab7 : rtab .any (opsOf Try.f3 7) = tilefarmlaw5_GridOrder.T7 := by kernel_rfl
theorem tilefarmlaw5_GridOrder.bits7 : waitsOk tilefarmlaw5_GridOrder.T7.2 tilefarmlaw5_GridOrder.B7 = true := by kernel_rfl
set_option maxHeartbeats 8000000 in
set_option maxRecDepth 100000 in
theorem tilefarmlaw5_GridOrder.calls (k : Nat) (a0 : Int) (a1 : Int) (a2 : Int) (a3 : Int) (a4 : Int) (a5 : Int) (a6 : Int) (r : Bool) (w : World) (h : tilefarmlaw5_GridOrder.f k a0 a1 a2 a3 a4 a5 a6 = some r) (hT : r = true := by first | rfl | assumption) :
    Calls Try.prog 3 #[.int .i64 a0, .int .i64 a1, .int .i64 a2, .int .i64 a3, .int .i64 a4, .int .i64 a5, .int .i64 a6] w fun e w' => e = .returned (.bool r) ∧ Below w.heap.size w w' := by
  have HT := Aside0.mk hT
  clear hT
  have HB := Aside0.mk (Below.refl w.heap.size w)
  have H : ((tilefarmgen_Mod.f a0 30).bind fun t151 => ((tilefarmgen_Mod.f a1 30).bind fun t152 => ((tilefarmgen_Mod.f a2 9).bind fun t153 => ((tilefarmgen_Mod.f a3 9).bind fun t154 => ((tilefarmgen_Mod.f a4 (wrap64 (1 + t151))).bind fun t155 => ((tilefarmgen_Mod.f a5 (wrap64 (1 + t152))).bind fun t156 => ((grid_Of.f k (wrap64 (1 + t151)) (wrap64 (1 + t152)) (wrap64 (1 + t153)) (wrap64 (1 + t154)) t155 t156).bind fun bt157 => ((tilefarmgen_Mod.f a6 12).bind fun t159 => ((grid_Of.f k (wrap64 (1 + t151)) (wrap64 (1 + t152)) (wrap64 (1 + t153)) (wrap64 (1 + t154)) (mn (wrap64 (t155 + t159)) (wrap64 ((wrap64 (1 + t151)) - 1))) t156).bind fun bt160 => ((tilefarmgen_Mod.f a6 12).bind fun t162 => ((grid_Of.f k (wrap64 (1 + t151)) (wrap64 (1 + t152)) (wrap64 (1 + t153)) (wrap64 (1 + t154)) t155 (mn (wrap64 (t156 + t162)) (wrap64 ((wrap64 (1 + t152)) - 1)))).bind fun bt163 => ((grid_Count.f k (wrap64 (1 + t151)) (wrap64 (1 + t152)) (wrap64 (1 + t153)) (wrap64 (1 + t154))).bind fun bt165 => (if bt157.2 = true then (if bt160.2 = true then (if bt163.2 = true then (if bt160.1 ≥ bt157.1 then (if (wrap64 (bt160.1 - bt157.1)) < bt165.1 then (if bt163.1 ≥ bt157.1 then (if bt165.1 = 0 then (if (wrap64 (1 + t154)) = 0 then (none) else ((tilefarmgen_Mod.f a6 12).bind fun t167 => (if ((bt163.1 == bt157.1) == ((wrap64 (Int.tdiv t156 (wrap64 (1 + t154)))) == (wrap64 (Int.tdiv (mn (wrap64 (t156 + t167)) (wrap64 ((wrap64 (1 + t152)) - 1))) (wrap64 (1 + t154)))))) = true then ((tilefarmlaw5_sane.f k).bind fun t168 => (some t168)) else (some false)))) else (if (Int.tmod (wrap64 (bt163.1 - bt157.1)) bt165.1) = 0 then (if (wrap64 (1 + t154)) = 0 then (none) else ((tilefarmgen_Mod.f a6 12).bind fun t169 => (if ((bt163.1 == bt157.1) == ((wrap64 (Int.tdiv t156 (wrap64 (1 + t154)))) == (wrap64 (Int.tdiv (mn (wrap64 (t156 + t169)) (wrap64 ((wrap64 (1 + t152)) - 1))) (wrap64 (1 + t154)))))) = true then ((tilefarmlaw5_sane.f k).bind fun t170 => (some t170)) else (some false)))) else (some false))) else (some false)) else (some false)) else (some false)) else (some false)) else (some false)) else (some false)))))))))))))) = some r := h
  clear h
  replace H := Option.bind_eq_some_iff.mp H
  obtain ⟨t151, A80, H⟩ := H
  replace H : ((tilefarmgen_Mod.f a1 30).bind fun t152 => ((tilefarmgen_Mod.f a2 9).bind fun t153 => ((tilefarmgen_Mod.f a3 9).bind fun t154 => ((tilefarmgen_Mod.f a4 (wrap64 (1 + t151))).bind fun t155 => ((tilefarmgen_Mod.f a5 (wrap64 (1 + t152))).bind fun t156 => ((grid_Of.f k (wrap64 (1 + t151)) (wrap64 (1 + t152)) (wrap64 (1 + t153)) (wrap64 (1 + t154)) t155 t156).bind fun bt157 => ((tilefarmgen_Mod.f a6 12).bind fun t159 => ((grid_Of.f k (wrap64 (1 + t151)) (wrap64 (1 + t152)) (wrap64 (1 + t153)) (wrap64 (1 + t154)) (mn (wrap64 (t155 + t159)) (wrap64 ((wrap64 (1 + t151)) - 1))) t156).bind fun bt160 => ((tilefarmgen_Mod.f a6 12).bind fun t162 => ((grid_Of.f k (wrap64 (1 + t151)) (wrap64 (1 + t152)) (wrap64 (1 + t153)) (wrap64 (1 + t154)) t155 (mn (wrap64 (t156 + t162)) (wrap64 ((wrap64 (1 + t152)) - 1)))).bind fun bt163 => ((grid_Count.f k (wrap64 (1 + t151)) (wrap64 (1 + t152)) (wrap64 (1 + t153)) (wrap64 (1 + t154))).bind fun bt165 => (if bt157.2 = true then (if bt160.2 = true then (if bt163.2 = true then (if bt160.1 ≥ bt157.1 then (if (wrap64 (bt160.1 - bt157.1)) < bt165.1 then (if bt163.1 ≥ bt157.1 then (if bt165.1 = 0 then (if (wrap64 (1 + t154)) = 0 then (none) else ((tilefarmgen_Mod.f a6 12).bind fun t167 => (if ((bt163.1 == bt157.1) == ((wrap64 (Int.tdiv t156 (wrap64 (1 + t154)))) == (wrap64 (Int.tdiv (mn (wrap64 (t156 + t167)) (wrap64 ((wrap64 (1 + t152)) - 1))) (wrap64 (1 + t154)))))) = true then ((tilefarmlaw5_sane.f k).bind fun t168 => (some t168)) else (some false)))) else (if (Int.tmod (wrap64 (bt163.1 - bt157.1)) bt165.1) = 0 then (if (wrap64 (1 + t154)) = 0 then (none) else ((tilefarmgen_Mod.f a6 12).bind fun t169 => (if ((bt163.1 == bt157.1) == ((wrap64 (Int.tdiv t156 (wrap64 (1 + t154)))) == (wrap64 (Int.tdiv (mn (wrap64 (t156 + t169)) (wrap64 ((wrap64 (1 + t152)) - 1))) (wrap64 (1 + t154)))))) = true then ((tilefarmlaw5_sane.f k).bind fun t170 => (some t170)) else (some false)))) else (some false))) else (some false)) else (some false)) else (some false)) else (some false)) else (some false)) else (some false))))))))))))) = some r := H
  have A8 := Aside0.mk A80
  clear A80
  replace H := Option.bind_eq_some_iff.mp H
  obtain ⟨t152, A90, H⟩ := H
  replace H : ((tilefarmgen_Mod.f a2 9).bind fun t153 => ((tilefarmgen_Mod.f a3 9).bind fun t154 => ((tilefarmgen_Mod.f a4 (wrap64 (1 + t151))).bind fun t155 => ((tilefarmgen_Mod.f a5 (wrap64 (1 + t152))).bind fun t156 => ((grid_Of.f k (wrap64 (1 + t151)) (wrap64 (1 + t152)) (wrap64 (1 + t153)) (wrap64 (1 + t154)) t155 t156).bind fun bt157 => ((tilefarmgen_Mod.f a6 12).bind fun t159 => ((grid_Of.f k (wrap64 (1 + t151)) (wrap64 (1 + t152)) (wrap64 (1 + t153)) (wrap64 (1 + t154)) (mn (wrap64 (t155 + t159)) (wrap64 ((wrap64 (1 + t151)) - 1))) t156).bind fun bt160 => ((tilefarmgen_Mod.f a6 12).bind fun t162 => ((grid_Of.f k (wrap64 (1 + t151)) (wrap64 (1 + t152)) (wrap64 (1 + t153)) (wrap64 (1 + t154)) t155 (mn (wrap64 (t156 + t162)) (wrap64 ((wrap64 (1 + t152)) - 1)))).bind fun bt163 => ((grid_Count.f k (wrap64 (1 + t151)) (wrap64 (1 + t152)) (wrap64 (1 + t153)) (wrap64 (1 + t154))).bind fun bt165 => (if bt157.2 = true then (if bt160.2 = true then (if bt163.2 = true then (if bt160.1 ≥ bt157.1 then (if (wrap64 (bt160.1 - bt157.1)) < bt165.1 then (if bt163.1 ≥ bt157.1 then (if bt165.1 = 0 then (if (wrap64 (1 + t154)) = 0 then (none) else ((tilefarmgen_Mod.f a6 12).bind fun t167 => (if ((bt163.1 == bt157.1) == ((wrap64 (Int.tdiv t156 (wrap64 (1 + t154)))) == (wrap64 (Int.tdiv (mn (wrap64 (t156 + t167)) (wrap64 ((wrap64 (1 + t152)) - 1))) (wrap64 (1 + t154)))))) = true then ((tilefarmlaw5_sane.f k).bind fun t168 => (some t168)) else (some false)))) else (if (Int.tmod (wrap64 (bt163.1 - bt157.1)) bt165.1) = 0 then (if (wrap64 (1 + t154)) = 0 then (none) else ((tilefarmgen_Mod.f a6 12).bind fun t169 => (if ((bt163.1 == bt157.1) == ((wrap64 (Int.tdiv t156 (wrap64 (1 + t154)))) == (wrap64 (Int.tdiv (mn (wrap64 (t156 + t169)) (wrap64 ((wrap64 (1 + t152)) - 1))) (wrap64 (1 + t154)))))) = true then ((tilefarmlaw5_sane.f k).bind fun t170 => (some t170)) else (some false)))) else (some false))) else (some false)) else (some false)) else (some false)) else (some false)) else (some false)) else (some false)))))))))))) = some r := H
  have A9 := Aside0.mk A90
  clear A90
  replace H := Option.bind_eq_some_iff.mp H
  obtain ⟨t153, A100, H⟩ := H
  replace H : ((tilefarmgen_Mod.f a3 9).bind fun t154 => ((tilefarmgen_Mod.f a4 (wrap64 (1 + t151))).bind fun t155 => ((tilefarmgen_Mod.f a5 (wrap64 (1 + t152))).bind fun t156 => ((grid_Of.f k (wrap64 (1 + t151)) (wrap64 (1 + t152)) (wrap64 (1 + t153)) (wrap64 (1 + t154)) t155 t156).bind fun bt157 => ((tilefarmgen_Mod.f a6 12).bind fun t159 => ((grid_Of.f k (wrap64 (1 + t151)) (wrap64 (1 + t152)) (wrap64 (1 + t153)) (wrap64 (1 + t154)) (mn (wrap64 (t155 + t159)) (wrap64 ((wrap64 (1 + t151)) - 1))) t156).bind fun bt160 => ((tilefarmgen_Mod.f a6 12).bind fun t162 => ((grid_Of.f k (wrap64 (1 + t151)) (wrap64 (1 + t152)) (wrap64 (1 + t153)) (wrap64 (1 + t154)) t155 (mn (wrap64 (t156 + t162)) (wrap64 ((wrap64 (1 + t152)) - 1)))).bind fun bt163 => ((grid_Count.f k (wrap64 (1 + t151)) (wrap64 (1 + t152)) (wrap64 (1 + t153)) (wrap64 (1 + t154))).bind fun bt165 => (if bt157.2 = true then (if bt160.2 = true then (if bt163.2 = true then (if bt160.1 ≥ bt157.1 then (if (wrap64 (bt160.1 - bt157.1)) < bt165.1 then (if bt163.1 ≥ bt157.1 then (if bt165.1 = 0 then (if (wrap64 (1 + t154)) = 0 then (none) else ((tilefarmgen_Mod.f a6 12).bind fun t167 => (if ((bt163.1 == bt157.1) == ((wrap64 (Int.tdiv t156 (wrap64 (1 + t154)))) == (wrap64 (Int.tdiv (mn (wrap64 (t156 + t167)) (wrap64 ((wrap64 (1 + t152)) - 1))) (wrap64 (1 + t154)))))) = true then ((tilefarmlaw5_sane.f k).bind fun t168 => (some t168)) else (some false)))) else (if (Int.tmod (wrap64 (bt163.1 - bt157.1)) bt165.1) = 0 then (if (wrap64 (1 + t154)) = 0 then (none) else ((tilefarmgen_Mod.f a6 12).bind fun t169 => (if ((bt163.1 == bt157.1) == ((wrap64 (Int.tdiv t156 (wrap64 (1 + t154)))) == (wrap64 (Int.tdiv (mn (wrap64 (t156 + t169)) (wrap64 ((wrap64 (1 + t152)) - 1))) (wrap64 (1 + t154)))))) = true then ((tilefarmlaw5_sane.f k).bind fun t170 => (some t170)) else (some false)))) else (some false))) else (some false)) else (some false)) else (some false)) else (some false)) else (some false)) else (some false))))))))))) = some r := H
  have A10 := Aside0.mk A100
  clear A100
  replace H := Option.bind_eq_some_iff.mp H
  obtain ⟨t154, A110, H⟩ := H
  replace H : ((tilefarmgen_Mod.f a4 (wrap64 (1 + t151))).bind fun t155 => ((tilefarmgen_Mod.f a5 (wrap64 (1 + t152))).bind fun t156 => ((grid_Of.f k (wrap64 (1 + t151)) (wrap64 (1 + t152)) (wrap64 (1 + t153)) (wrap64 (1 + t154)) t155 t156).bind fun bt157 => ((tilefarmgen_Mod.f a6 12).bind fun t159 => ((grid_Of.f k (wrap64 (1 + t151)) (wrap64 (1 + t152)) (wrap64 (1 + t153)) (wrap64 (1 + t154)) (mn (wrap64 (t155 + t159)) (wrap64 ((wrap64 (1 + t151)) - 1))) t156).bind fun bt160 => ((tilefarmgen_Mod.f a6 12).bind fun t162 => ((grid_Of.f k (wrap64 (1 + t151)) (wrap64 (1 + t152)) (wrap64 (1 + t153)) (wrap64 (1 + t154)) t155 (mn (wrap64 (t156 + t162)) (wrap64 ((wrap64 (1 + t152)) - 1)))).bind fun bt163 => ((grid_Count.f k (wrap64 (1 + t151)) (wrap64 (1 + t152)) (wrap64 (1 + t153)) (wrap64 (1 + t154))).bind fun bt165 => (if bt157.2 = true then (if bt160.2 = true then (if bt163.2 = true then (if bt160.1 ≥ bt157.1 then (if (wrap64 (bt160.1 - bt157.1)) < bt165.1 then (if bt163.1 ≥ bt157.1 then (if bt165.1 = 0 then (if (wrap64 (1 + t154)) = 0 then (none) else ((tilefarmgen_Mod.f a6 12).bind fun t167 => (if ((bt163.1 == bt157.1) == ((wrap64 (Int.tdiv t156 (wrap64 (1 + t154)))) == (wrap64 (Int.tdiv (mn (wrap64 (t156 + t167)) (wrap64 ((wrap64 (1 + t152)) - 1))) (wrap64 (1 + t154)))))) = true then ((tilefarmlaw5_sane.f k).bind fun t168 => (some t168)) else (some false)))) else (if (Int.tmod (wrap64 (bt163.1 - bt157.1)) bt165.1) = 0 then (if (wrap64 (1 + t154)) = 0 then (none) else ((tilefarmgen_Mod.f a6 12).bind fun t169 => (if ((bt163.1 == bt157.1) == ((wrap64 (Int.tdiv t156 (wrap64 (1 + t154)))) == (wrap64 (Int.tdiv (mn (wrap64 (t156 + t169)) (wrap64 ((wrap64 (1 + t152)) - 1))) (wrap64 (1 + t154)))))) = true then ((tilefarmlaw5_sane.f k).bind fun t170 => (some t170)) else (some false)))) else (some false))) else (some false)) else (some false)) else (some false)) else (some false)) else (some false)) else (some false)))))))))) = some r := H
  have A11 := Aside0.mk A110
  clear A110
  replace H := Option.bind_eq_some_iff.mp H
  obtain ⟨t155, A120, H⟩ := H
  replace H : ((tilefarmgen_Mod.f a5 (wrap64 (1 + t152))).bind fun t156 => ((grid_Of.f k (wrap64 (1 + t151)) (wrap64 (1 + t152)) (wrap64 (1 + t153)) (wrap64 (1 + t154)) t155 t156).bind fun bt157 => ((tilefarmgen_Mod.f a6 12).bind fun t159 => ((grid_Of.f k (wrap64 (1 + t151)) (wrap64 (1 + t152)) (wrap64 (1 + t153)) (wrap64 (1 + t154)) (mn (wrap64 (t155 + t159)) (wrap64 ((wrap64 (1 + t151)) - 1))) t156).bind fun bt160 => ((tilefarmgen_Mod.f a6 12).bind fun t162 => ((grid_Of.f k (wrap64 (1 + t151)) (wrap64 (1 + t152)) (wrap64 (1 + t153)) (wrap64 (1 + t154)) t155 (mn (wrap64 (t156 + t162)) (wrap64 ((wrap64 (1 + t152)) - 1)))).bind fun bt163 => ((grid_Count.f k (wrap64 (1 + t151)) (wrap64 (1 + t152)) (wrap64 (1 + t153)) (wrap64 (1 + t154))).bind fun bt165 => (if bt157.2 = true then (if bt160.2 = true then (if bt163.2 = true then (if bt160.1 ≥ bt157.1 then (if (wrap64 (bt160.1 - bt157.1)) < bt165.1 then (if bt163.1 ≥ bt157.1 then (if bt165.1 = 0 then (if (wrap64 (1 + t154)) = 0 then (none) else ((tilefarmgen_Mod.f a6 12).bind fun t167 => (if ((bt163.1 == bt157.1) == ((wrap64 (Int.tdiv t156 (wrap64 (1 + t154)))) == (wrap64 (Int.tdiv (mn (wrap64 (t156 + t167)) (wrap64 ((wrap64 (1 + t152)) - 1))) (wrap64 (1 + t154)))))) = true then ((tilefarmlaw5_sane.f k).bind fun t168 => (some t168)) else (some false)))) else (if (Int.tmod (wrap64 (bt163.1 - bt157.1)) bt165.1) = 0 then (if (wrap64 (1 + t154)) = 0 then (none) else ((tilefarmgen_Mod.f a6 12).bind fun t169 => (if ((bt163.1 == bt157.1) == ((wrap64 (Int.tdiv t156 (wrap64 (1 + t154)))) == (wrap64 (Int.tdiv (mn (wrap64 (t156 + t169)) (wrap64 ((wrap64 (1 + t152)) - 1))) (wrap64 (1 + t154)))))) = true then ((tilefarmlaw5_sane.f k).bind fun t170 => (some t170)) else (some false)))) else (some false))) else (some false)) else (some false)) else (some false)) else (some false)) else (some false)) else (some false))))))))) = some r := H
  have A12 := Aside0.mk A120
  clear A120
  replace H := Option.bind_eq_some_iff.mp H
  obtain ⟨t156, A130, H⟩ := H
  replace H : ((grid_Of.f k (wrap64 (1 + t151)) (wrap64 (1 + t152)) (wrap64 (1 + t153)) (wrap64 (1 + t154)) t155 t156).bind fun bt157 => ((tilefarmgen_Mod.f a6 12).bind fun t159 => ((grid_Of.f k (wrap64 (1 + t151)) (wrap64 (1 + t152)) (wrap64 (1 + t153)) (wrap64 (1 + t154)) (mn (wrap64 (t155 + t159)) (wrap64 ((wrap64 (1 + t151)) - 1))) t156).bind fun bt160 => ((tilefarmgen_Mod.f a6 12).bind fun t162 => ((grid_Of.f k (wrap64 (1 + t151)) (wrap64 (1 + t152)) (wrap64 (1 + t153)) (wrap64 (1 + t154)) t155 (mn (wrap64 (t156 + t162)) (wrap64 ((wrap64 (1 + t152)) - 1)))).bind fun bt163 => ((grid_Count.f k (wrap64 (1 + t151)) (wrap64 (1 + t152)) (wrap64 (1 + t153)) (wrap64 (1 + t154))).bind fun bt165 => (if bt157.2 = true then (if bt160.2 = true then (if bt163.2 = true then (if bt160.1 ≥ bt157.1 then (if (wrap64 (bt160.1 - bt157.1)) < bt165.1 then (if bt163.1 ≥ bt157.1 then (if bt165.1 = 0 then (if (wrap64 (1 + t154)) = 0 then (none) else ((tilefarmgen_Mod.f a6 12).bind fun t167 => (if ((bt163.1 == bt157.1) == ((wrap64 (Int.tdiv t156 (wrap64 (1 + t154)))) == (wrap64 (Int.tdiv (mn (wrap64 (t156 + t167)) (wrap64 ((wrap64 (1 + t152)) - 1))) (wrap64 (1 + t154)))))) = true then ((tilefarmlaw5_sane.f k).bind fun t168 => (some t168)) else (some false)))) else (if (Int.tmod (wrap64 (bt163.1 - bt157.1)) bt165.1) = 0 then (if (wrap64 (1 + t154)) = 0 then (none) else ((tilefarmgen_Mod.f a6 12).bind fun t169 => (if ((bt163.1 == bt157.1) == ((wrap64 (Int.tdiv t156 (wrap64 (1 + t154)))) == (wrap64 (Int.tdiv (mn (wrap64 (t156 + t169)) (wrap64 ((wrap64 (1 + t152)) - 1))) (wrap64 (1 + t154)))))) = true then ((tilefarmlaw5_sane.f k).bind fun t170 => (some t170)) else (some false)))) else (some false))) else (some false)) else (some false)) else (some false)) else (some false)) else (some false)) else (some false)))))))) = some r := H
  have A13 := Aside0.mk A130
  clear A130
  replace H := Option.bind_eq_some_iff.mp H
  obtain ⟨⟨t157, t158⟩, A140, H⟩ := H
  replace H : ((tilefarmgen_Mod.f a6 12).bind fun t159 => ((grid_Of.f k (wrap64 (1 + t151)) (wrap64 (1 + t152)) (wrap64 (1 + t153)) (wrap64 (1 + t154)) (mn (wrap64 (t155 + t159)) (wrap64 ((wrap64 (1 + t151)) - 1))) t156).bind fun bt160 => ((tilefarmgen_Mod.f a6 12).bind fun t162 => ((grid_Of.f k (wrap64 (1 + t151)) (wrap64 (1 + t152)) (wrap64 (1 + t153)) (wrap64 (1 + t154)) t155 (mn (wrap64 (t156 + t162)) (wrap64 ((wrap64 (1 + t152)) - 1)))).bind fun bt163 => ((grid_Count.f k (wrap64 (1 + t151)) (wrap64 (1 + t152)) (wrap64 (1 + t153)) (wrap64 (1 + t154))).bind fun bt165 => (if t158 = true then (if bt160.2 = true then (if bt163.2 = true then (if bt160.1 ≥ t157 then (if (wrap64 (bt160.1 - t157)) < bt165.1 then (if bt163.1 ≥ t157 then (if bt165.1 = 0 then (if (wrap64 (1 + t154)) = 0 then (none) else ((tilefarmgen_Mod.f a6 12).bind fun t167 => (if ((bt163.1 == t157) == ((wrap64 (Int.tdiv t156 (wrap64 (1 + t154)))) == (wrap64 (Int.tdiv (mn (wrap64 (t156 + t167)) (wrap64 ((wrap64 (1 + t152)) - 1))) (wrap64 (1 + t154)))))) = true then ((tilefarmlaw5_sane.f k).bind fun t168 => (some t168)) else (some false)))) else (if (Int.tmod (wrap64 (bt163.1 - t157)) bt165.1) = 0 then (if (wrap64 (1 + t154)) = 0 then (none) else ((tilefarmgen_Mod.f a6 12).bind fun t169 => (if ((bt163.1 == t157) == ((wrap64 (Int.tdiv t156 (wrap64 (1 + t154)))) == (wrap64 (Int.tdiv (mn (wrap64 (t156 + t169)) (wrap64 ((wrap64 (1 + t152)) - 1))) (wrap64 (1 + t154)))))) = true then ((tilefarmlaw5_sane.f k).bind fun t170 => (some t170)) else (some false)))) else (some false))) else (some false)) else (some false)) else (some false)) else (some false)) else (some false)) else (some false))))))) = some r := H
  have A14 := Aside0.mk A140
  clear A140
  replace H := Option.bind_eq_some_iff.mp H
  obtain ⟨t159, A150, H⟩ := H
  replace H : ((grid_Of.f k (wrap64 (1 + t151)) (wrap64 (1 + t152)) (wrap64 (1 + t153)) (wrap64 (1 + t154)) (mn (wrap64 (t155 + t159)) (wrap64 ((wrap64 (1 + t151)) - 1))) t156).bind fun bt160 => ((tilefarmgen_Mod.f a6 12).bind fun t162 => ((grid_Of.f k (wrap64 (1 + t151)) (wrap64 (1 + t152)) (wrap64 (1 + t153)) (wrap64 (1 + t154)) t155 (mn (wrap64 (t156 + t162)) (wrap64 ((wrap64 (1 + t152)) - 1)))).bind fun bt163 => ((grid_Count.f k (wrap64 (1 + t151)) (wrap64 (1 + t152)) (wrap64 (1 + t153)) (wrap64 (1 + t154))).bind fun bt165 => (if t158 = true then (if bt160.2 = true then (if bt163.2 = true then (if bt160.1 ≥ t157 then (if (wrap64 (bt160.1 - t157)) < bt165.1 then (if bt163.1 ≥ t157 then (if bt165.1 = 0 then (if (wrap64 (1 + t154)) = 0 then (none) else ((tilefarmgen_Mod.f a6 12).bind fun t167 => (if ((bt163.1 == t157) == ((wrap64 (Int.tdiv t156 (wrap64 (1 + t154)))) == (wrap64 (Int.tdiv (mn (wrap64 (t156 + t167)) (wrap64 ((wrap64 (1 + t152)) - 1))) (wrap64 (1 + t154)))))) = true then ((tilefarmlaw5_sane.f k).bind fun t168 => (some t168)) else (some false)))) else (if (Int.tmod (wrap64 (bt163.1 - t157)) bt165.1) = 0 then (if (wrap64 (1 + t154)) = 0 then (none) else ((tilefarmgen_Mod.f a6 12).bind fun t169 => (if ((bt163.1 == t157) == ((wrap64 (Int.tdiv t156 (wrap64 (1 + t154)))) == (wrap64 (Int.tdiv (mn (wrap64 (t156 + t169)) (wrap64 ((wrap64 (1 + t152)) - 1))) (wrap64 (1 + t154)))))) = true then ((tilefarmlaw5_sane.f k).bind fun t170 => (some t170)) else (some false)))) else (some false))) else (some false)) else (some false)) else (some false)) else (some false)) else (some false)) else (some false)))))) = some r := H
  have A15 := Aside0.mk A150
  clear A150
  obtain ⟨ji16, hji16⟩ : ∃ j_ : Int, (mn (wrap64 (t155 + t159)) (wrap64 ((wrap64 (1 + t151)) - 1))) = j_ := ⟨_, rfl⟩
  replace H : ((grid_Of.f k (wrap64 (1 + t151)) (wrap64 (1 + t152)) (wrap64 (1 + t153)) (wrap64 (1 + t154)) (ji16) t156).bind fun bt160 => ((tilefarmgen_Mod.f a6 12).bind fun t162 => ((grid_Of.f k (wrap64 (1 + t151)) (wrap64 (1 + t152)) (wrap64 (1 + t153)) (wrap64 (1 + t154)) t155 (mn (wrap64 (t156 + t162)) (wrap64 ((wrap64 (1 + t152)) - 1)))).bind fun bt163 => ((grid_Count.f k (wrap64 (1 + t151)) (wrap64 (1 + t152)) (wrap64 (1 + t153)) (wrap64 (1 + t154))).bind fun bt165 => (if t158 = true then (if bt160.2 = true then (if bt163.2 = true then (if bt160.1 ≥ t157 then (if (wrap64 (bt160.1 - t157)) < bt165.1 then (if bt163.1 ≥ t157 then (if bt165.1 = 0 then (if (wrap64 (1 + t154)) = 0 then (none) else ((tilefarmgen_Mod.f a6 12).bind fun t167 => (if ((bt163.1 == t157) == ((wrap64 (Int.tdiv t156 (wrap64 (1 + t154)))) == (wrap64 (Int.tdiv (mn (wrap64 (t156 + t167)) (wrap64 ((wrap64 (1 + t152)) - 1))) (wrap64 (1 + t154)))))) = true then ((tilefarmlaw5_sane.f k).bind fun t168 => (some t168)) else (some false)))) else (if (Int.tmod (wrap64 (bt163.1 - t157)) bt165.1) = 0 then (if (wrap64 (1 + t154)) = 0 then (none) else ((tilefarmgen_Mod.f a6 12).bind fun t169 => (if ((bt163.1 == t157) == ((wrap64 (Int.tdiv t156 (wrap64 (1 + t154)))) == (wrap64 (Int.tdiv (mn (wrap64 (t156 + t169)) (wrap64 ((wrap64 (1 + t152)) - 1))) (wrap64 (1 + t154)))))) = true then ((tilefarmlaw5_sane.f k).bind fun t170 => (some t170)) else (some false)))) else (some false))) else (some false)) else (some false)) else (some false)) else (some false)) else (some false)) else (some false)))))) = some r := by first | (rw [hji16] at H; exact H) | (simp only [hji16] at H ⊢; exact H)
  (try rw [hji16] at A8)
  (try rw [hji16] at A9)
  (try rw [hji16] at A10)
  (try rw [hji16] at A11)
  (try rw [hji16] at A12)
  (try rw [hji16] at A13)
  (try rw [hji16] at A14)
  (try rw [hji16] at A15)
  have hji16_ : (if (wrap64 ((wrap64 (1 + t151)) - 1)) < (wrap64 (t155 + t159)) then (wrap64 ((wrap64 (1 + t151)) - 1)) else (wrap64 (t155 + t159))) = ji16 := hji16
  replace H := Option.bind_eq_some_iff.mp H
  obtain ⟨⟨t160, t161⟩, A170, H⟩ := H
  replace H : ((tilefarmgen_Mod.f a6 12).bind fun t162 => ((grid_Of.f k (wrap64 (1 + t151)) (wrap64 (1 + t152)) (wrap64 (1 + t153)) (wrap64 (1 + t154)) t155 (mn (wrap64 (t156 + t162)) (wrap64 ((wrap64 (1 + t152)) - 1)))).bind fun bt163 => ((grid_Count.f k (wrap64 (1 + t151)) (wrap64 (1 + t152)) (wrap64 (1 + t153)) (wrap64 (1 + t154))).bind fun bt165 => (if t158 = true then (if t161 = true then (if bt163.2 = true then (if t160 ≥ t157 then (if (wrap64 (t160 - t157)) < bt165.1 then (if bt163.1 ≥ t157 then (if bt165.1 = 0 then (if (wrap64 (1 + t154)) = 0 then (none) else ((tilefarmgen_Mod.f a6 12).bind fun t167 => (if ((bt163.1 == t157) == ((wrap64 (Int.tdiv t156 (wrap64 (1 + t154)))) == (wrap64 (Int.tdiv (mn (wrap64 (t156 + t167)) (wrap64 ((wrap64 (1 + t152)) - 1))) (wrap64 (1 + t154)))))) = true then ((tilefarmlaw5_sane.f k).bind fun t168 => (some t168)) else (some false)))) else (if (Int.tmod (wrap64 (bt163.1 - t157)) bt165.1) = 0 then (if (wrap64 (1 + t154)) = 0 then (none) else ((tilefarmgen_Mod.f a6 12).bind fun t169 => (if ((bt163.1 == t157) == ((wrap64 (Int.tdiv t156 (wrap64 (1 + t154)))) == (wrap64 (Int.tdiv (mn (wrap64 (t156 + t169)) (wrap64 ((wrap64 (1 + t152)) - 1))) (wrap64 (1 + t154)))))) = true then ((tilefarmlaw5_sane.f k).bind fun t170 => (some t170)) else (some false)))) else (some false))) else (some false)) else (some false)) else (some false)) else (some false)) else (some false)) else (some false))))) = some r := H
  have A17 := Aside0.mk A170
  clear A170
  replace H := Option.bind_eq_some_iff.mp H
  obtain ⟨t162, A180, H⟩ := H
  replace H : ((grid_Of.f k (wrap64 (1 + t151)) (wrap64 (1 + t152)) (wrap64 (1 + t153)) (wrap64 (1 + t154)) t155 (mn (wrap64 (t156 + t162)) (wrap64 ((wrap64 (1 + t152)) - 1)))).bind fun bt163 => ((grid_Count.f k (wrap64 (1 + t151)) (wrap64 (1 + t152)) (wrap64 (1 + t153)) (wrap64 (1 + t154))).bind fun bt165 => (if t158 = true then (if t161 = true then (if bt163.2 = true then (if t160 ≥ t157 then (if (wrap64 (t160 - t157)) < bt165.1 then (if bt163.1 ≥ t157 then (if bt165.1 = 0 then (if (wrap64 (1 + t154)) = 0 then (none) else ((tilefarmgen_Mod.f a6 12).bind fun t167 => (if ((bt163.1 == t157) == ((wrap64 (Int.tdiv t156 (wrap64 (1 + t154)))) == (wrap64 (Int.tdiv (mn (wrap64 (t156 + t167)) (wrap64 ((wrap64 (1 + t152)) - 1))) (wrap64 (1 + t154)))))) = true then ((tilefarmlaw5_sane.f k).bind fun t168 => (some t168)) else (some false)))) else (if (Int.tmod (wrap64 (bt163.1 - t157)) bt165.1) = 0 then (if (wrap64 (1 + t154)) = 0 then (none) else ((tilefarmgen_Mod.f a6 12).bind fun t169 => (if ((bt163.1 == t157) == ((wrap64 (Int.tdiv t156 (wrap64 (1 + t154)))) == (wrap64 (Int.tdiv (mn (wrap64 (t156 + t169)) (wrap64 ((wrap64 (1 + t152)) - 1))) (wrap64 (1 + t154)))))) = true then ((tilefarmlaw5_sane.f k).bind fun t170 => (some t170)) else (some false)))) else (some false))) else (some false)) else (some false)) else (some false)) else (some false)) else (some false)) else (some false)))) = some r := H
  have A18 := Aside0.mk A180
  clear A180
  obtain ⟨ji19, hji19⟩ : ∃ j_ : Int, (mn (wrap64 (t156 + t162)) (wrap64 ((wrap64 (1 + t152)) - 1))) = j_ := ⟨_, rfl⟩
  replace H : ((grid_Of.f k (wrap64 (1 + t151)) (wrap64 (1 + t152)) (wrap64 (1 + t153)) (wrap64 (1 + t154)) t155 (ji19)).bind fun bt163 => ((grid_Count.f k (wrap64 (1 + t151)) (wrap64 (1 + t152)) (wrap64 (1 + t153)) (wrap64 (1 + t154))).bind fun bt165 => (if t158 = true then (if t161 = true then (if bt163.2 = true then (if t160 ≥ t157 then (if (wrap64 (t160 - t157)) < bt165.1 then (if bt163.1 ≥ t157 then (if bt165.1 = 0 then (if (wrap64 (1 + t154)) = 0 then (none) else ((tilefarmgen_Mod.f a6 12).bind fun t167 => (if ((bt163.1 == t157) == ((wrap64 (Int.tdiv t156 (wrap64 (1 + t154)))) == (wrap64 (Int.tdiv (mn (wrap64 (t156 + t167)) (wrap64 ((wrap64 (1 + t152)) - 1))) (wrap64 (1 + t154)))))) = true then ((tilefarmlaw5_sane.f k).bind fun t168 => (some t168)) else (some false)))) else (if (Int.tmod (wrap64 (bt163.1 - t157)) bt165.1) = 0 then (if (wrap64 (1 + t154)) = 0 then (none) else ((tilefarmgen_Mod.f a6 12).bind fun t169 => (if ((bt163.1 == t157) == ((wrap64 (Int.tdiv t156 (wrap64 (1 + t154)))) == (wrap64 (Int.tdiv (mn (wrap64 (t156 + t169)) (wrap64 ((wrap64 (1 + t152)) - 1))) (wrap64 (1 + t154)))))) = true then ((tilefarmlaw5_sane.f k).bind fun t170 => (some t170)) else (some false)))) else (some false))) else (some false)) else (some false)) else (some false)) else (some false)) else (some false)) else (some false)))) = some r := by first | (rw [hji19] at H; exact H) | (simp only [hji19] at H ⊢; exact H)
  (try rw [hji19] at A8)
  (try rw [hji19] at A9)
  (try rw [hji19] at A10)
  (try rw [hji19] at A11)
  (try rw [hji19] at A12)
  (try rw [hji19] at A13)
  (try rw [hji19] at A14)
  (try rw [hji19] at A15)
  (try rw [hji19] at A17)
  (try rw [hji19] at A18)
  have hji19_ : (if (wrap64 ((wrap64 (1 + t152)) - 1)) < (wrap64 (t156 + t162)) then (wrap64 ((wrap64 (1 + t152)) - 1)) else (wrap64 (t156 + t162))) = ji19 := hji19
  replace H := Option.bind_eq_some_iff.mp H
  obtain ⟨⟨t163, t164⟩, A200, H⟩ := H
  replace H : ((grid_Count.f k (wrap64 (1 + t151)) (wrap64 (1 + t152)) (wrap64 (1 + t153)) (wrap64 (1 + t154))).bind fun bt165 => (if t158 = true then (if t161 = true then (if t164 = true then (if t160 ≥ t157 then (if (wrap64 (t160 - t157)) < bt165.1 then (if t163 ≥ t157 then (if bt165.1 = 0 then (if (wrap64 (1 + t154)) = 0 then (none) else ((tilefarmgen_Mod.f a6 12).bind fun t167 => (if ((t163 == t157) == ((wrap64 (Int.tdiv t156 (wrap64 (1 + t154)))) == (wrap64 (Int.tdiv (mn (wrap64 (t156 + t167)) (wrap64 ((wrap64 (1 + t152)) - 1))) (wrap64 (1 + t154)))))) = true then ((tilefarmlaw5_sane.f k).bind fun t168 => (some t168)) else (some false)))) else (if (Int.tmod (wrap64 (t163 - t157)) bt165.1) = 0 then (if (wrap64 (1 + t154)) = 0 then (none) else ((tilefarmgen_Mod.f a6 12).bind fun t169 => (if ((t163 == t157) == ((wrap64 (Int.tdiv t156 (wrap64 (1 + t154)))) == (wrap64 (Int.tdiv (mn (wrap64 (t156 + t169)) (wrap64 ((wrap64 (1 + t152)) - 1))) (wrap64 (1 + t154)))))) = true then ((tilefarmlaw5_sane.f k).bind fun t170 => (some t170)) else (some false)))) else (some false))) else (some false)) else (some false)) else (some false)) else (some false)) else (some false)) else (some false))) = some r := H
  have A20 := Aside0.mk A200
  clear A200
  replace H := Option.bind_eq_some_iff.mp H
  obtain ⟨⟨t165, t166⟩, A210, H⟩ := H
  replace H : (if t158 = true then (if t161 = true then (if t164 = true then (if t160 ≥ t157 then (if (wrap64 (t160 - t157)) < t165 then (if t163 ≥ t157 then (if t165 = 0 then (if (wrap64 (1 + t154)) = 0 then (none) else ((tilefarmgen_Mod.f a6 12).bind fun t167 => (if ((t163 == t157) == ((wrap64 (Int.tdiv t156 (wrap64 (1 + t154)))) == (wrap64 (Int.tdiv (mn (wrap64 (t156 + t167)) (wrap64 ((wrap64 (1 + t152)) - 1))) (wrap64 (1 + t154)))))) = true then ((tilefarmlaw5_sane.f k).bind fun t168 => (some t168)) else (some false)))) else (if (Int.tmod (wrap64 (t163 - t157)) t165) = 0 then (if (wrap64 (1 + t154)) = 0 then (none) else ((tilefarmgen_Mod.f a6 12).bind fun t169 => (if ((t163 == t157) == ((wrap64 (Int.tdiv t156 (wrap64 (1 + t154)))) == (wrap64 (Int.tdiv (mn (wrap64 (t156 + t169)) (wrap64 ((wrap64 (1 + t152)) - 1))) (wrap64 (1 + t154)))))) = true then ((tilefarmlaw5_sane.f k).bind fun t170 => (some t170)) else (some false)))) else (some false))) else (some false)) else (some false)) else (some false)) else (some false)) else (some false)) else (some false)) = some r := H
  have A21 := Aside0.mk A210
  clear A210
  by_cases c22 : t158 = true
  · subst c22
    have H1 : (if t161 = true then (if t164 = true then (if t160 ≥ t157 then (if (wrap64 (t160 - t157)) < t165 then (if t163 ≥ t157 then (if t165 = 0 then (if (wrap64 (1 + t154)) = 0 then (none) else ((tilefarmgen_Mod.f a6 12).bind fun t167 => (if ((t163 == t157) == ((wrap64 (Int.tdiv t156 (wrap64 (1 + t154)))) == (wrap64 (Int.tdiv (mn (wrap64 (t156 + t167)) (wrap64 ((wrap64 (1 + t152)) - 1))) (wrap64 (1 + t154)))))) = true then ((tilefarmlaw5_sane.f k).bind fun t168 => (some t168)) else (some false)))) else (if (Int.tmod (wrap64 (t163 - t157)) t165) = 0 then (if (wrap64 (1 + t154)) = 0 then (none) else ((tilefarmgen_Mod.f a6 12).bind fun t169 => (if ((t163 == t157) == ((wrap64 (Int.tdiv t156 (wrap64 (1 + t154)))) == (wrap64 (Int.tdiv (mn (wrap64 (t156 + t169)) (wrap64 ((wrap64 (1 + t152)) - 1))) (wrap64 (1 + t154)))))) = true then ((tilefarmlaw5_sane.f k).bind fun t170 => (some t170)) else (some false)))) else (some false))) else (some false)) else (some false)) else (some false)) else (some false)) else (some false)) = some r := by rw [if_pos rfl] at H; exact H
    clear H
    have H := H1
    clear H1
    by_cases c23 : t161 = true
    · subst c23
      have H1 : (if t164 = true then (if t160 ≥ t157 then (if (wrap64 (t160 - t157)) < t165 then (if t163 ≥ t157 then (if t165 = 0 then (if (wrap64 (1 + t154)) = 0 then (none) else ((tilefarmgen_Mod.f a6 12).bind fun t167 => (if ((t163 == t157) == ((wrap64 (Int.tdiv t156 (wrap64 (1 + t154)))) == (wrap64 (Int.tdiv (mn (wrap64 (t156 + t167)) (wrap64 ((wrap64 (1 + t152)) - 1))) (wrap64 (1 + t154)))))) = true then ((tilefarmlaw5_sane.f k).bind fun t168 => (some t168)) else (some false)))) else (if (Int.tmod (wrap64 (t163 - t157)) t165) = 0 then (if (wrap64 (1 + t154)) = 0 then (none) else ((tilefarmgen_Mod.f a6 12).bind fun t169 => (if ((t163 == t157) == ((wrap64 (Int.tdiv t156 (wrap64 (1 + t154)))) == (wrap64 (Int.tdiv (mn (wrap64 (t156 + t169)) (wrap64 ((wrap64 (1 + t152)) - 1))) (wrap64 (1 + t154)))))) = true then ((tilefarmlaw5_sane.f k).bind fun t170 => (some t170)) else (some false)))) else (some false))) else (some false)) else (some false)) else (some false)) else (some false)) = some r := by rw [if_pos rfl] at H; exact H
      clear H
      have H := H1
      clear H1
      by_cases c24 : t164 = true
      · subst c24
        have H1 : (if t160 ≥ t157 then (if (wrap64 (t160 - t157)) < t165 then (if t163 ≥ t157 then (if t165 = 0 then (if (wrap64 (1 + t154)) = 0 then (none) else ((tilefarmgen_Mod.f a6 12).bind fun t167 => (if ((t163 == t157) == ((wrap64 (Int.tdiv t156 (wrap64 (1 + t154)))) == (wrap64 (Int.tdiv (mn (wrap64 (t156 + t167)) (wrap64 ((wrap64 (1 + t152)) - 1))) (wrap64 (1 + t154)))))) = true then ((tilefarmlaw5_sane.f k).bind fun t168 => (some t168)) else (some false)))) else (if (Int.tmod (wrap64 (t163 - t157)) t165) = 0 then (if (wrap64 (1 + t154)) = 0 then (none) else ((tilefarmgen_Mod.f a6 12).bind fun t169 => (if ((t163 == t157) == ((wrap64 (Int.tdiv t156 (wrap64 (1 + t154)))) == (wrap64 (Int.tdiv (mn (wrap64 (t156 + t169)) (wrap64 ((wrap64 (1 + t152)) - 1))) (wrap64 (1 + t154)))))) = true then ((tilefarmlaw5_sane.f k).bind fun t170 => (some t170)) else (some false)))) else (some false))) else (some false)) else (some false)) else (some false)) = some r := by rw [if_pos rfl] at H; exact H
        clear H
        have H := H1
        clear H1
        by_cases c25 : t160 ≥ t157
        · rw [if_pos c25] at H
          have c25b0 : decide (t157 ≤ t160) = true := decide_eq_true c25
          clear c25
          by_cases c26 : (wrap64 (t160 - t157)) < t165
          · rw [if_pos c26] at H
            have c26b0 : decide ((wrap64 (t160 - t157)) < t165) = true := decide_eq_true c26
            clear c26
            by_cases c27 : t163 ≥ t157
            · rw [if_pos c27] at H
              have c27b0 : decide (t157 ≤ t163) = true := decide_eq_true c27
              clear c27
              by_cases c28 : t165 = 0
              · rw [if_pos c28] at H
                have c28b0 : (t165 == 0) = true := beq_iff_eq.mpr c28
                have c28b1 : (t165 != 0) = false := bne_eq_false_iff_eq.mpr c28
                clear c28
                by_cases c29 : (wrap64 (1 + t154)) = 0
                · rw [if_pos c29] at H
                  exact absurd H (by simp)
                · rw [if_neg c29] at H
                  have c29b0 : ((wrap64 (1 + t154)) == 0) = false := beq_eq_false_iff_ne.mpr c29
                  have c29b1 : ((wrap64 (1 + t154)) != 0) = true := bne_iff_ne.mpr c29
                  replace H := Option.bind_eq_some_iff.mp H
                  obtain ⟨t167, A300, H⟩ := H
                  replace H : (if ((t163 == t157) == ((wrap64 (Int.tdiv t156 (wrap64 (1 + t154)))) == (wrap64 (Int.tdiv (mn (wrap64 (t156 + t167)) (wrap64 ((wrap64 (1 + t152)) - 1))) (wrap64 (1 + t154)))))) = true then ((tilefarmlaw5_sane.f k).bind fun t168 => (some t168)) else (some false)) = some r := H
                  have A30 := Aside0.mk A300
                  clear A300
                  obtain ⟨ji31, hji31⟩ : ∃ j_ : Int, (mn (wrap64 (t156 + t167)) (wrap64 ((wrap64 (1 + t152)) - 1))) = j_ := ⟨_, rfl⟩
                  replace H : (if ((t163 == t157) == ((wrap64 (Int.tdiv t156 (wrap64 (1 + t154)))) == (wrap64 (Int.tdiv (ji31) (wrap64 (1 + t154)))))) = true then ((tilefarmlaw5_sane.f k).bind fun t168 => (some t168)) else (some false)) = some r := by first | (rw [hji31] at H; exact H) | (simp only [hji31] at H ⊢; exact H)
                  (try rw [hji31] at A8)
                  (try rw [hji31] at A9)
                  (try rw [hji31] at A10)
                  (try rw [hji31] at A11)
                  (try rw [hji31] at A12)
                  (try rw [hji31] at A13)
                  (try rw [hji31] at A14)
                  (try rw [hji31] at A15)
                  (try rw [hji31] at A17)
                  (try rw [hji31] at A18)
                  (try rw [hji31] at A20)
                  (try rw [hji31] at A21)
                  (try rw [hji31] at A30)
                  have hji31_ : (if (wrap64 ((wrap64 (1 + t152)) - 1)) < (wrap64 (t156 + t167)) then (wrap64 ((wrap64 (1 + t152)) - 1)) else (wrap64 (t156 + t167))) = ji31 := hji31
                  by_cases c32 : ((t163 == t157) == ((wrap64 (Int.tdiv t156 (wrap64 (1 + t154)))) == (wrap64 (Int.tdiv (ji31) (wrap64 (1 + t154)))))) = true
                  · rw [if_pos c32] at H
                    have c32b0 : ((t163 == t157) == ((wrap64 (Int.tdiv t156 (wrap64 (1 + t154)))) == (wrap64 (Int.tdiv (ji31) (wrap64 (1 + t154)))))) = true := c32
                    (try (have c32b1 : decide ((t163 == t157) = ((wrap64 (Int.tdiv t156 (wrap64 (1 + t154)))) == (wrap64 (Int.tdiv (ji31) (wrap64 (1 + t154)))))) = true := by simpa using c32))
                    (try (have c32b2 : ((t163 == t157) == ((wrap64 (Int.tdiv t156 (wrap64 (1 + t154)))) == (wrap64 (Int.tdiv (ji31) (wrap64 (1 + t154)))))) = true := by simpa using c32))
                    clear c32
                    replace H := Option.bind_eq_some_iff.mp H
                    obtain ⟨t168, A330, H⟩ := H
                    replace H : (some t168) = some r := H
                    have A33 := Aside0.mk A330
                    clear A330
                    obtain rfl := Option.some.inj H
                    go_enter Try.func3, Try.ntmps3
                    try go_wp2_with (first | ((with_reducible refine gate_callee (f := 7) rfl ?_); refine goesL_ (some 30) rfl rfl Try.func7 (by kernel_rfl) rfl #[.int .i64 a0, .int .i64 30] rfl (by (try simp only [List.map_toArray, List.map_cons, List.map_nil]); first | done | rfl | (simp only [List.length_drop, List.length_take]; rfl)) ?_; (with_reducible refine (tilefarmgen_Mod.calls a0 30 t151 _ A8.out).mono ?_); rintro e w' ⟨rfl, ⟨nd, rfl⟩⟩; refine ⟨_, rfl, ?_⟩) | ((with_reducible refine gate_callee (f := 7) rfl ?_); refine goesL_ (some 33) rfl rfl Try.func7 (by kernel_rfl) rfl #[.int .i64 a1, .int .i64 30] rfl (by (try simp only [List.map_toArray, List.map_cons, List.map_nil]); first | done | rfl | (simp only [List.length_drop, List.length_take]; rfl)) ?_; (with_reducible refine (tilefarmgen_Mod.calls a1 30 t152 _ A9.out).mono ?_); rintro e w' ⟨rfl, ⟨nd, rfl⟩⟩; refine ⟨_, rfl, ?_⟩) | ((with_reducible refine gate_callee (f := 7) rfl ?_); refine goesL_ (some 36) rfl rfl Try.func7 (by kernel_rfl) rfl #[.int .i64 a2, .int .i64 9] rfl (by (try simp only [List.map_toArray, List.map_cons, List.map_nil]); first | done | rfl | (simp only [List.length_drop, List.length_take]; rfl)) ?_; (with_reducible refine (tilefarmgen_Mod.calls a2 9 t153 _ A10.out).mono ?_); rintro e w' ⟨rfl, ⟨nd, rfl⟩⟩; refine ⟨_, rfl, ?_⟩) | ((with_reducible refine gate_callee (f := 7) rfl ?_); refine goesL_ (some 39) rfl rfl Try.func7 (by kernel_rfl) rfl #[.int .i64 a3, .int .i64 9] rfl (by (try simp only [List.map_toArray, List.map_cons, List.map_nil]); first | done | rfl | (simp only [List.length_drop, List.length_take]; rfl)) ?_; (with_reducible refine (tilefarmgen_Mod.calls a3 9 t154 _ A11.out).mono ?_); rintro e w' ⟨rfl, ⟨nd, rfl⟩⟩; refine ⟨_, rfl, ?_⟩) | ((with_reducible refine gate_callee (f := 7) rfl ?_); refine goesL_ (some 43) rfl rfl Try.func7 (by kernel_rfl) rfl #[.int .i64 a4, .int .i64 (wrap64 (1 + t151))] rfl (by (try simp only [List.map_toArray, List.map_cons, List.map_nil]); first | done | rfl | (simp only [List.length_drop, List.length_take]; rfl)) ?_; (with_reducible refine (tilefarmgen_Mod.calls a4 (wrap64 (1 + t151)) t155 _ A12.out).mono ?_); rintro e w' ⟨rfl, ⟨nd, rfl⟩⟩; refine ⟨_, rfl, ?_⟩) | ((with_reducible refine gate_callee (f := 7) rfl ?_); refine goesL_ (some 46) rfl rfl Try.func7 (by kernel_rfl) rfl #[.int .i64 a5, .int .i64 (wrap64 (1 + t152))] rfl (by (try simp only [List.map_toArray, List.map_cons, List.map_nil]); first | done | rfl | (simp only [List.length_drop, List.length_take]; rfl)) ?_; (with_reducible refine (tilefarmgen_Mod.calls a5 (wrap64 (1 + t152)) t156 _ A13.out).mono ?_); rintro e w' ⟨rfl, ⟨nd, rfl⟩⟩; refine ⟨_, rfl, ?_⟩) | ((with_reducible refine gate_callee (f := 8) rfl ?_); refine goesL_ (some 54) rfl rfl Try.func8 (by kernel_rfl) rfl #[.int .i64 (wrap64 (1 + t151)), .int .i64 (wrap64 (1 + t152)), .int .i64 (wrap64 (1 + t153)), .int .i64 (wrap64 (1 + t154)), .int .i64 t155, .int .i64 t156] rfl (by (try simp only [List.map_toArray, List.map_cons, List.map_nil]); first | done | rfl | (simp only [List.length_drop, List.length_take]; rfl)) ?_; (with_reducible refine (grid_Of.calls k (wrap64 (1 + t151)) (wrap64 (1 + t152)) (wrap64 (1 + t153)) (wrap64 (1 + t154)) t155 t156 t157 true _ A14.out).mono ?_); rintro e w' ⟨rfl, ⟨nd, rfl⟩⟩; refine ⟨_, rfl, ?_⟩) | ((with_reducible refine gate_callee (f := 7) rfl ?_); refine goesL_ (some 64) rfl rfl Try.func7 (by kernel_rfl) rfl #[.int .i64 a6, .int .i64 12] rfl (by (try simp only [List.map_toArray, List.map_cons, List.map_nil]); first | done | rfl | (simp only [List.length_drop, List.length_take]; rfl)) ?_; (with_reducible refine (tilefarmgen_Mod.calls a6 12 t159 _ A15.out).mono ?_); rintro e w' ⟨rfl, ⟨nd, rfl⟩⟩; refine ⟨_, rfl, ?_⟩) | ((with_reducible refine gate_callee (f := 8) rfl ?_); refine goesL_ (some 70) rfl rfl Try.func8 (by kernel_rfl) rfl #[.int .i64 (wrap64 (1 + t151)), .int .i64 (wrap64 (1 + t152)), .int .i64 (wrap64 (1 + t153)), .int .i64 (wrap64 (1 + t154)), .int .i64 ji16, .int .i64 t156] rfl (by (try simp only [List.map_toArray, List.map_cons, List.map_nil]); first | done | (simp only [hji16]; rfl) | rfl | (simp only [List.length_drop, List.length_take]; rfl)) ?_; (with_reducible refine (grid_Of.calls k (wrap64 (1 + t151)) (wrap64 (1 + t152)) (wrap64 (1 + t153)) (wrap64 (1 + t154)) ji16 t156 t160 true _ A17.out).mono ?_); rintro e w' ⟨rfl, ⟨nd, rfl⟩⟩; refine ⟨_, rfl, ?_⟩) | ((with_reducible refine gate_callee (f := 7) rfl ?_); refine goesL_ (some 81) rfl rfl Try.func7 (by kernel_rfl) rfl #[.int .i64 a6, .int .i64 12] rfl (by (try simp only [List.map_toArray, List.map_cons, List.map_nil]); first | done | rfl | (simp only [List.length_drop, List.length_take]; rfl)) ?_; (with_reducible refine (tilefarmgen_Mod.calls a6 12 t162 _ A18.out).mono ?_); rintro e w' ⟨rfl, ⟨nd, rfl⟩⟩; refine ⟨_, rfl, ?_⟩) | ((with_reducible refine gate_callee (f := 8) rfl ?_); refine goesL_ (some 86) rfl rfl Try.func8 (by kernel_rfl) rfl #[.int .i64 (wrap64 (1 + t151)), .int .i64 (wrap64 (1 + t152)), .int .i64 (wrap64 (1 + t153)), .int .i64 (wrap64 (1 + t154)), .int .i64 t155, .int .i64 ji19] rfl (by (try simp only [List.map_toArray, List.map_cons, List.map_nil]); first | done | (simp only [hji19]; rfl) | rfl | (simp only [List.length_drop, List.length_take]; rfl)) ?_; (with_reducible refine (grid_Of.calls k (wrap64 (1 + t151)) (wrap64 (1 + t152)) (wrap64 (1 + t153)) (wrap64 (1 + t154)) t155 ji19 t163 true _ A20.out).mono ?_); rintro e w' ⟨rfl, ⟨nd, rfl⟩⟩; refine ⟨_, rfl, ?_⟩) | ((with_reducible refine gate_callee (f := 9) rfl ?_); refine goesL_ (some 94) rfl rfl Try.func9 (by kernel_rfl) rfl #[.int .i64 (wrap64 (1 + t151)), .int .i64 (wrap64 (1 + t152)), .int .i64 (wrap64 (1 + t153)), .int .i64 (wrap64 (1 + t154))] rfl (by (try simp only [List.map_toArray, List.map_cons, List.map_nil]); first | done | rfl | (simp only [List.length_drop, List.length_take]; rfl)) ?_; (with_reducible refine (grid_Count.calls k (wrap64 (1 + t151)) (wrap64 (1 + t152)) (wrap64 (1 + t153)) (wrap64 (1 + t154)) t165 t166 _ A21.out).mono ?_); rintro e w' ⟨rfl, ⟨nd, rfl⟩⟩; refine ⟨_, rfl, ?_⟩))
                    rw [drewN_self w]
                    generalize hq_ : World.drewN w _ = w34
                    have n0_ := Aside0.mk (below_at hq_ HB.out)
                    clear HB hq_
                    have HB := n0_
                    clear n0_
                    have n0_ := Aside0.mk (below_drew1 HB.out)
                    clear HB
                    have HB := n0_
                    clear n0_
                    refine start_ (n := 59) (S := fun w' => True) (ds := []) #[false, false, false, false, false, false, false, false, false, false, false, false, false, false, false, false, false, false, false, false, false, false, false, false, false, false, false, false, false, false, false, false, false, false, false, false, false, false, false, false, false, false, false, false, false, false, false, false, false, false, false, false, false, false, false, false, false, false, false] (by kernel_rfl) rfl rfl trivial (fun hHeld => ?_); refine with_tabW tilefarmlaw5_GridOrder.tab7 tilefarmlaw5_GridOrder.bits7 (fun HT_ HW_ => ?_)
                    generalize w34.drew = w35 at HB hHeld ⊢
                    refine pure_ (i := 0) (N := some 97) (v := ?_) (a' := ?_) #[true, false, false, false, false, false, false, false, false, false, false, false, false, false, false, false, false, false, false, false, false, false, false, false, false, false, false, false, false, false, false, false, false, false, false, false, false, false, false, false, false, false, false, false, false, false, false, false, false, false, false, false, false, false, false, false, false, false, false] rfl rfl (any_of HT_.out (by kernel_rfl)) (fun _ _ _ h => h) (Or.inl ⟨by rfl, ?_⟩) ?_ ?_
                    rotate_left
                    · intro w'
                      go_simp
                      with_reducible rfl
                    rotate_left
                    · simp only [Act.put, List.setIfInBounds_toArray, List.set_cons_zero, List.set_cons_succ, i64_w, i32_w]
                      rfl
                    refine pure_ (i := 1) (N := some 98) (v := ?_) (a' := ?_) #[true, true, false, false, false, false, false, false, false, false, false, false, false, false, false, false, false, false, false, false, false, false, false, false, false, false, false, false, false, false, false, false, false, false, false, false, false, false, false, false, false, false, false, false, false, false, false, false, false, false, false, false, false, false, false, false, false, false, false] rfl rfl (any_of HT_.out (by kernel_rfl)) (fun _ _ _ h => h) (Or.inl ⟨by rfl, ?_⟩) ?_ ?_
                    rotate_left
                    · intro w'
                      go_simp
                      with_reducible rfl
                    rotate_left
                    · simp only [Act.put, List.setIfInBounds_toArray, List.set_cons_zero, List.set_cons_succ, i64_w, i32_w]
                      rfl
                    refine pure_ (i := 2) (N := some 99) (v := ?_) (a' := ?_) #[true, true, true, false, false, false, false, false, false, false, false, false, false, false, false, false, false, false, false, false, false, false, false, false, false, false, false, false, false, false, false, false, false, false, false, false, false, false, false, false, false, false, false, false, false, false, false, false, false, false, false, false, false, false, false, false, false, false, false] rfl rfl (any_of HT_.out (by kernel_rfl)) (fun _ _ _ h => h) (Or.inl ⟨by rfl, ?_⟩) ?_ ?_
                    rotate_left
                    · intro w'
                      go_simp
                      with_reducible rfl
                    rotate_left
                    · simp only [Act.put, List.setIfInBounds_toArray, List.set_cons_zero, List.set_cons_succ, i64_w, i32_w]
                      rfl
                    refine pure_ (i := 3) (N := some 100) (v := ?_) (a' := ?_) #[true, true, true, true, false, false, false, false, false, false, false, false, false, false, false, false, false, false, false, false, false, false, false, false, false, false, false, false, false, false, false, false, false, false, false, false, false, false, false, false, false, false, false, false, false, false, false, false, false, false, false, false, false, false, false, false, false, false, false] rfl rfl (any_of HT_.out (by kernel_rfl)) (fun _ _ _ h => h) (Or.inl ⟨by rfl, ?_⟩) ?_ ?_
                    rotate_left
                    · intro w'
                      go_simp
                      with_reducible rfl
                    rotate_left
                    · simp only [Act.put, List.setIfInBounds_toArray, List.set_cons_zero, List.set_cons_succ, i64_w, i32_w]
                      rfl
                    refine pure_ (i := 4) (N := some 101) (v := ?_) (a' := ?_) #[true, true, true, true, true, false, false, false, false, false, false, false, false, false, false, false, false, false, false, false, false, false, false, false, false, false, false, false, false, false, false, false, false, false, false, false, false, false, false, false, false, false, false, false, false, false, false, false, false, false, false, false, false, false, false, false, false, false, false] rfl rfl (any_of HT_.out (by kernel_rfl)) (fun _ _ _ h => h) (Or.inl ⟨by rfl, ?_⟩) ?_ ?_
                    rotate_left
                    · intro w'
                      go_simp
                      with_reducible rfl
                    rotate_left
                    · simp only [Act.put, List.setIfInBounds_toArray, List.set_cons_zero, List.set_cons_succ, i64_w, i32_w]
                      rfl
                    refine pure_ (i := 5) (N := some 102) (v := ?_) (a' := ?_) #[true, true, true, true, true, true, false, false, false, false, false, false, false, false, false, false, false, false, false, false, false, false, false, false, false, false, false, false, false, false, false, false, false, false, false, false, false, false, false, false, false, false, false, false, false, false, false, false, false, false, false, false, false, false, false, false, false, false, false] rfl rfl (any_of HT_.out (by kernel_rfl)) (fun _ _ _ h => h) (Or.inl ⟨by rfl, ?_⟩) ?_ ?_
                    rotate_left
                    · intro w'
                      go_simp
                      with_reducible rfl
                    rotate_left
                    · simp only [Act.put, List.setIfInBounds_toArray, List.set_cons_zero, List.set_cons_succ, i64_w, i32_w]
                      rfl
                    refine pure_ (i := 6) (N := some 103) (v := ?_) (a' := ?_) #[true, true, true, true, true, true, true, false, false, false, false, false, false, false, false, false, false, false, false, false, false, false, false, false, false, false, false, false, false, false, false, false, false, false, false, false, false, false, false, false, false, false, false, false, false, false, false, false, false, false, false, false, false, false, false, false, false, false, false] rfl rfl (any_of HT_.out (by kernel_rfl)) (fun _ _ _ h => h) (Or.inl ⟨by rfl, ?_⟩) ?_ ?_
                    rotate_left
                    · intro w'
                      go_simp
                      with_reducible rfl
                    rotate_left
                    · simp only [Act.put, List.setIfInBounds_toArray, List.set_cons_zero, List.set_cons_succ, i64_w, i32_w]
                      rfl
                    refine pure_ (i := 7) (N := some 104) (v := ?_) (a' := ?_) #[true, true, true, true, true, true, true, true, false, false, false, false, false, false, false, false, false, false, false, false, false, false, false, false, false, false, false, false, false, false, false, false, false, false, false, false, false, false, false, false, false, false, false, false, false, false, false, false, false, false, false, false, false, false, false, false, false, false, false] rfl rfl (any_of HT_.out (by kernel_rfl)) (fun _ _ _ h => h) (Or.inl ⟨by rfl, ?_⟩) ?_ ?_
                    rotate_left
                    · intro w'
                      go_simp
                      with_reducible rfl
                    rotate_left
                    · simp only [Act.put, List.setIfInBounds_toArray, List.set_cons_zero, List.set_cons_succ, i64_w, i32_w]
                      rfl
                    refine pure_ (i := 8) (N := some 105) (v := ?_) (a' := ?_) #[true, true, true, true, true, true, true, true, true, false, false, false, false, false, false, false, false, false, false, false, false, false, false, false, false, false, false, false, false, false, false, false, false, false, false, false, false, false, false, false, false, false, false, false, false, false, false, false, false, false, false, false, false, false, false, false, false, false, false] rfl rfl (any_of HT_.out (by kernel_rfl)) (fun _ _ _ h => h) (Or.inl ⟨by rfl, ?_⟩) ?_ ?_
                    rotate_left
                    · intro w'
                      go_simp
                      with_reducible rfl
                    rotate_left
                    · simp only [Act.put, List.setIfInBounds_toArray, List.set_cons_zero, List.set_cons_succ, i64_w, i32_w]
                      rfl
                    refine pure_ (i := 9) (N := some 106) (v := ?_) (a' := ?_) #[true, true, true, true, true, true, true, true, true, true, false, false, false, false, false, false, false, false, false, false, false, false, false, false, false, false, false, false, false, false, false, false, false, false, false, false, false, false, false, false, false, false, false, false, false, false, false, false, false, false, false, false, false, false, false, false, false, false, false] rfl rfl (any_of HT_.out (by kernel_rfl)) (fun _ _ _ h => h) (Or.inl ⟨by rfl, ?_⟩) ?_ ?_
                    rotate_left
                    · intro w'
                      go_simp
                      with_reducible rfl
                    rotate_left
                    · simp only [Act.put, List.setIfInBounds_toArray, List.set_cons_zero, List.set_cons_succ, i64_w, i32_w]
                      rfl
                    refine pure_ (i := 10) (N := some 107) (v := ?_) (a' := ?_) #[true, true, true, true, true, true, true, true, true, true, true, false, false, false, false, false, false, false, false, false, false, false, false, false, false, false, false, false, false, false, false, false, false, false, false, false, false, false, false, false, false, false, false, false, false, false, false, false, false, false, false, false, false, false, false, false, false, false, false] rfl rfl (any_of HT_.out (by kernel_rfl)) (fun _ _ _ h => h) (Or.inl ⟨by rfl, ?_⟩) ?_ ?_
                    rotate_left
                    · intro w'
                      go_simp
                      with_reducible rfl
                    rotate_left
                    · simp only [Act.put, List.setIfInBounds_toArray, List.set_cons_zero, List.set_cons_succ, i64_w, i32_w]
                      rfl
                    refine pure_ (i := 11) (N := some 108) (v := ?_) (a' := ?_) #[true, true, true, true, true, true, true, true, true, true, true, true, false, false, false, false, false, false, false, false, false, false, false, false, false, false, false, false, false, false, false, false, false, false, false, false, false, false, false, false, false, false, false, false, false, false, false, false, false, false, false, false, false, false, false, false, false, false, false] rfl rfl (any_of HT_.out (by kernel_rfl)) (fun _ _ _ h => h) (Or.inl ⟨by rfl, ?_⟩) ?_ ?_
                    rotate_left
                    · intro w'
                      go_simp
                      with_reducible rfl
                    rotate_left
                    · simp only [Act.put, List.setIfInBounds_toArray, List.set_cons_zero, List.set_cons_succ, i64_w, i32_w]
                      rfl
                    refine pure_ (i := 12) (N := some 109) (v := ?_) (a' := ?_) #[true, true, true, true, true, true, true, true, true, true, true, true, true, false, false, false, false, false, false, false, false, false, false, false, false, false, false, false, false, false, false, false, false, false, false, false, false, false, false, false, false, false, false, false, false, false, false, false, false, false, false, false, false, false, false, false, false, false, false] rfl rfl (any_of HT_.out (by kernel_rfl)) (fun _ _ _ h => h) (Or.inl ⟨by rfl, ?_⟩) ?_ ?_
                    rotate_left
                    · intro w'
                      go_simp
                      with_reducible rfl
                    rotate_left
                    · simp only [Act.put, List.setIfInBounds_toArray, List.set_cons_zero, List.set_cons_succ, i64_w, i32_w]
                      rfl
                    refine pure_ (i := 13) (N := some 110) (v := ?_) (a' := ?_) #[true, true, true, true, true, true, true, true, true, true, true, true, true, true, false, false, false, false, false, false, false, false, false, false, false, false, false, false, false, false, false, false, false, false, false, false, false, false, false, false, false, false, false, false, false, false, false, false, false, false, false, false, false, false, false, false, false, false, false] rfl rfl (any_of HT_.out (by kernel_rfl)) (fun _ _ _ h => h) (Or.inl ⟨by rfl, ?_⟩) ?_ ?_
                    rotate_left
                    · intro w'
                      go_simp
                      with_reducible rfl
                    rotate_left
                    · simp only [Act.put, List.setIfInBounds_toArray, List.set_cons_zero, List.set_cons_succ, i64_w, i32_w]
                      rfl
                    refine pure_ (i := 14) (N := some 111) (v := ?_) (a' := ?_) #[true, true, true, true, true, true, true, true, true, true, true, true, true, true, true, false, false, false, false, false, false, false, false, false, false, false, false, false, false, false, false, false, false, false, false, false, false, false, false, false, false, false, false, false, false, false, false, false, false, false, false, false, false, false, false, false, false, false, false] rfl rfl (any_of HT_.out (by kernel_rfl)) (fun _ _ _ h => h) (Or.inl ⟨by rfl, ?_⟩) ?_ ?_
                    rotate_left
                    · intro w'
                      go_simp
                      with_reducible rfl
                    rotate_left
                    · simp only [Act.put, List.setIfInBounds_toArray, List.set_cons_zero, List.set_cons_succ, i64_w, i32_w]
                      rfl
                    refine pure_ (i := 15) (N := some 112) (v := ?_) (a' := ?_) #[true, true, true, true, true, true, true, true, true, true, true, true, true, true, true, true, false, false, false, false, false, false, false, false, false, false, false, false, false, false, false, false, false, false, false, false, false, false, false, false, false, false, false, false, false, false, false, false, false, false, false, false, false, false, false, false, false, false, false] rfl rfl (any_of HT_.out (by kernel_rfl)) (fun _ _ _ h => h) (Or.inl ⟨by rfl, ?_⟩) ?_ ?_
                    rotate_left
                    · intro w'
                      go_simp
                      with_reducible rfl
                    rotate_left
                    · simp only [Act.put, List.setIfInBounds_toArray, List.set_cons_zero, List.set_cons_succ, i64_w, i32_w]
                      rfl
                    refine pure_ (i := 16) (N := some 113) (v := ?_) (a' := ?_) #[true, true, true, true, true, true, true, true, true, true, true, true, true, true, true, true, true, false, false, false, false, false, false, false, false, false, false, false, false, false, false, false, false, false, false, false, false, false, false, false, false, false, false, false, false, false, false, false, false, false, false, false, false, false, false, false, false, false, false] rfl rfl (any_of HT_.out (by kernel_rfl)) (fun _ _ _ h => h) (Or.inl ⟨by rfl, ?_⟩) ?_ ?_
                    rotate_left
                    · intro w'
                      go_simp
                      with_reducible rfl
                    rotate_left
                    · simp only [Act.put, List.setIfInBounds_toArray, List.set_cons_zero, List.set_cons_succ, i64_w, i32_w]
                      rfl
                    refine pure_ (i := 17) (N := some 114) (v := ?_) (a' := ?_) #[true, true, true, true, true, true, true, true, true, true, true, true, true, true, true, true, true, true, false, false, false, false, false, false, false, false, false, false, false, false, false, false, false, false, false, false, false, false, false, false, false, false, false, false, false, false, false, false, false, false, false, false, false, false, false, false, false, false, false] rfl rfl (any_of HT_.out (by kernel_rfl)) (fun _ _ _ h => h) (Or.inl ⟨by rfl, ?_⟩) ?_ ?_
                    rotate_left
                    · intro w'
                      go_simp
                      with_reducible rfl
                    rotate_left
                    · simp only [Act.put, List.setIfInBounds_toArray, List.set_cons_zero, List.set_cons_succ, i64_w, i32_w]
                      rfl
                    refine pure_ (i := 18) (N := some 115) (v := ?_) (a' := ?_) #[true, true, true, true, true, true, true, true, true, true, true, true, true, true, true, true, true, true, true, false, false, false, false, false, false, false, false, false, false, false, false, false, false, false, false, false, false, false, false, false, false, false, false, false, false, false, false, false, false, false, false, false, false, false, false, false, false, false, false] rfl rfl (any_of HT_.out (by kernel_rfl)) (fun _ _ _ h => h) (Or.inl ⟨by rfl, ?_⟩) ?_ ?_
                    rotate_left
                    · intro w'
                      go_simp
                      with_reducible rfl
                    rotate_left
                    · simp only [Act.put, List.setIfInBounds_toArray, List.set_cons_zero, List.set_cons_succ, i64_w, i32_w]
                      rfl
                    refine pure_ (i := 19) (N := some 116) (v := ?_) (a' := ?_) #[true, true, true, true, true, true, true, true, true, true, true, true, true, true, true, true, true, true, true, true, false, false, false, false, false, false, false, false, false, false, false, false, false, false, false, false, false, false, false, false, false, false, false, false, false, false, false, false, false, false, false, false, false, false, false, false, false, false, false] rfl rfl (any_of HT_.out (by kernel_rfl)) (fun _ _ _ h => h) (Or.inl ⟨by rfl, ?_⟩) ?_ ?_
                    rotate_left
                    · intro w'
                      go_simp
                      with_reducible rfl
                    rotate_left
                    · simp only [Act.put, List.setIfInBounds_toArray, List.set_cons_zero, List.set_cons_succ, i64_w, i32_w]
                      rfl
                    refine pure_ (i := 20) (N := some 117) (v := ?_) (a' := ?_) #[true, true, true, true, true, true, true, true, true, true, true, true, true, true, true, true, true, true, true, true, true, false, false, false, false, false, false, false, false, false, false, false, false, false, false, false, false, false, false, false, false, false, false, false, false, false, false, false, false, false, false, false, false, false, false, false, false, false, false] rfl rfl (any_of HT_.out (by kernel_rfl)) (fun _ _ _ h => h) (Or.inl ⟨by rfl, ?_⟩) ?_ ?_
                    rotate_left
                    · intro w'
                      go_simp
                      with_reducible rfl
                    rotate_left
                    · simp only [Act.put, List.setIfInBounds_toArray, List.set_cons_zero, List.set_cons_succ, i64_w, i32_w]
                      rfl
                    refine pure_ (i := 21) (N := some 118) (v := ?_) (a' := ?_) #[true, true, true, true, true, true, true, true, true, true, true, true, true, true, true, true, true, true, true, true, true, true, false, false, false, false, false, false, false, false, false, false, false, false, false, false, false, false, false, false, false, false, false, false, false, false, false, false, false, false, false, false, false, false, false, false, false, false, false] rfl rfl (any_of HT_.out (by kernel_rfl)) (fun _ _ _ h => h) (Or.inl ⟨by rfl, ?_⟩) ?_ ?_
                    rotate_left
                    · intro w'
                      go_simp
                      with_reducible rfl
                    rotate_left
                    · simp only [Act.put, List.setIfInBounds_toArray, List.set_cons_zero, List.set_cons_succ, i64_w, i32_w]
                      rfl
                    refine pure_ (i := 22) (N := some 119) (v := ?_) (a' := ?_) #[true, true, true, true, true, true, true, true, true, true, true, true, true, true, true, true, true, true, true, true, true, true, true, false, false, false, false, false, false, false, false, false, false, false, false, false, false, false, false, false, false, false, false, false, false, false, false, false, false, false, false, false, false, false, false, false, false, false, false] rfl rfl (any_of HT_.out (by kernel_rfl)) (fun _ _ _ h => h) (Or.inl ⟨by rfl, ?_⟩) ?_ ?_
                    rotate_left
                    · intro w'
                      go_simp
                      with_reducible rfl
                    rotate_left
                    · simp only [Act.put, List.setIfInBounds_toArray, List.set_cons_zero, List.set_cons_succ, i64_w, i32_w]
                      rfl
                    refine pure_ (i := 23) (N := some 120) (v := ?_) (a' := ?_) #[true, true, true, true, true, true, true, true, true, true, true, true, true, true, true, true, true, true, true, true, true, true, true, true, false, false, false, false, false, false, false, false, false, false, false, false, false, false, false, false, false, false, false, false, false, false, false, false, false, false, false, false, false, false, false, false, false, false, false] rfl rfl (any_of HT_.out (by kernel_rfl)) (fun _ _ _ h => h) (Or.inl ⟨by rfl, ?_⟩) ?_ ?_
                    rotate_left
                    · intro w'
                      go_simp
                      with_reducible rfl
                    rotate_left
                    · simp only [Act.put, List.setIfInBounds_toArray, List.set_cons_zero, List.set_cons_succ, i64_w, i32_w]
                      rfl
                    refine pure_ (i := 24) (N := some 121) (v := ?_) (a' := ?_) #[true, true, true, true, true, true, true, true, true, true, true, true, true, true, true, true, true, true, true, true, true, true, true, true, true, false, false, false, false, false, false, false, false, false, false, false, false, false, false, false, false, false, false, false, false, false, false, false, false, false, false, false, false, false, false, false, false, false, false] rfl rfl (any_of HT_.out (by kernel_rfl)) (fun _ _ _ h => h) (Or.inl ⟨by rfl, ?_⟩) ?_ ?_
                    rotate_left
                    · intro w'
                      go_simp
                      with_reducible rfl
                    rotate_left
                    · simp only [Act.put, List.setIfInBounds_toArray, List.set_cons_zero, List.set_cons_succ, i64_w, i32_w]
                      rfl
                    refine pure_ (i := 25) (N := some 122) (v := ?_) (a' := ?_) #[true, true, true, true, true, true, true, true, true, true, true, true, true, true, true, true, true, true, true, true, true, true, true, true, true, true, false, false, false, false, false, false, false, false, false, false, false, false, false, false, false, false, false, false, false, false, false, false, false, false, false, false, false, false, false, false, false, false, false] rfl rfl (any_of HT_.out (by kernel_rfl)) (fun _ _ _ h => h) (Or.inl ⟨by rfl, ?_⟩) ?_ ?_
                    rotate_left
                    · intro w'
                      go_simp
                      with_reducible rfl
                    rotate_left
                    · simp only [Act.put, List.setIfInBounds_toArray, List.set_cons_zero, List.set_cons_succ, i64_w, i32_w]
                      rfl
                    refine pure_ (i := 26) (N := some 123) (v := ?_) (a' := ?_) #[true, true, true, true, true, true, true, true, true, true, true, true, true, true, true, true, true, true, true, true, true, true, true, true, true, true, true, false, false, false, false, false, false, false, false, false, false, false, false, false, false, false, false, false, false, false, false, false, false, false, false, false, false, false, false, false, false, false, false] rfl rfl (any_of HT_.out (by kernel_rfl)) (fun _ _ _ h => h) (Or.inl ⟨by rfl, ?_⟩) ?_ ?_
                    rotate_left
                    · intro w'
                      go_simp
                      with_reducible rfl
                    rotate_left
                    · simp only [Act.put, List.setIfInBounds_toArray, List.set_cons_zero, List.set_cons_succ, i64_w, i32_w]
                      rfl
                    refine pure_ (i := 27) (N := some 124) (v := ?_) (a' := ?_) #[true, true, true, true, true, true, true, true, true, true, true, true, true, true, true, true, true, true, true, true, true, true, true, true, true, true, true, true, false, false, false, false, false, false, false, false, false, false, false, false, false, false, false, false, false, false, false, false, false, false, false, false, false, false, false, false, false, false, false] rfl rfl (any_of HT_.out (by kernel_rfl)) (fun _ _ _ h => h) (Or.inl ⟨by rfl, ?_⟩) ?_ ?_
                    rotate_left
                    · intro w'
                      go_simp
                      with_reducible rfl
                    rotate_left
                    · simp only [Act.put, List.setIfInBounds_toArray, List.set_cons_zero, List.set_cons_succ, i64_w, i32_w]
                      rfl
                    refine pure_ (i := 28) (N := some 125) (v := undef) (a' := ?_) #[true, true, true, true, true, true, true, true, true, true, true, true, true, true, true, true, true, true, true, true, true, true, true, true, true, true, true, true, true, false, false, false, false, false, false, false, false, false, false, false, false, false, false, false, false, false, false, false, false, false, false, false, false, false, false, false, false, false, false] rfl rfl (any_of HT_.out (by kernel_rfl)) (fun _ _ _ h => h) (Or.inr ⟨by rfl, rfl⟩) ?_ ?_
                    rotate_left
                    · simp only [Act.put, List.setIfInBounds_toArray, List.set_cons_zero, List.set_cons_succ, i64_w, i32_w]
                      rfl
                    refine pure_ (i := 29) (N := some 126) (v := undef) (a' := ?_) #[true, true, true, true, true, true, true, true, true, true, true, true, true, true, true, true, true, true, true, true, true, true, true, true, true, true, true, true, true, true, false, false, false, false, false, false, false, false, false, false, false, false, false, false, false, false, false, false, false, false, false, false, false, false, false, false, false, false, false] rfl rfl (any_of HT_.out (by kernel_rfl)) (fun _ _ _ h => h) (Or.inr ⟨by rfl, rfl⟩) ?_ ?_
                    rotate_left
                    · simp only [Act.put, List.setIfInBounds_toArray, List.set_cons_zero, List.set_cons_succ, i64_w, i32_w]
                      rfl
                    refine pure_ (i := 30) (N := some 127) (v := undef) (a' := ?_) #[true, true, true, true, true, true, true, true, true, true, true, true, true, true, true, true, true, true, true, true, true, true, true, true, true, true, true, true, true, true, true, false, false, false, false, false, false, false, false, false, false, false, false, false, false, false, false, false, false, false, false, false, false, false, false, false, false, false, false] rfl rfl (any_of HT_.out (by kernel_rfl)) (fun _ _ _ h => h) (Or.inr ⟨by rfl, rfl⟩) ?_ ?_
                    rotate_left
                    · simp only [Act.put, List.setIfInBounds_toArray, List.set_cons_zero, List.set_cons_succ, i64_w, i32_w]
                      rfl
                    refine pure_ (i := 31) (N := some 128) (v := undef) (a' := ?_) #[true, true, true, true, true, true, true, true, true, true, true, true, true, true, true, true, true, true, true, true, true, true, true, true, true, true, true, true, true, true, true, true, false, false, false, false, false, false, false, false, false, false, false, false, false, false, false, false, false, false, false, false, false, false, false, false, false, false, false] rfl rfl (any_of HT_.out (by kernel_rfl)) (fun _ _ _ h => h) (Or.inr ⟨by rfl, rfl⟩) ?_ ?_
                    rotate_left
                    · simp only [Act.put, List.setIfInBounds_toArray, List.set_cons_zero, List.set_cons_succ, i64_w, i32_w]
                      rfl
                    refine pure_ (i := 32) (N := some 129) (v := undef) (a' := ?_) #[true, true, true, true, true, true, true, true, true, true, true, true, true, true, true, true, true, true, true, true, true, true, true, true, true, true, true, true, true, true, true, true, true, false, false, false, false, false, false, false, false, false, false, false, false, false, false, false, false, false, false, false, false, false, false, false, false, false, false] rfl rfl (any_of HT_.out (by kernel_rfl)) (fun _ _ _ h => h) (Or.inr ⟨by rfl, rfl⟩) ?_ ?_
                    rotate_left
                    · simp only [Act.put, List.setIfInBounds_toArray, List.set_cons_zero, List.set_cons_succ, i64_w, i32_w]
                      rfl
                    refine pure_ (i := 33) (N := some 130) (v := undef) (a' := ?_) #[true, true, true, true, true, true, true, true, true, true, true, true, true, true, true, true, true, true, true, true, true, true, true, true, true, true, true, true, true, true, true, true, true, true, false, false, false, false, false, false, false, false, false, false, false, false, false, false, false, false, false, false, false, false, false, false, false, false, false] rfl rfl (any_of HT_.out (by kernel_rfl)) (fun _ _ _ h => h) (Or.inr ⟨by rfl, rfl⟩) ?_ ?_
                    rotate_left
                    · simp only [Act.put, List.setIfInBounds_toArray, List.set_cons_zero, List.set_cons_succ, i64_w, i32_w]
                      rfl
                    refine pure_ (i := 34) (N := some 131) (v := ?_) (a' := ?_) #[true, true, true, true, true, true, true, true, true, true, true, true, true, true, true, true, true, true, true, true, true, true, true, true, true, true, true, true, true, true, true, true, true, true, true, false, false, false, false, false, false, false, false, false, false, false, false, false, false, false, false, false, false, false, false, false, false, false, false] rfl rfl (any_of HT_.out (by kernel_rfl)) (fun _ _ _ h => h) (Or.inl ⟨by rfl, ?_⟩) ?_ ?_
                    rotate_left
                    · intro w'
                      go_simp
                      with_reducible rfl
                    rotate_left
                    · simp only [Act.put, List.setIfInBounds_toArray, List.set_cons_zero, List.set_cons_succ, i64_w, i32_w]
                      rfl
                    refine pure_ (i := 35) (N := some 132) (v := ?_) (a' := ?_) #[true, true, true, true, true, true, true, true, true, true, true, true, true, true, true, true, true, true, true, true, true, true, true, true, true, true, true, true, true, true, true, true, true, true, true, true, false, false, false, false, false, false, false, false, false, false, false, false, false, false, false, false, false, false, false, false, false, false, false] rfl rfl (any_of HT_.out (by kernel_rfl)) (fun _ _ _ h => h) (Or.inl ⟨by rfl, ?_⟩) ?_ ?_
                    rotate_left
                    · intro w'
                      go_simp
                      with_reducible rfl
                    rotate_left
                    · simp only [Act.put, List.setIfInBounds_toArray, List.set_cons_zero, List.set_cons_succ, i64_w, i32_w]
                      rfl
                    refine pure_ (i := 36) (N := some 133) (v := ?_) (a' := ?_) #[true, true, true, true, true, true, true, true, true, true, true, true, true, true, true, true, true, true, true, true, true, true, true, true, true, true, true, true, true, true, true, true, true, true, true, true, true, false, false, false, false, false, false, false, false, false, false, false, false, false, false, false, false, false, false, false, false, false, false] rfl rfl (any_of HT_.out (by kernel_rfl)) (fun _ _ _ h => h) (Or.inl ⟨by rfl, ?_⟩) ?_ ?_
                    rotate_left
                    · intro w'
                      go_simp
                      with_reducible rfl
                    rotate_left
                    · simp only [Act.put, List.setIfInBounds_toArray, List.set_cons_zero, List.set_cons_succ, i64_w, i32_w]
                      rfl
                    refine pure_ (i := 37) (N := some 134) (v := ?_) (a' := ?_) #[true, true, true, true, true, true, true, true, true, true, true, true, true, true, true, true, true, true, true, true, true, true, true, true, true, true, true, true, true, true, true, true, true, true, true, true, true, true, false, false, false, false, false, false, false, false, false, false, false, false, false, false, false, false, false, false, false, false, false] rfl rfl (any_of HT_.out (by kernel_rfl)) (fun _ _ _ h => h) (Or.inl ⟨by rfl, ?_⟩) ?_ ?_
                    rotate_left
                    · intro w'
                      go_simp
                      with_reducible rfl
                    rotate_left
                    · simp only [Act.put, List.setIfInBounds_toArray, List.set_cons_zero, List.set_cons_succ, i64_w, i32_w]
                      rfl
                    refine pure_ (i := 38) (N := some 135) (v := ?_) (a' := ?_) #[true, true, true, true, true, true, true, true, true, true, true, true, true, true, true, true, true, true, true, true, true, true, true, true, true, true, true, true, true, true, true, true, true, true, true, true, true, true, true, false, false, false, false, false, false, false, false, false, false, false, false, false, false, false, false, false, false, false, false] rfl rfl (any_of HT_.out (by kernel_rfl)) (fun _ _ _ h => h) (Or.inl ⟨by rfl, ?_⟩) ?_ ?_
                    rotate_left
                    · intro w'
                      go_simp
                      with_reducible rfl
                    rotate_left
                    · simp only [Act.put, List.setIfInBounds_toArray, List.set_cons_zero, List.set_cons_succ, i64_w, i32_w]
                      rfl
                    refine pure_ (i := 39) (N := some 136) (v := ?_) (a' := ?_) #[true, true, true, true, true, true, true, true, true, true, true, true, true, true, true, true, true, true, true, true, true, true, true, true, true, true, true, true, true, true, true, true, true, true, true, true, true, true, true, true, false, false, false, false, false, false, false, false, false, false, false, false, false, false, false, false, false, false, false] rfl rfl (any_of HT_.out (by kernel_rfl)) (fun _ _ _ h => h) (Or.inl ⟨by rfl, ?_⟩) ?_ ?_
                    rotate_left
                    · intro w'
                      go_simp
                      with_reducible rfl
                    rotate_left
                    · simp only [Act.put, List.setIfInBounds_toArray, List.set_cons_zero, List.set_cons_succ, i64_w, i32_w]
                      rfl
                    refine pure_ (i := 40) (N := some 137) (v := ?_) (a' := ?_) #[true, true, true, true, true, true, true, true, true, true, true, true, true, true, true, true, true, true, true, true, true, true, true, true, true, true, true, true, true, true, true, true, true, true, true, true, true, true, true, true, true, false, false, false, false, false, false, false, false, false, false, false, false, false, false, false, false, false, false] rfl rfl (any_of HT_.out (by kernel_rfl)) (fun _ _ _ h => h) (Or.inl ⟨by rfl, ?_⟩) ?_ ?_
                    rotate_left
                    · intro w'
                      go_simp
                      with_reducible rfl
                    rotate_left
                    · simp only [Act.put, List.setIfInBounds_toArray, List.set_cons_zero, List.set_cons_succ, i64_w, i32_w]
                      rfl
                    refine pure_ (i := 41) (N := some 138) (v := ?_) (a' := ?_) #[true, true, true, true, true, true, true, true, true, true, true, true, true, true, true, true, true, true, true, true, true, true, true, true, true, true, true, true, true, true, true, true, true, true, true, true, true, true, true, true, true, true, false, false, false, false, false, false, false, false, false, false, false, false, false, false, false, false, false] rfl rfl (any_of HT_.out (by kernel_rfl)) (fun _ _ _ h => h) (Or.inl ⟨by rfl, ?_⟩) ?_ ?_
                    rotate_left
                    · intro w'
                      go_simp
                      with_reducible rfl
                    rotate_left
                    · simp only [Act.put, List.setIfInBounds_toArray, List.set_cons_zero, List.set_cons_succ, i64_w, i32_w]
                      rfl
                    refine pure_ (i := 42) (N := some 139) (v := ?_) (a' := ?_) #[true, true, true, true, true, true, true, true, true, true, true, true, true, true, true, true, true, true, true, true, true, true, true, true, true, true, true, true, true, true, true, true, true, true, true, true, true, true, true, true, true, true, true, false, false, false, false, false, false, false, false, false, false, false, false, false, false, false, false] rfl rfl (any_of HT_.out (by kernel_rfl)) (fun _ _ _ h => h) (Or.inl ⟨by rfl, ?_⟩) ?_ ?_
                    rotate_left
                    · intro w'
                      go_simp
                      with_reducible rfl
                    rotate_left
                    · simp only [Act.put, List.setIfInBounds_toArray, List.set_cons_zero, List.set_cons_succ, i64_w, i32_w]
                      rfl
                    refine pure_ (i := 43) (N := some 140) (v := ?_) (a' := ?_) #[true, true, true, true, true, true, true, true, true, true, true, true, true, true, true, true, true, true, true, true, true, true, true, true, true, true, true, true, true, true, true, true, true, true, true, true, true, true, true, true, true, true, true, true, false, false, false, false, false, false, false, false, false, false, false, false, false, false, false] rfl rfl (any_of HT_.out (by kernel_rfl)) (fun _ _ _ h => h) (Or.inl ⟨by rfl, ?_⟩) ?_ ?_
                    rotate_left
                    · intro w'
                      go_simp
                      with_reducible rfl
                    rotate_left
                    · simp only [Act.put, List.setIfInBounds_toArray, List.set_cons_zero, List.set_cons_succ, i64_w, i32_w]
                      rfl
                    refine pure_ (i := 44) (N := some 141) (v := ?_) (a' := ?_) #[true, true, true, true, true, true, true, true, true, true, true, true, true, true, true, true, true, true, true, true, true, true, true, true, true, true, true, true, true, true, true, true, true, true, true, true, true, true, true, true, true, true, true, true, true, false, false, false, false, false, false, false, false, false, false, false, false, false, false] rfl rfl (any_of HT_.out (by kernel_rfl)) (fun _ _ _ h => h) (Or.inl ⟨by rfl, ?_⟩) ?_ ?_
                    rotate_left
                    · intro w'
                      go_simp
                      with_reducible rfl
                    rotate_left
                    · simp only [Act.put, List.setIfInBounds_toArray, List.set_cons_zero, List.set_cons_succ, i64_w, i32_w]
                      rfl
                    refine pure_ (i := 47) (N := some 144) (v := ?_) (a' := ?_) #[true, true, true, true, true, true, true, true, true, true, true, true, true, true, true, true, true, true, true, true, true, true, true, true, true, true, true, true, true, true, true, true, true, true, true, true, true, true, true, true, true, true, true, true, true, false, false, true, false, false, false, false, false, false, false, false, false, false, false] rfl rfl (any_of HT_.out (by kernel_rfl)) (fun _ _ _ h => h) (Or.inl ⟨by rfl, ?_⟩) ?_ ?_
                    rotate_left
                    · intro w'
                      go_simp
                      with_reducible rfl
                    rotate_left
                    · simp only [Act.put, List.setIfInBounds_toArray, List.set_cons_zero, List.set_cons_succ, i64_w, i32_w]
                      rfl
                    refine pure_ (i := 48) (N := some 145) (v := ?_) (a' := ?_) #[true, true, true, true, true, true, true, true, true, true, true, true, true, true, true, true, true, true, true, true, true, true, true, true, true, true, true, true, true, true, true, true, true, true, true, true, true, true, true, true, true, true, true, true, true, false, false, true, true, false, false, false, false, false, false, false, false, false, false] rfl rfl (any_of HT_.out (by kernel_rfl)) (fun _ _ _ h => h) (Or.inl ⟨by rfl, ?_⟩) ?_ ?_
                    rotate_left
                    · intro w'
                      go_simp
                      with_reducible rfl
                    rotate_left
                    · simp only [Act.put, List.setIfInBounds_toArray, List.set_cons_zero, List.set_cons_succ, i64_w, i32_w]
                      rfl
                    refine pure_ (i := 50) (N := some 147) (v := ?_) (a' := ?_) #[true, true, true, true, true, true, true, true, true, true, true, true, true, true, true, true, true, true, true, true, true, true, true, true, true, true, true, true, true, true, true, true, true, true, true, true, true, true, true, true, true, true, true, true, true, false, false, true, true, false, true, false, false, false, false, false, false, false, false] rfl rfl (any_of HT_.out (by kernel_rfl)) (fun _ _ _ h => h) (Or.inl ⟨by rfl, ?_⟩) ?_ ?_
                    rotate_left
                    · intro w'
                      go_simp
                      with_reducible rfl
                    rotate_left
                    · simp only [Act.put, List.setIfInBounds_toArray, List.set_cons_zero, List.set_cons_succ, i64_w, i32_w]
                      rfl
                    refine one_ (i := 45) (N := some 142) #[true, true, true, true, true, true, true, true, true, true, true, true, true, true, true, true, true, true, true, true, true, true, true, true, true, true, true, true, true, true, true, true, true, true, true, true, true, true, true, true, true, true, true, true, true, true, false, true, true, false, true, false, false, false, false, false, false, false, false] rfl rfl (one_of HT_.out (by kernel_rfl)) (by decide) (fun K hK => ?_)
                    refine goes_ Try.func7 (by kernel_rfl) rfl #[.int .i64 a6, .int .i64 12] (by rfl) rfl rfl (by (try simp only [List.map_toArray, List.map_cons, List.map_nil]); first | done | rfl | (simp only [List.length_drop, List.length_take]; rfl)) ?_
                    with_reducible refine (tilefarmgen_Mod.calls a6 12 t167 _ A30.out).mono ?_
                    rintro e w' ⟨rfl, ⟨nd, rfl⟩⟩
                    refine ⟨_, rfl, ?_⟩
                    refine hK.out _ _ trivial (fun hHeld => ?_)
                    clear hK K
                    refine norm_ (a' := ?_) ?_ ?_
                    rotate_left
                    · show Act.put _ (some 142) _ = _
                      simp only [Act.put, List.setIfInBounds_toArray, List.set_cons_zero, List.set_cons_succ, i64_w, i32_w]
                      rfl
                    refine pure_ (i := 46) (N := some 143) (v := ?_) (a' := ?_) #[true, true, true, true, true, true, true, true, true, true, true, true, true, true, true, true, true, true, true, true, true, true, true, true, true, true, true, true, true, true, true, true, true, true, true, true, true, true, true, true, true, true, true, true, true, true, true, true, true, false, true, false, false, false, false, false, false, false, false] rfl rfl (any_of HT_.out (by kernel_rfl)) (fun _ _ _ h => h) (Or.inl ⟨by rfl, ?_⟩) ?_ ?_
                    rotate_left
                    · intro w'
                      go_simp
                      with_reducible rfl
                    rotate_left
                    · simp only [Act.put, List.setIfInBounds_toArray, List.set_cons_zero, List.set_cons_succ, i64_w, i32_w]
                      rfl
                    refine pure_ (i := 49) (N := some 146) (v := ?_) (a' := ?_) #[true, true, true, true, true, true, true, true, true, true, true, true, true, true, true, true, true, true, true, true, true, true, true, true, true, true, true, true, true, true, true, true, true, true, true, true, true, true, true, true, true, true, true, true, true, true, true, true, true, true, true, false, false, false, false, false, false, false, false] rfl rfl (any_of HT_.out (by kernel_rfl)) (fun _ _ _ h => h) (Or.inl ⟨by rfl, ?_⟩) ?_ ?_
                    rotate_left
                    · intro w'
                      go_simp
                      with_reducible rfl
                    rotate_left
                    · simp only [Act.put, List.setIfInBounds_toArray, List.set_cons_zero, List.set_cons_succ, i64_w, i32_w]
                      rfl
                    refine pure_ (i := 51) (N := some 148) (v := ?_) (a' := ?_) #[true, true, true, true, true, true, true, true, true, true, true, true, true, true, true, true, true, true, true, true, true, true, true, true, true, true, true, true, true, true, true, true, true, true, true, true, true, true, true, true, true, true, true, true, true, true, true, true, true, true, true, true, false, false, false, false, false, false, false] rfl rfl (any_of HT_.out (by kernel_rfl)) (fun _ _ _ h => h) (Or.inl ⟨by rfl, ?_⟩) ?_ ?_
                    rotate_left
                    · intro w'
                      go_simp
                      with_reducible rfl
                    rotate_left
                    · simp only [Act.put, List.setIfInBounds_toArray, List.set_cons_zero, List.set_cons_succ, i64_w, i32_w]
                      rfl
                    refine pure_ (i := 52) (N := some 149) (v := ?_) (a' := ?_) #[true, true, true, true, true, true, true, true, true, true, true, true, true, true, true, true, true, true, true, true, true, true, true, true, true, true, true, true, true, true, true, true, true, true, true, true, true, true, true, true, true, true, true, true, true, true, true, true, true, true, true, true, true, false, false, false, false, false, false] rfl rfl (any_of HT_.out (by kernel_rfl)) (fun _ _ _ h => h) (Or.inl ⟨by rfl, ?_⟩) ?_ ?_
                    rotate_left
                    · intro w'
                      go_simp
                      with_reducible rfl
                    rotate_left
                    · simp only [Act.put, List.setIfInBounds_toArray, List.set_cons_zero, List.set_cons_succ, i64_w, i32_w]
                      rfl
                    refine pure_ (i := 53) (N := some 150) (v := ?_) (a' := ?_) #[true, true, true, true, true, true, true, true, true, true, true, true, true, true, true, true, true, true, true, true, true, true, true, true, true, true, true, true, true, true, true, true, true, true, true, true, true, true, true, true, true, true, true, true, true, true, true, true, true, true, true, true, true, true, false, false, false, false, false] rfl rfl (any_of HT_.out (by kernel_rfl)) (fun _ _ _ h => h) (Or.inl ⟨by rfl, ?_⟩) ?_ ?_
                    rotate_left
                    · intro w'
                      go_simp
                      with_reducible rfl
                    rotate_left
                    · simp only [Act.put, List.setIfInBounds_toArray, List.set_cons_zero, List.set_cons_succ, i64_w, i32_w]
                      rfl
                    refine pure_ (i := 54) (N := some 151) (v := ?_) (a' := ?_) #[true, true, true, true, true, true, true, true, true, true, true, true, true, true, true, true, true, true, true, true, true, true, true, true, true, true, true, true, true, true, true, true, true, true, true, true, true, true, true, true, true, true, true, true, true, true, true, true, true, true, true, true, true, true, true, false, false, false, false] rfl rfl (any_of HT_.out (by kernel_rfl)) (fun _ _ _ h => h) (Or.inl ⟨by rfl, ?_⟩) ?_ ?_
                    rotate_left
                    · intro w'
                      go_simp
                      with_reducible rfl
                    rotate_left
                    · simp only [Act.put, List.setIfInBounds_toArray, List.set_cons_zero, List.set_cons_succ, i64_w, i32_w]
                      rfl
                    refine pure_ (i := 55) (N := some 152) (v := ?_) (a' := ?_) #[true, true, true, true, true, true, true, true, true, true, true, true, true, true, true, true, true, true, true, true, true, true, true, true, true, true, true, true, true, true, true, true, true, true, true, true, true, true, true, true, true, true, true, true, true, true, true, true, true, true, true, true, true, true, true, true, false, false, false] rfl rfl (any_of HT_.out (by kernel_rfl)) (fun _ _ _ h => h) (Or.inl ⟨by rfl, ?_⟩) ?_ ?_
                    rotate_left
                    · intro w'
                      go_simp
                      with_reducible rfl
                    rotate_left
                    · simp only [Act.put, List.setIfInBounds_toArray, List.set_cons_zero, List.set_cons_succ, i64_w, i32_w]
                      rfl
                    refine one_ (i := 56) (N := some 153) #[true, true, true, true, true, true, true, true, true, true, true, true, true, true, true, true, true, true, true, true, true, true, true, true, true, true, true, true, true, true, true, true, true, true, true, true, true, true, true, true, true, true, true, true, true, true, true, true, true, true, true, true, true, true, true, true, true, false, false] rfl rfl (one_of HT_.out (by kernel_rfl)) (by decide) (fun K hK => ?_)
                    refine goes_ Try.func10 (by kernel_rfl) rfl #[] (by rfl) rfl rfl (by (try simp only [List.map_toArray, List.map_cons, List.map_nil]); first | done | rfl | (simp only [List.length_drop, List.length_take]; rfl)) ?_
                    with_reducible refine (tilefarmlaw5_sane.calls k  t168 _ A33.out).mono ?_
                    rintro e w36 ⟨rfl, hb⟩
                    refine ⟨_, rfl, ?_⟩
                    have n0_ := Aside0.mk (below_step (by repeat (first | (with_reducible first | exact HB.out | apply below_alloc | apply pw_below_drewN | apply below_drew1) | exact HB.out)) hb)
                    clear HB
                    have HB := n0_
                    clear n0_
                    (try clear hb)
                    (try clear hb2)
                    (try clear hk)
                    (try clear hi)
                    refine hK.out _ _ trivial (fun hHeld => ?_)
                    clear hK K
                    refine norm_ (a' := ?_) ?_ ?_
                    rotate_left
                    · show Act.put _ (some 153) _ = _
                      simp only [Act.put, List.setIfInBounds_toArray, List.set_cons_zero, List.set_cons_succ, i64_w, i32_w]
                      rfl
                    refine pure_ (i := 57) (N := some 154) (v := ?_) (a' := ?_) #[true, true, true, true, true, true, true, true, true, true, true, true, true, true, true, true, true, true, true, true, true, true, true, true, true, true, true, true, true, true, true, true, true, true, true, true, true, true, true, true, true, true, true, true, true, true, true, true, true, true, true, true, true, true, true, true, true, true, false] rfl rfl (any_of HT_.out (by kernel_rfl)) (fun _ _ _ h => h) (Or.inl ⟨by rfl, ?_⟩) ?_ ?_
                    rotate_left
                    · intro w'
                      go_simp
                      with_reducible rfl
                    rotate_left
                    · simp only [Act.put, List.setIfInBounds_toArray, List.set_cons_zero, List.set_cons_succ, i64_w, i32_w]
                      rfl
                    refine pure_ (i := 58) (N := some 14) (v := ?_) (a' := ?_) #[true, true, true, true, true, true, true, true, true, true, true, true, true, true, true, true, true, true, true, true, true, true, true, true, true, true, true, true, true, true, true, true, true, true, true, true, true, true, true, true, true, true, true, true, true, true, true, true, true, true, true, true, true, true, true, true, true, true, true] rfl rfl (any_of HT_.out (by kernel_rfl)) (fun _ _ _ h => h) (Or.inl ⟨by rfl, ?_⟩) ?_ ?_
                    rotate_left
                    · intro w'
                      go_simp
                      with_reducible rfl
                    rotate_left
                    · simp only [Act.put, List.setIfInBounds_toArray, List.set_cons_zero, List.set_cons_succ, i64_w, i32_w]
                      rfl
                    refine done_ (done_of HT_.out (by kernel_rfl)) ?_
                    try go_wp2
                    go_ret
                    exact ⟨by first | rfl | (simp [errW_none, errW_some] <;> rfl) | (simp only [← hji16, ← hji19, ← hji31]; first | rfl | (simp [errW_none, errW_some] <;> rfl)) | (simp [*, errW_none, errW_some] <;> rfl), by repeat (first | (with_reducible first | exact HB.out | apply below_alloc | apply pw_below_drewN | apply below_drew1) | exact HB.out)⟩
                  · rw [if_neg c32] at H
                    have c32b0 : ((t163 == t157) == ((wrap64 (Int.tdiv t156 (wrap64 (1 + t154)))) == (wrap64 (Int.tdiv (ji31) (wrap64 (1 + t154)))))) = false := by simpa using c32
                    (try (have c32b1 : decide ((t163 == t157) = ((wrap64 (Int.tdiv t156 (wrap64 (1 + t154)))) == (wrap64 (Int.tdiv (ji31) (wrap64 (1 + t154)))))) = false := by simpa using c32))
                    (try (have c32b2 : ((t163 == t157) == ((wrap64 (Int.tdiv t156 (wrap64 (1 + t154)))) == (wrap64 (Int.tdiv (ji31) (wrap64 (1 + t154)))))) = false := by simpa using c32))
                    (try (have c32b3 : ¬ ((t163 == t157) = ((wrap64 (Int.tdiv t156 (wrap64 (1 + t154)))) == (wrap64 (Int.tdiv (ji31) (wrap64 (1 + t154)))))) := by simpa using c32))
                    clear c32
                    exact absurd ((Option.some.inj H).trans HT.out) (by decide)
              · rw [if_neg c28] at H
                have c28b0 : (t165 == 0) = false := beq_eq_false_iff_ne.mpr c28
                have c28b1 : (t165 != 0) = true := bne_iff_ne.mpr c28
                by_cases c37 : (Int.tmod (wrap64 (t163 - t157)) t165) = 0
                · rw [if_pos c37] at H
                  have c37b0 : ((Int.tmod (wrap64 (t163 - t157)) t165) == 0) = true := beq_iff_eq.mpr c37
                  have c37b1 : ((Int.tmod (wrap64 (t163 - t157)) t165) != 0) = false := bne_eq_false_iff_eq.mpr c37
                  clear c37
                  by_cases c38 : (wrap64 (1 + t154)) = 0
                  · rw [if_pos c38] at H
                    exact absurd H (by simp)
                  · rw [if_neg c38] at H
                    have c38b0 : ((wrap64 (1 + t154)) == 0) = false := beq_eq_false_iff_ne.mpr c38
                    have c38b1 : ((wrap64 (1 + t154)) != 0) = true := bne_iff_ne.mpr c38
                    replace H := Option.bind_eq_some_iff.mp H
                    obtain ⟨t169, A390, H⟩ := H
                    replace H : (if ((t163 == t157) == ((wrap64 (Int.tdiv t156 (wrap64 (1 + t154)))) == (wrap64 (Int.tdiv (mn (wrap64 (t156 + t169)) (wrap64 ((wrap64 (1 + t152)) - 1))) (wrap64 (1 + t154)))))) = true then ((tilefarmlaw5_sane.f k).bind fun t170 => (some t170)) else (some false)) = some r := H
                    have A39 := Aside0.mk A390
                    clear A390
                    obtain ⟨ji40, hji40⟩ : ∃ j_ : Int, (mn (wrap64 (t156 + t169)) (wrap64 ((wrap64 (1 + t152)) - 1))) = j_ := ⟨_, rfl⟩
                    replace H : (if ((t163 == t157) == ((wrap64 (Int.tdiv t156 (wrap64 (1 + t154)))) == (wrap64 (Int.tdiv (ji40) (wrap64 (1 + t154)))))) = true then ((tilefarmlaw5_sane.f k).bind fun t170 => (some t170)) else (some false)) = some r := by first | (rw [hji40] at H; exact H) | (simp only [hji40] at H ⊢; exact H)
                    (try rw [hji40] at A8)
                    (try rw [hji40] at A9)
                    (try rw [hji40] at A10)
                    (try rw [hji40] at A11)
                    (try rw [hji40] at A12)
                    (try rw [hji40] at A13)
                    (try rw [hji40] at A14)
                    (try rw [hji40] at A15)
                    (try rw [hji40] at A17)
                    (try rw [hji40] at A18)
                    (try rw [hji40] at A20)
                    (try rw [hji40] at A21)
                    (try rw [hji40] at A39)
                    have hji40_ : (if (wrap64 ((wrap64 (1 + t152)) - 1)) < (wrap64 (t156 + t169)) then (wrap64 ((wrap64 (1 + t152)) - 1)) else (wrap64 (t156 + t169))) = ji40 := hji40
                    by_cases c41 : ((t163 == t157) == ((wrap64 (Int.tdiv t156 (wrap64 (1 + t154)))) == (wrap64 (Int.tdiv (ji40) (wrap64 (1 + t154)))))) = true
                    · rw [if_pos c41] at H
                      have c41b0 : ((t163 == t157) == ((wrap64 (Int.tdiv t156 (wrap64 (1 + t154)))) == (wrap64 (Int.tdiv (ji40) (wrap64 (1 + t154)))))) = true := c41
                      (try (have c41b1 : decide ((t163 == t157) = ((wrap64 (Int.tdiv t156 (wrap64 (1 + t154)))) == (wrap64 (Int.tdiv (ji40) (wrap64 (1 + t154)))))) = true := by simpa using c41))
                      (try (have c41b2 : ((t163 == t157) == ((wrap64 (Int.tdiv t156 (wrap64 (1 + t154)))) == (wrap64 (Int.tdiv (ji40) (wrap64 (1 + t154)))))) = true := by simpa using c41))
                      clear c41
                      replace H := Option.bind_eq_some_iff.mp H
                      obtain ⟨t170, A420, H⟩ := H
                      replace H : (some t170) = some r := H
                      have A42 := Aside0.mk A420
                      clear A420
                      obtain rfl := Option.some.inj H
                      go_enter Try.func3, Try.ntmps3
                      try go_wp2_with (first | ((with_reducible refine gate_callee (f := 7) rfl ?_); refine goesL_ (some 30) rfl rfl Try.func7 (by kernel_rfl) rfl #[.int .i64 a0, .int .i64 30] rfl (by (try simp only [List.map_toArray, List.map_cons, List.map_nil]); first | done | rfl | (simp only [List.length_drop, List.length_take]; rfl)) ?_; (with_reducible refine (tilefarmgen_Mod.calls a0 30 t151 _ A8.out).mono ?_); rintro e w' ⟨rfl, ⟨nd, rfl⟩⟩; refine ⟨_, rfl, ?_⟩) | ((with_reducible refine gate_callee (f := 7) rfl ?_); refine goesL_ (some 33) rfl rfl Try.func7 (by kernel_rfl) rfl #[.int .i64 a1, .int .i64 30] rfl (by (try simp only [List.map_toArray, List.map_cons, List.map_nil]); first | done | rfl | (simp only [List.length_drop, List.length_take]; rfl)) ?_; (with_reducible refine (tilefarmgen_Mod.calls a1 30 t152 _ A9.out).mono ?_); rintro e w' ⟨rfl, ⟨nd, rfl⟩⟩; refine ⟨_, rfl, ?_⟩) | ((with_reducible refine gate_callee (f := 7) rfl ?_); refine goesL_ (some 36) rfl rfl Try.func7 (by kernel_rfl) rfl #[.int .i64 a2, .int .i64 9] rfl (by (try simp only [List.map_toArray, List.map_cons, List.map_nil]); first | done | rfl | (simp only [List.length_drop, List.length_take]; rfl)) ?_; (with_reducible refine (tilefarmgen_Mod.calls a2 9 t153 _ A10.out).mono ?_); rintro e w' ⟨rfl, ⟨nd, rfl⟩⟩; refine ⟨_, rfl, ?_⟩) | ((with_reducible refine gate_callee (f := 7) rfl ?_); refine goesL_ (some 39) rfl rfl Try.func7 (by kernel_rfl) rfl #[.int .i64 a3, .int .i64 9] rfl (by (try simp only [List.map_toArray, List.map_cons, List.map_nil]); first | done | rfl | (simp only [List.length_drop, List.length_take]; rfl)) ?_; (with_reducible refine (tilefarmgen_Mod.calls a3 9 t154 _ A11.out).mono ?_); rintro e w' ⟨rfl, ⟨nd, rfl⟩⟩; refine ⟨_, rfl, ?_⟩) | ((with_reducible refine gate_callee (f := 7) rfl ?_); refine goesL_ (some 43) rfl rfl Try.func7 (by kernel_rfl) rfl #[.int .i64 a4, .int .i64 (wrap64 (1 + t151))] rfl (by (try simp only [List.map_toArray, List.map_cons, List.map_nil]); first | done | rfl | (simp only [List.length_drop, List.length_take]; rfl)) ?_; (with_reducible refine (tilefarmgen_Mod.calls a4 (wrap64 (1 + t151)) t155 _ A12.out).mono ?_); rintro e w' ⟨rfl, ⟨nd, rfl⟩⟩; refine ⟨_, rfl, ?_⟩) | ((with_reducible refine gate_callee (f := 7) rfl ?_); refine goesL_ (some 46) rfl rfl Try.func7 (by kernel_rfl) rfl #[.int .i64 a5, .int .i64 (wrap64 (1 + t152))] rfl (by (try simp only [List.map_toArray, List.map_cons, List.map_nil]); first | done | rfl | (simp only [List.length_drop, List.length_take]; rfl)) ?_; (with_reducible refine (tilefarmgen_Mod.calls a5 (wrap64 (1 + t152)) t156 _ A13.out).mono ?_); rintro e w' ⟨rfl, ⟨nd, rfl⟩⟩; refine ⟨_, rfl, ?_⟩) | ((with_reducible refine gate_callee (f := 8) rfl ?_); refine goesL_ (some 54) rfl rfl Try.func8 (by kernel_rfl) rfl #[.int .i64 (wrap64 (1 + t151)), .int .i64 (wrap64 (1 + t152)), .int .i64 (wrap64 (1 + t153)), .int .i64 (wrap64 (1 + t154)), .int .i64 t155, .int .i64 t156] rfl (by (try simp only [List.map_toArray, List.map_cons, List.map_nil]); first | done | rfl | (simp only [List.length_drop, List.length_take]; rfl)) ?_; (with_reducible refine (grid_Of.calls k (wrap64 (1 + t151)) (wrap64 (1 + t152)) (wrap64 (1 + t153)) (wrap64 (1 + t154)) t155 t156 t157 true _ A14.out).mono ?_); rintro e w' ⟨rfl, ⟨nd, rfl⟩⟩; refine ⟨_, rfl, ?_⟩) | ((with_reducible refine gate_callee (f := 7) rfl ?_); refine goesL_ (some 64) rfl rfl Try.func7 (by kernel_rfl) rfl #[.int .i64 a6, .int .i64 12] rfl (by (try simp only [List.map_toArray, List.map_cons, List.map_nil]); first | done | rfl | (simp only [List.length_drop, List.length_take]; rfl)) ?_; (with_reducible refine (tilefarmgen_Mod.calls a6 12 t159 _ A15.out).mono ?_); rintro e w' ⟨rfl, ⟨nd, rfl⟩⟩; refine ⟨_, rfl, ?_⟩) | ((with_reducible refine gate_callee (f := 8) rfl ?_); refine goesL_ (some 70) rfl rfl Try.func8 (by kernel_rfl) rfl #[.int .i64 (wrap64 (1 + t151)), .int .i64 (wrap64 (1 + t152)), .int .i64 (wrap64 (1 + t153)), .int .i64 (wrap64 (1 + t154)), .int .i64 ji16, .int .i64 t156] rfl (by (try simp only [List.map_toArray, List.map_cons, List.map_nil]); first | done | (simp only [hji16]; rfl) | rfl | (simp only [List.length_drop, List.length_take]; rfl)) ?_; (with_reducible refine (grid_Of.calls k (wrap64 (1 + t151)) (wrap64 (1 + t152)) (wrap64 (1 + t153)) (wrap64 (1 + t154)) ji16 t156 t160 true _ A17.out).mono ?_); rintro e w' ⟨rfl, ⟨nd, rfl⟩⟩; refine ⟨_, rfl, ?_⟩) | ((with_reducible refine gate_callee (f := 7) rfl ?_); refine goesL_ (some 81) rfl rfl Try.func7 (by kernel_rfl) rfl #[.int .i64 a6, .int .i64 12] rfl (by (try simp only [List.map_toArray, List.map_cons, List.map_nil]); first | done | rfl | (simp only [List.length_drop, List.length_take]; rfl)) ?_; (with_reducible refine (tilefarmgen_Mod.calls a6 12 t162 _ A18.out).mono ?_); rintro e w' ⟨rfl, ⟨nd, rfl⟩⟩; refine ⟨_, rfl, ?_⟩) | ((with_reducible refine gate_callee (f := 8) rfl ?_); refine goesL_ (some 86) rfl rfl Try.func8 (by kernel_rfl) rfl #[.int .i64 (wrap64 (1 + t151)), .int .i64 (wrap64 (1 + t152)), .int .i64 (wrap64 (1 + t153)), .int .i64 (wrap64 (1 + t154)), .int .i64 t155, .int .i64 ji19] rfl (by (try simp only [List.map_toArray, List.map_cons, List.map_nil]); first | done | (simp only [hji19]; rfl) | rfl | (simp only [List.length_drop, List.length_take]; rfl)) ?_; (with_reducible refine (grid_Of.calls k (wrap64 (1 + t151)) (wrap64 (1 + t152)) (wrap64 (1 + t153)) (wrap64 (1 + t154)) t155 ji19 t163 true _ A20.out).mono ?_); rintro e w' ⟨rfl, ⟨nd, rfl⟩⟩; refine ⟨_, rfl, ?_⟩) | ((with_reducible refine gate_callee (f := 9) rfl ?_); refine goesL_ (some 94) rfl rfl Try.func9 (by kernel_rfl) rfl #[.int .i64 (wrap64 (1 + t151)), .int .i64 (wrap64 (1 + t152)), .int .i64 (wrap64 (1 + t153)), .int .i64 (wrap64 (1 + t154))] rfl (by (try simp only [List.map_toArray, List.map_cons, List.map_nil]); first | done | rfl | (simp only [List.length_drop, List.length_take]; rfl)) ?_; (with_reducible refine (grid_Count.calls k (wrap64 (1 + t151)) (wrap64 (1 + t152)) (wrap64 (1 + t153)) (wrap64 (1 + t154)) t165 t166 _ A21.out).mono ?_); rintro e w' ⟨rfl, ⟨nd, rfl⟩⟩; refine ⟨_, rfl, ?_⟩))
                      rw [drewN_self w]
                      generalize hq_ : World.drewN w _ = w43
                      have n0_ := Aside0.mk (below_at hq_ HB.out)
                      clear HB hq_
                      have HB := n0_
                      clear n0_
                      have n0_ := Aside0.mk (below_drew1 HB.out)
                      clear HB
                      have HB := n0_
                      clear n0_
                      refine start_ (n := 59) (S := fun w' => True) (ds := []) #[false, false, false, false, false, false, false, false, false, false, false, false, false, false, false, false, false, false, false, false, false, false, false, false, false, false, false, false, false, false, false, false, false, false, false, false, false, false, false, false, false, false, false, false, false, false, false, false, false, false, false, false, false, false, false, false, false, false, false] (by kernel_rfl) rfl rfl trivial (fun hHeld => ?_); refine with_tabW tilefarmlaw5_GridOrder.tab7 tilefarmlaw5_GridOrder.bits7 (fun HT_ HW_ => ?_)
                      generalize w43.drew = w44 at HB hHeld ⊢
                      refine pure_ (i := 0) (N := some 97) (v := ?_) (a' := ?_) #[true, false, false, false, false, false, false, false, false, false, false, false, false, false, false, false, false, false, false, false, false, false, false, false, false, false, false, false, false, false, false, false, false, false, false, false, false, false, false, false, false, false, false, false, false, false, false, false, false, false, false, false, false, false, false, false, false, false, false] rfl rfl (any_of HT_.out (by kernel_rfl)) (fun _ _ _ h => h) (Or.inl ⟨by rfl, ?_⟩) ?_ ?_
                      rotate_left
                      · intro w'
                        go_simp
                        with_reducible rfl
                      rotate_left
                      · simp only [Act.put, List.setIfInBounds_toArray, List.set_cons_zero, List.set_cons_succ, i64_w, i32_w]
                        rfl
                      refine pure_ (i := 1) (N := some 98) (v := ?_) (a' := ?_) #[true, true, false, false, false, false, false, false, false, false, false, false, false, false, false, false, false, false, false, false, false, false, false, false, false, false, false, false, false, false, false, false, false, false, false, false, false, false, false, false, false, false, false, false, false, false, false, false, false, false, false, false, false, false, false, false, false, false, false] rfl rfl (any_of HT_.out (by kernel_rfl)) (fun _ _ _ h => h) (Or.inl ⟨by rfl, ?_⟩) ?_ ?_
                      rotate_left
                      · intro w'
                        go_simp
                        with_reducible rfl
                      rotate_left
                      · simp only [Act.put, List.setIfInBounds_toArray, List.set_cons_zero, List.set_cons_succ, i64_w, i32_w]
                        rfl
                      refine pure_ (i := 2) (N := some 99) (v := ?_) (a' := ?_) #[true, true, true, false, false, false, false, false, false, false, false, false, false, false, false, false, false, false, false, false, false, false, false, false, false, false, false, false, false, false, false, false, false, false, false, false, false, false, false, false, false, false, false, false, false, false, false, false, false, false, false, false, false, false, false, false, false, false, false] rfl rfl (any_of HT_.out (by kernel_rfl)) (fun _ _ _ h => h) (Or.inl ⟨by rfl, ?_⟩) ?_ ?_
                      rotate_left
                      · intro w'
                        go_simp
                        with_reducible rfl
                      rotate_left
                      · simp only [Act.put, List.setIfInBounds_toArray, List.set_cons_zero, List.set_cons_succ, i64_w, i32_w]
                        rfl
                      refine pure_ (i := 3) (N := some 100) (v := ?_) (a' := ?_) #[true, true, true, true, false, false, false, false, false, false, false, false, false, false, false, false, false, false, false, false, false, false, false, false, false, false, false, false, false, false, false, false, false, false, false, false, false, false, false, false, false, false, false, false, false, false, false, false, false, false, false, false, false, false, false, false, false, false, false] rfl rfl (any_of HT_.out (by kernel_rfl)) (fun _ _ _ h => h) (Or.inl ⟨by rfl, ?_⟩) ?_ ?_
                      rotate_left
                      · intro w'
                        go_simp
                        with_reducible rfl
                      rotate_left
                      · simp only [Act.put, List.setIfInBounds_toArray, List.set_cons_zero, List.set_cons_succ, i64_w, i32_w]
                        rfl
                      refine pure_ (i := 4) (N := some 101) (v := ?_) (a' := ?_) #[true, true, true, true, true, false, false, false, false, false, false, false, false, false, false, false, false, false, false, false, false, false, false, false, false, false, false, false, false, false, false, false, false, false, false, false, false, false, false, false, false, false, false, false, false, false, false, false, false, false, false, false, false, false, false, false, false, false, false] rfl rfl (any_of HT_.out (by kernel_rfl)) (fun _ _ _ h => h) (Or.inl ⟨by rfl, ?_⟩) ?_ ?_
                      rotate_left
                      · intro w'
                        go_simp
                        with_reducible rfl
                      rotate_left
                      · simp only [Act.put, List.setIfInBounds_toArray, List.set_cons_zero, List.set_cons_succ, i64_w, i32_w]
                        rfl
                      refine pure_ (i := 5) (N := some 102) (v := ?_) (a' := ?_) #[true, true, true, true, true, true, false, false, false, false, false, false, false, false, false, false, false, false, false, false, false, false, false, false, false, false, false, false, false, false, false, false, false, false, false, false, false, false, false, false, false, false, false, false, false, false, false, false, false, false, false, false, false, false, false, false, false, false, false] rfl rfl (any_of HT_.out (by kernel_rfl)) (fun _ _ _ h => h) (Or.inl ⟨by rfl, ?_⟩) ?_ ?_
                      rotate_left
                      · intro w'
                        go_simp
                        with_reducible rfl
                      rotate_left
                      · simp only [Act.put, List.setIfInBounds_toArray, List.set_cons_zero, List.set_cons_succ, i64_w, i32_w]
                        rfl
                      refine pure_ (i := 6) (N := some 103) (v := ?_) (a' := ?_) #[true, true, true, true, true, true, true, false, false, false, false, false, false, false, false, false, false, false, false, false, false, false, false, false, false, false, false, false, false, false, false, false, false, false, false, false, false, false, false, false, false, false, false, false, false, false, false, false, false, false, false, false, false, false, false, false, false, false, false] rfl rfl (any_of HT_.out (by kernel_rfl)) (fun _ _ _ h => h) (Or.inl ⟨by rfl, ?_⟩) ?_ ?_
                      rotate_left
                      · intro w'
                        go_simp
                        with_reducible rfl
                      rotate_left
                      · simp only [Act.put, List.setIfInBounds_toArray, List.set_cons_zero, List.set_cons_succ, i64_w, i32_w]
                        rfl
                      refine pure_ (i := 7) (N := some 104) (v := ?_) (a' := ?_) #[true, true, true, true, true, true, true, true, false, false, false, false, false, false, false, false, false, false, false, false, false, false, false, false, false, false, false, false, false, false, false, false, false, false, false, false, false, false, false, false, false, false, false, false, false, false, false, false, false, false, false, false, false, false, false, false, false, false, false] rfl rfl (any_of HT_.out (by kernel_rfl)) (fun _ _ _ h => h) (Or.inl ⟨by rfl, ?_⟩) ?_ ?_
                      rotate_left
                      · intro w'
                        go_simp
                        with_reducible rfl
                      rotate_left
                      · simp only [Act.put, List.setIfInBounds_toArray, List.set_cons_zero, List.set_cons_succ, i64_w, i32_w]
                        rfl
                      refine pure_ (i := 8) (N := some 105) (v := ?_) (a' := ?_) #[true, true, true, true, true, true, true, true, true, false, false, false, false, false, false, false, false, false, false, false, false, false, false, false, false, false, false, false, false, false, false, false, false, false, false, false, false, false, false, false, false, false, false, false, false, false, false, false, false, false, false, false, false, false, false, false, false, false, false] rfl rfl (any_of HT_.out (by kernel_rfl)) (fun _ _ _ h => h) (Or.inl ⟨by rfl, ?_⟩) ?_ ?_
                      rotate_left
                      · intro w'
                        go_simp
                        with_reducible rfl
                      rotate_left
                      · simp only [Act.put, List.setIfInBounds_toArray, List.set_cons_zero, List.set_cons_succ, i64_w, i32_w]
                        rfl
                      refine pure_ (i := 9) (N := some 106) (v := ?_) (a' := ?_) #[true, true, true, true, true, true, true, true, true, true, false, false, false, false, false, false, false, false, false, false, false, false, false, false, false, false, false, false, false, false, false, false, false, false, false, false, false, false, false, false, false, false, false, false, false, false, false, false, false, false, false, false, false, false, false, false, false, false, false] rfl rfl (any_of HT_.out (by kernel_rfl)) (fun _ _ _ h => h) (Or.inl ⟨by rfl, ?_⟩) ?_ ?_
                      rotate_left
                      · intro w'
                        go_simp
                        with_reducible rfl
                      rotate_left
                      · simp only [Act.put, List.setIfInBounds_toArray, List.set_cons_zero, List.set_cons_succ, i64_w, i32_w]
                        rfl
                      refine pure_ (i := 10) (N := some 107) (v := ?_) (a' := ?_) #[true, true, true, true, true, true, true, true, true, true, true, false, false, false, false, false, false, false, false, false, false, false, false, false, false, false, false, false, false, false, false, false, false, false, false, false, false, false, false, false, false, false, false, false, false, false, false, false, false, false, false, false, false, false, false, false, false, false, false] rfl rfl (any_of HT_.out (by kernel_rfl)) (fun _ _ _ h => h) (Or.inl ⟨by rfl, ?_⟩) ?_ ?_
                      rotate_left
                      · intro w'
                        go_simp
                        with_reducible rfl
                      rotate_left
                      · simp only [Act.put, List.setIfInBounds_toArray, List.set_cons_zero, List.set_cons_succ, i64_w, i32_w]
                        rfl
                      refine pure_ (i := 11) (N := some 108) (v := ?_) (a' := ?_) #[true, true, true, true, true, true, true, true, true, true, true, true, false, false, false, false, false, false, false, false, false, false, false, false, false, false, false, false, false, false, false, false, false, false, false, false, false, false, false, false, false, false, false, false, false, false, false, false, false, false, false, false, false, false, false, false, false, false, false] rfl rfl (any_of HT_.out (by kernel_rfl)) (fun _ _ _ h => h) (Or.inl ⟨by rfl, ?_⟩) ?_ ?_
                      rotate_left
                      · intro w'
                        go_simp
                        with_reducible rfl
                      rotate_left
                      · simp only [Act.put, List.setIfInBounds_toArray, List.set_cons_zero, List.set_cons_succ, i64_w, i32_w]
                        rfl
                      refine pure_ (i := 12) (N := some 109) (v := ?_) (a' := ?_) #[true, true, true, true, true, true, true, true, true, true, true, true, true, false, false, false, false, false, false, false, false, false, false, false, false, false, false, false, false, false, false, false, false, false, false, false, false, false, false, false, false, false, false, false, false, false, false, false, false, false, false, false, false, false, false, false, false, false, false] rfl rfl (any_of HT_.out (by kernel_rfl)) (fun _ _ _ h => h) (Or.inl ⟨by rfl, ?_⟩) ?_ ?_
                      rotate_left
                      · intro w'
                        go_simp
                        with_reducible rfl
                      rotate_left
                      · simp only [Act.put, List.setIfInBounds_toArray, List.set_cons_zero, List.set_cons_succ, i64_w, i32_w]
                        rfl
                      refine pure_ (i := 13) (N := some 110) (v := ?_) (a' := ?_) #[true, true, true, true, true, true, true, true, true, true, true, true, true, true, false, false, false, false, false, false, false, false, false, false, false, false, false, false, false, false, false, false, false, false, false, false, false, false, false, false, false, false, false, false, false, false, false, false, false, false, false, false, false, false, false, false, false, false, false] rfl rfl (any_of HT_.out (by kernel_rfl)) (fun _ _ _ h => h) (Or.inl ⟨by rfl, ?_⟩) ?_ ?_
                      rotate_left
                      · intro w'
                        go_simp
                        with_reducible rfl
                      rotate_left
                      · simp only [Act.put, List.setIfInBounds_toArray, List.set_cons_zero, List.set_cons_succ, i64_w, i32_w]
                        rfl
                      refine pure_ (i := 14) (N := some 111) (v := ?_) (a' := ?_) #[true, true, true, true, true, true, true, true, true, true, true, true, true, true, true, false, false, false, false, false, false, false, false, false, false, false, false, false, false, false, false, false, false, false, false, false, false, false, false, false, false, false, false, false, false, false, false, false, false, false, false, false, false, false, false, false, false, false, false] rfl rfl (any_of HT_.out (by kernel_rfl)) (fun _ _ _ h => h) (Or.inl ⟨by rfl, ?_⟩) ?_ ?_
                      rotate_left
                      · intro w'
                        go_simp
                        with_reducible rfl
                      rotate_left
                      · simp only [Act.put, List.setIfInBounds_toArray, List.set_cons_zero, List.set_cons_succ, i64_w, i32_w]
                        rfl
                      refine pure_ (i := 15) (N := some 112) (v := ?_) (a' := ?_) #[true, true, true, true, true, true, true, true, true, true, true, true, true, true, true, true, false, false, false, false, false, false, false, false, false, false, false, false, false, false, false, false, false, false, false, false, false, false, false, false, false, false, false, false, false, false, false, false, false, false, false, false, false, false, false, false, false, false, false] rfl rfl (any_of HT_.out (by kernel_rfl)) (fun _ _ _ h => h) (Or.inl ⟨by rfl, ?_⟩) ?_ ?_
                      rotate_left
                      · intro w'
                        go_simp
                        with_reducible rfl
                      rotate_left
                      · simp only [Act.put, List.setIfInBounds_toArray, List.set_cons_zero, List.set_cons_succ, i64_w, i32_w]
                        rfl
                      refine pure_ (i := 16) (N := some 113) (v := ?_) (a' := ?_) #[true, true, true, true, true, true, true, true, true, true, true, true, true, true, true, true, true, false, false, false, false, false, false, false, false, false, false, false, false, false, false, false, false, false, false, false, false, false, false, false, false, false, false, false, false, false, false, false, false, false, false, false, false, false, false, false, false, false, false] rfl rfl (any_of HT_.out (by kernel_rfl)) (fun _ _ _ h => h) (Or.inl ⟨by rfl, ?_⟩) ?_ ?_
                      rotate_left
                      · intro w'
                        go_simp
                        with_reducible rfl
                      rotate_left
                      · simp only [Act.put, List.setIfInBounds_toArray, List.set_cons_zero, List.set_cons_succ, i64_w, i32_w]
                        rfl
                      refine pure_ (i := 17) (N := some 114) (v := ?_) (a' := ?_) #[true, true, true, true, true, true, true, true, true, true, true, true, true, true, true, true, true, true, false, false, false, false, false, false, false, false, false, false, false, false, false, false, false, false, false, false, false, false, false, false, false, false, false, false, false, false, false, false, false, false, false, false, false, false, false, false, false, false, false] rfl rfl (any_of HT_.out (by kernel_rfl)) (fun _ _ _ h => h) (Or.inl ⟨by rfl, ?_⟩) ?_ ?_
                      rotate_left
                      · intro w'
                        go_simp
                        with_reducible rfl
                      rotate_left
                      · simp only [Act.put, List.setIfInBounds_toArray, List.set_cons_zero, List.set_cons_succ, i64_w, i32_w]
                        rfl
                      refine pure_ (i := 18) (N := some 115) (v := ?_) (a' := ?_) #[true, true, true, true, true, true, true, true, true, true, true, true, true, true, true, true, true, true, true, false, false, false, false, false, false, false, false, false, false, false, false, false, false, false, false, false, false, false, false, false, false, false, false, false, false, false, false, false, false, false, false, false, false, false, false, false, false, false, false] rfl rfl (any_of HT_.out (by kernel_rfl)) (fun _ _ _ h => h) (Or.inl ⟨by rfl, ?_⟩) ?_ ?_
                      rotate_left
                      · intro w'
                        go_simp
                        with_reducible rfl
                      rotate_left
                      · simp only [Act.put, List.setIfInBounds_toArray, List.set_cons_zero, List.set_cons_succ, i64_w, i32_w]
                        rfl
                      refine pure_ (i := 19) (N := some 116) (v := ?_) (a' := ?_) #[true, true, true, true, true, true, true, true, true, true, true, true, true, true, true, true, true, true, true, true, false, false, false, false, false, false, false, false, false, false, false, false, false, false, false, false, false, false, false, false, false, false, false, false, false, false, false, false, false, false, false, false, false, false, false, false, false, false, false] rfl rfl (any_of HT_.out (by kernel_rfl)) (fun _ _ _ h => h) (Or.inl ⟨by rfl, ?_⟩) ?_ ?_
                      rotate_left
                      · intro w'
                        go_simp
                        with_reducible rfl
                      rotate_left
                      · simp only [Act.put, List.setIfInBounds_toArray, List.set_cons_zero, List.set_cons_succ, i64_w, i32_w]
                        rfl
                      refine pure_ (i := 20) (N := some 117) (v := ?_) (a' := ?_) #[true, true, true, true, true, true, true, true, true, true, true, true, true, true, true, true, true, true, true, true, true, false, false, false, false, false, false, false, false, false, false, false, false, false, false, false, false, false, false, false, false, false, false, false, false, false, false, false, false, false, false, false, false, false, false, false, false, false, false] rfl rfl (any_of HT_.out (by kernel_rfl)) (fun _ _ _ h => h) (Or.inl ⟨by rfl, ?_⟩) ?_ ?_
                      rotate_left
                      · intro w'
                        go_simp
                        with_reducible rfl
                      rotate_left
                      · simp only [Act.put, List.setIfInBounds_toArray, List.set_cons_zero, List.set_cons_succ, i64_w, i32_w]
                        rfl
                      refine pure_ (i := 21) (N := some 118) (v := ?_) (a' := ?_) #[true, true, true, true, true, true, true, true, true, true, true, true, true, true, true, true, true, true, true, true, true, true, false, false, false, false, false, false, false, false, false, false, false, false, false, false, false, false, false, false, false, false, false, false, false, false, false, false, false, false, false, false, false, false, false, false, false, false, false] rfl rfl (any_of HT_.out (by kernel_rfl)) (fun _ _ _ h => h) (Or.inl ⟨by rfl, ?_⟩) ?_ ?_
                      rotate_left
                      · intro w'
                        go_simp
                        with_reducible rfl
                      rotate_left
                      · simp only [Act.put, List.setIfInBounds_toArray, List.set_cons_zero, List.set_cons_succ, i64_w, i32_w]
                        rfl
                      refine pure_ (i := 22) (N := some 119) (v := ?_) (a' := ?_) #[true, true, true, true, true, true, true, true, true, true, true, true, true, true, true, true, true, true, true, true, true, true, true, false, false, false, false, false, false, false, false, false, false, false, false, false, false, false, false, false, false, false, false, false, false, false, false, false, false, false, false, false, false, false, false, false, false, false, false] rfl rfl (any_of HT_.out (by kernel_rfl)) (fun _ _ _ h => h) (Or.inl ⟨by rfl, ?_⟩) ?_ ?_
                      rotate_left
                      · intro w'
                        go_simp
                        with_reducible rfl
                      rotate_left
                      · simp only [Act.put, List.setIfInBounds_toArray, List.set_cons_zero, List.set_cons_succ, i64_w, i32_w]
                        rfl
                      refine pure_ (i := 23) (N := some 120) (v := ?_) (a' := ?_) #[true, true, true, true, true, true, true, true, true, true, true, true, true, true, true, true, true, true, true, true, true, true, true, true, false, false, false, false, false, false, false, false, false, false, false, false, false, false, false, false, false, false, false, false, false, false, false, false, false, false, false, false, false, false, false, false, false, false, false] rfl rfl (any_of HT_.out (by kernel_rfl)) (fun _ _ _ h => h) (Or.inl ⟨by rfl, ?_⟩) ?_ ?_
                      rotate_left
                      · intro w'
                        go_simp
                        with_reducible rfl
                      rotate_left
                      · simp only [Act.put, List.setIfInBounds_toArray, List.set_cons_zero, List.set_cons_succ, i64_w, i32_w]
                        rfl
                      refine pure_ (i := 24) (N := some 121) (v := ?_) (a' := ?_) #[true, true, true, true, true, true, true, true, true, true, true, true, true, true, true, true, true, true, true, true, true, true, true, true, true, false, false, false, false, false, false, false, false, false, false, false, false, false, false, false, false, false, false, false, false, false, false, false, false, false, false, false, false, false, false, false, false, false, false] rfl rfl (any_of HT_.out (by kernel_rfl)) (fun _ _ _ h => h) (Or.inl ⟨by rfl, ?_⟩) ?_ ?_
                      rotate_left
                      · intro w'
                        go_simp
                        with_reducible rfl
                      rotate_left
                      · simp only [Act.put, List.setIfInBounds_toArray, List.set_cons_zero, List.set_cons_succ, i64_w, i32_w]
                        rfl
                      refine pure_ (i := 25) (N := some 122) (v := ?_) (a' := ?_) #[true, true, true, true, true, true, true, true, true, true, true, true, true, true, true, true, true, true, true, true, true, true, true, true, true, true, false, false, false, false, false, false, false, false, false, false, false, false, false, false, false, false, false, false, false, false, false, false, false, false, false, false, false, false, false, false, false, false, false] rfl rfl (any_of HT_.out (by kernel_rfl)) (fun _ _ _ h => h) (Or.inl ⟨by rfl, ?_⟩) ?_ ?_
                      rotate_left
                      · intro w'
                        go_simp
                        with_reducible rfl
                      rotate_left
                      · simp only [Act.put, List.setIfInBounds_toArray, List.set_cons_zero, List.set_cons_succ, i64_w, i32_w]
                        rfl
                      refine pure_ (i := 26) (N := some 123) (v := ?_) (a' := ?_) #[true, true, true, true, true, true, true, true, true, true, true, true, true, true, true, true, true, true, true, true, true, true, true, true, true, true, true, false, false, false, false, false, false, false, false, false, false, false, false, false, false, false, false, false, false, false, false, false, false, false, false, false, false, false, false, false, false, false, false] rfl rfl (any_of HT_.out (by kernel_rfl)) (fun _ _ _ h => h) (Or.inl ⟨by rfl, ?_⟩) ?_ ?_
                      rotate_left
                      · intro w'
                        go_simp
                        with_reducible rfl
                      rotate_left
                      · simp only [Act.put, List.setIfInBounds_toArray, List.set_cons_zero, List.set_cons_succ, i64_w, i32_w]
                        rfl
                      refine pure_ (i := 27) (N := some 124) (v := ?_) (a' := ?_) #[true, true, true, true, true, true, true, true, true, true, true, true, true, true, true, true, true, true, true, true, true, true, true, true, true, true, true, true, false, false, false, false, false, false, false, false, false, false, false, false, false, false, false, false, false, false, false, false, false, false, false, false, false, false, false, false, false, false, false] rfl rfl (any_of HT_.out (by kernel_rfl)) (fun _ _ _ h => h) (Or.inl ⟨by rfl, ?_⟩) ?_ ?_
                      rotate_left
                      · intro w'
                        go_simp
                        with_reducible rfl
                      rotate_left
                      · simp only [Act.put, List.setIfInBounds_toArray, List.set_cons_zero, List.set_cons_succ, i64_w, i32_w]
                        rfl
                      refine pure_ (i := 28) (N := some 125) (v := ?_) (a' := ?_) #[true, true, true, true, true, true, true, true, true, true, true, true, true, true, true, true, true, true, true, true, true, true, true, true, true, true, true, true, true, false, false, false, false, false, false, false, false, false, false, false, false, false, false, false, false, false, false, false, false, false, false, false, false, false, false, false, false, false, false] rfl rfl (any_of HT_.out (by kernel_rfl)) (fun _ _ _ h => h) (Or.inl ⟨by rfl, ?_⟩) ?_ ?_
                      rotate_left
                      · intro w'
                        go_simp
                        with_reducible rfl
                      rotate_left
                      · simp only [Act.put, List.setIfInBounds_toArray, List.set_cons_zero, List.set_cons_succ, i64_w, i32_w]
                        rfl
                      refine pure_ (i := 29) (N := some 126) (v := ?_) (a' := ?_) #[true, true, true, true, true, true, true, true, true, true, true, true, true, true, true, true, true, true, true, true, true, true, true, true, true, true, true, true, true, true, false, false, false, false, false, false, false, false, false, false, false, false, false, false, false, false, false, false, false, false, false, false, false, false, false, false, false, false, false] rfl rfl (any_of HT_.out (by kernel_rfl)) (fun _ _ _ h => h) (Or.inl ⟨by rfl, ?_⟩) ?_ ?_
                      rotate_left
                      · intro w'
                        go_simp
                        with_reducible rfl
                      rotate_left
                      · simp only [Act.put, List.setIfInBounds_toArray, List.set_cons_zero, List.set_cons_succ, i64_w, i32_w]
                        rfl
                      refine pure_ (i := 30) (N := some 127) (v := ?_) (a' := ?_) #[true, true, true, true, true, true, true, true, true, true, true, true, true, true, true, true, true, true, true, true, true, true, true, true, true, true, true, true, true, true, true, false, false, false, false, false, false, false, false, false, false, false, false, false, false, false, false, false, false, false, false, false, false, false, false, false, false, false, false] rfl rfl (any_of HT_.out (by kernel_rfl)) (fun _ _ _ h => h) (Or.inl ⟨by rfl, ?_⟩) ?_ ?_
                      rotate_left
                      · intro w'
                        go_simp
                        with_reducible rfl
                      rotate_left
                      · simp only [Act.put, List.setIfInBounds_toArray, List.set_cons_zero, List.set_cons_succ, i64_w, i32_w]
                        rfl
                      refine pure_ (i := 31) (N := some 128) (v := ?_) (a' := ?_) #[true, true, true, true, true, true, true, true, true, true, true, true, true, true, true, true, true, true, true, true, true, true, true, true, true, true, true, true, true, true, true, true, false, false, false, false, false, false, false, false, false, false, false, false, false, false, false, false, false, false, false, false, false, false, false, false, false, false, false] rfl rfl (any_of HT_.out (by kernel_rfl)) (fun _ _ _ h => h) (Or.inl ⟨by rfl, ?_⟩) ?_ ?_
                      rotate_left
                      · intro w'
                        go_simp
                        with_reducible rfl
                      rotate_left
                      · simp only [Act.put, List.setIfInBounds_toArray, List.set_cons_zero, List.set_cons_succ, i64_w, i32_w]
                        rfl
                      refine pure_ (i := 32) (N := some 129) (v := ?_) (a' := ?_) #[true, true, true, true, true, true, true, true, true, true, true, true, true, true, true, true, true, true, true, true, true, true, true, true, true, true, true, true, true, true, true, true, true, false, false, false, false, false, false, false, false, false, false, false, false, false, false, false, false, false, false, false, false, false, false, false, false, false, false] rfl rfl (any_of HT_.out (by kernel_rfl)) (fun _ _ _ h => h) (Or.inl ⟨by rfl, ?_⟩) ?_ ?_
                      rotate_left
                      · intro w'
                        go_simp
                        with_reducible rfl
                      rotate_left
                      · simp only [Act.put, List.setIfInBounds_toArray, List.set_cons_zero, List.set_cons_succ, i64_w, i32_w]
                        rfl
                      refine pure_ (i := 33) (N := some 130) (v := ?_) (a' := ?_) #[true, true, true, true, true, true, true, true, true, true, true, true, true, true, true, true, true, true, true, true, true, true, true, true, true, true, true, true, true, true, true, true, true, true, false, false, false, false, false, false, false, false, false, false, false, false, false, false, false, false, false, false, false, false, false, false, false, false, false] rfl rfl (any_of HT_.out (by kernel_rfl)) (fun _ _ _ h => h) (Or.inl ⟨by rfl, ?_⟩) ?_ ?_
                      rotate_left
                      · intro w'
                        go_simp
                        with_reducible rfl
                      rotate_left
                      · simp only [Act.put, List.setIfInBounds_toArray, List.set_cons_zero, List.set_cons_succ, i64_w, i32_w]
                        rfl
                      refine pure_ (i := 34) (N := some 131) (v := ?_) (a' := ?_) #[true, true, true, true, true, true, true, true, true, true, true, true, true, true, true, true, true, true, true, true, true, true, true, true, true, true, true, true, true, true, true, true, true, true, true, false, false, false, false, false, false, false, false, false, false, false, false, false, false, false, false, false, false, false, false, false, false, false, false] rfl rfl (any_of HT_.out (by kernel_rfl)) (fun _ _ _ h => h) (Or.inl ⟨by rfl, ?_⟩) ?_ ?_
                      rotate_left
                      · intro w'
                        go_simp
                        with_reducible rfl
                      rotate_left
                      · simp only [Act.put, List.setIfInBounds_toArray, List.set_cons_zero, List.set_cons_succ, i64_w, i32_w]
                        rfl
                      refine pure_ (i := 35) (N := some 132) (v := ?_) (a' := ?_) #[true, true, true, true, true, true, true, true, true, true, true, true, true, true, true, true, true, true, true, true, true, true, true, true, true, true, true, true, true, true, true, true, true, true, true, true, false, false, false, false, false, false, false, false, false, false, false, false, false, false, false, false, false, false, false, false, false, false, false] rfl rfl (any_of HT_.out (by kernel_rfl)) (fun _ _ _ h => h) (Or.inl ⟨by rfl, ?_⟩) ?_ ?_
                      rotate_left
                      · intro w'
                        go_simp
                        with_reducible rfl
                      rotate_left
                      · simp only [Act.put, List.setIfInBounds_toArray, List.set_cons_zero, List.set_cons_succ, i64_w, i32_w]
                        rfl
                      refine pure_ (i := 36) (N := some 133) (v := ?_) (a' := ?_) #[true, true, true, true, true, true, true, true, true, true, true, true, true, true, true, true, true, true, true, true, true, true, true, true, true, true, true, true, true, true, true, true, true, true, true, true, true, false, false, false, false, false, false, false, false, false, false, false, false, false, false, false, false, false, false, false, false, false, false] rfl rfl (any_of HT_.out (by kernel_rfl)) (fun _ _ _ h => h) (Or.inl ⟨by rfl, ?_⟩) ?_ ?_
                      rotate_left
                      · intro w'
                        go_simp
                        with_reducible rfl
                      rotate_left
                      · simp only [Act.put, List.setIfInBounds_toArray, List.set_cons_zero, List.set_cons_succ, i64_w, i32_w]
                        rfl
                      refine pure_ (i := 37) (N := some 134) (v := ?_) (a' := ?_) #[true, true, true, true, true, true, true, true, true, true, true, true, true, true, true, true, true, true, true, true, true, true, true, true, true, true, true, true, true, true, true, true, true, true, true, true, true, true, false, false, false, false, false, false, false, false, false, false, false, false, false, false, false, false, false, false, false, false, false] rfl rfl (any_of HT_.out (by kernel_rfl)) (fun _ _ _ h => h) (Or.inl ⟨by rfl, ?_⟩) ?_ ?_
                      rotate_left
                      · intro w'
                        go_simp
                        with_reducible rfl
                      rotate_left
                      · simp only [Act.put, List.setIfInBounds_toArray, List.set_cons_zero, List.set_cons_succ, i64_w, i32_w]
                        rfl
                      refine pure_ (i := 38) (N := some 135) (v := ?_) (a' := ?_) #[true, true, true, true, true, true, true, true, true, true, true, true, true, true, true, true, true, true, true, true, true, true, true, true, true, true, true, true, true, true, true, true, true, true, true, true, true, true, true, false, false, false, false, false, false, false, false, false, false, false, false, false, false, false, false, false, false, false, false] rfl rfl (any_of HT_.out (by kernel_rfl)) (fun _ _ _ h => h) (Or.inl ⟨by rfl, ?_⟩) ?_ ?_
                      rotate_left
                      · intro w'
                        go_simp
                        with_reducible rfl
                      rotate_left
                      · simp only [Act.put, List.setIfInBounds_toArray, List.set_cons_zero, List.set_cons_succ, i64_w, i32_w]
                        rfl
                      refine pure_ (i := 39) (N := some 136) (v := ?_) (a' := ?_) #[true, true, true, true, true, true, true, true, true, true, true, true, true, true, true, true, true, true, true, true, true, true, true, true, true, true, true, true, true, true, true, true, true, true, true, true, true, true, true, true, false, false, false, false, false, false, false, false, false, false, false, false, false, false, false, false, false, false, false] rfl rfl (any_of HT_.out (by kernel_rfl)) (fun _ _ _ h => h) (Or.inl ⟨by rfl, ?_⟩) ?_ ?_
                      rotate_left
                      · intro w'
                        go_simp
                        with_reducible rfl
                      rotate_left
                      · simp only [Act.put, List.setIfInBounds_toArray, List.set_cons_zero, List.set_cons_succ, i64_w, i32_w]
                        rfl
                      refine pure_ (i := 40) (N := some 137) (v := ?_) (a' := ?_) #[true, true, true, true, true, true, true, true, true, true, true, true, true, true, true, true, true, true, true, true, true, true, true, true, true, true, true, true, true, true, true, true, true, true, true, true, true, true, true, true, true, false, false, false, false, false, false, false, false, false, false, false, false, false, false, false, false, false, false] rfl rfl (any_of HT_.out (by kernel_rfl)) (fun _ _ _ h => h) (Or.inl ⟨by rfl, ?_⟩) ?_ ?_
                      rotate_left
                      · intro w'
                        go_simp
                        with_reducible rfl
                      rotate_left
                      · simp only [Act.put, List.setIfInBounds_toArray, List.set_cons_zero, List.set_cons_succ, i64_w, i32_w]
                        rfl
                      refine pure_ (i := 41) (N := some 138) (v := ?_) (a' := ?_) #[true, true, true, true, true, true, true, true, true, true, true, true, true, true, true, true, true, true, true, true, true, true, true, true, true, true, true, true, true, true, true, true, true, true, true, true, true, true, true, true, true, true, false, false, false, false, false, false, false, false, false, false, false, false, false, false, false, false, false] rfl rfl (any_of HT_.out (by kernel_rfl)) (fun _ _ _ h => h) (Or.inl ⟨by rfl, ?_⟩) ?_ ?_
                      rotate_left
                      · intro w'
                        go_simp
                        with_reducible rfl
                      rotate_left
                      · simp only [Act.put, List.setIfInBounds_toArray, List.set_cons_zero, List.set_cons_succ, i64_w, i32_w]
                        rfl
                      refine pure_ (i := 42) (N := some 139) (v := ?_) (a' := ?_) #[true, true, true, true, true, true, true, true, true, true, true, true, true, true, true, true, true, true, true, true, true, true, true, true, true, true, true, true, true, true, true, true, true, true, true, true, true, true, true, true, true, true, true, false, false, false, false, false, false, false, false, false, false, false, false, false, false, false, false] rfl rfl (any_of HT_.out (by kernel_rfl)) (fun _ _ _ h => h) (Or.inl ⟨by rfl, ?_⟩) ?_ ?_
                      rotate_left
                      · intro w'
                        go_simp
                        with_reducible rfl
                      rotate_left
                      · simp only [Act.put, List.setIfInBounds_toArray, List.set_cons_zero, List.set_cons_succ, i64_w, i32_w]
                        rfl
                      refine pure_ (i := 43) (N := some 140) (v := ?_) (a' := ?_) #[true, true, true, true, true, true, true, true, true, true, true, true, true, true, true, true, true, true, true, true, true, true, true, true, true, true, true, true, true, true, true, true, true, true, true, true, true, true, true, true, true, true, true, true, false, false, false, false, false, false, false, false, false, false, false, false, false, false, false] rfl rfl (any_of HT_.out (by kernel_rfl)) (fun _ _ _ h => h) (Or.inl ⟨by rfl, ?_⟩) ?_ ?_
                      rotate_left
                      · intro w'
                        go_simp
                        with_reducible rfl
                      rotate_left
                      · simp only [Act.put, List.setIfInBounds_toArray, List.set_cons_zero, List.set_cons_succ, i64_w, i32_w]
                        rfl
                      refine pure_ (i := 44) (N := some 141) (v := ?_) (a' := ?_) #[true, true, true, true, true, true, true, true, true, true, true, true, true, true, true, true, true, true, true, true, true, true, true, true, true, true, true, true, true, true, true, true, true, true, true, true, true, true, true, true, true, true, true, true, true, false, false, false, false, false, false, false, false, false, false, false, false, false, false] rfl rfl (any_of HT_.out (by kernel_rfl)) (fun _ _ _ h => h) (Or.inl ⟨by rfl, ?_⟩) ?_ ?_
                      rotate_left
                      · intro w'
                        go_simp
                        with_reducible rfl
                      rotate_left
                      · simp only [Act.put, List.setIfInBounds_toArray, List.set_cons_zero, List.set_cons_succ, i64_w, i32_w]
                        rfl
                      refine pure_ (i := 47) (N := some 144) (v := ?_) (a' := ?_) #[true, true, true, true, true, true, true, true, true, true, true, true, true, true, true, true, true, true, true, true, true, true, true, true, true, true, true, true, true, true, true, true, true, true, true, true, true, true, true, true, true, true, true, true, true, false, false, true, false, false, false, false, false, false, false, false, false, false, false] rfl rfl (any_of HT_.out (by kernel_rfl)) (fun _ _ _ h => h) (Or.inl ⟨by rfl, ?_⟩) ?_ ?_
                      rotate_left
                      · intro w'
                        go_simp
                        with_reducible rfl
                      rotate_left
                      · simp only [Act.put, List.setIfInBounds_toArray, List.set_cons_zero, List.set_cons_succ, i64_w, i32_w]
                        rfl
                      refine pure_ (i := 48) (N := some 145) (v := ?_) (a' := ?_) #[true, true, true, true, true, true, true, true, true, true, true, true, true, true, true, true, true, true, true, true, true, true, true, true, true, true, true, true, true, true, true, true, true, true, true, true, true, true, true, true, true, true, true, true, true, false, false, true, true, false, false, false, false, false, false, false, false, false, false] rfl rfl (any_of HT_.out (by kernel_rfl)) (fun _ _ _ h => h) (Or.inl ⟨by rfl, ?_⟩) ?_ ?_
                      rotate_left
                      · intro w'
                        go_simp
                        with_reducible rfl
                      rotate_left
                      · simp only [Act.put, List.setIfInBounds_toArray, List.set_cons_zero, List.set_cons_succ, i64_w, i32_w]
                        rfl
                      refine pure_ (i := 50) (N := some 147) (v := ?_) (a' := ?_) #[true, true, true, true, true, true, true, true, true, true, true, true, true, true, true, true, true, true, true, true, true, true, true, true, true, true, true, true, true, true, true, true, true, true, true, true, true, true, true, true, true, true, true, true, true, false, false, true, true, false, true, false, false, false, false, false, false, false, false] rfl rfl (any_of HT_.out (by kernel_rfl)) (fun _ _ _ h => h) (Or.inl ⟨by rfl, ?_⟩) ?_ ?_
                      rotate_left
                      · intro w'
                        go_simp
                        with_reducible rfl
                      rotate_left
                      · simp only [Act.put, List.setIfInBounds_toArray, List.set_cons_zero, List.set_cons_succ, i64_w, i32_w]
                        rfl
                      refine one_ (i := 45) (N := some 142) #[true, true, true, true, true, true, true, true, true, true, true, true, true, true, true, true, true, true, true, true, true, true, true, true, true, true, true, true, true, true, true, true, true, true, true, true, true, true, true, true, true, true, true, true, true, true, false, true, true, false, true, false, false, false, false, false, false, false, false] rfl rfl (one_of HT_.out (by kernel_rfl)) (by decide) (fun K hK => ?_)
                      refine goes_ Try.func7 (by kernel_rfl) rfl #[.int .i64 a6, .int .i64 12] (by rfl) rfl rfl (by (try simp only [List.map_toArray, List.map_cons, List.map_nil]); first | done | rfl | (simp only [List.length_drop, List.length_take]; rfl)) ?_
                      with_reducible refine (tilefarmgen_Mod.calls a6 12 t169 _ A39.out).mono ?_
                      rintro e w' ⟨rfl, ⟨nd, rfl⟩⟩
                      refine ⟨_, rfl, ?_⟩
                      refine hK.out _ _ trivial (fun hHeld => ?_)
                      clear hK K
                      refine norm_ (a' := ?_) ?_ ?_
                      rotate_left
                      · show Act.put _ (some 142) _ = _
                        simp only [Act.put, List.setIfInBounds_toArray, List.set_cons_zero, List.set_cons_succ, i64_w, i32_w]
                        rfl
                      refine pure_ (i := 46) (N := some 143) (v := ?_) (a' := ?_) #[true, true, true, true, true, true, true, true, true, true, true, true, true, true, true, true, true, true, true, true, true, true, true, true, true, true, true, true, true, true, true, true, true, true, true, true, true, true, true, true, true, true, true, true, true, true, true, true, true, false, true, false, false, false, false, false, false, false, false] rfl rfl (any_of HT_.out (by kernel_rfl)) (fun _ _ _ h => h) (Or.inl ⟨by rfl, ?_⟩) ?_ ?_
                      rotate_left
                      · intro w'
                        go_simp
                        with_reducible rfl
                      rotate_left
                      · simp only [Act.put, List.setIfInBounds_toArray, List.set_cons_zero, List.set_cons_succ, i64_w, i32_w]
                        rfl
                      refine pure_ (i := 49) (N := some 146) (v := ?_) (a' := ?_) #[true, true, true, true, true, true, true, true, true, true, true, true, true, true, true, true, true, true, true, true, true, true, true, true, true, true, true, true, true, true, true, true, true, true, true, true, true, true, true, true, true, true, true, true, true, true, true, true, true, true, true, false, false, false, false, false, false, false, false] rfl rfl (any_of HT_.out (by kernel_rfl)) (fun _ _ _ h => h) (Or.inl ⟨by rfl, ?_⟩) ?_ ?_
                      rotate_left
                      · intro w'
                        go_simp
                        with_reducible rfl
                      rotate_left
                      · simp only [Act.put, List.setIfInBounds_toArray, List.set_cons_zero, List.set_cons_succ, i64_w, i32_w]
                        rfl
                      refine pure_ (i := 51) (N := some 148) (v := ?_) (a' := ?_) #[true, true, true, true, true, true, true, true, true, true, true, true, true, true, true, true, true, true, true, true, true, true, true, true, true, true, true, true, true, true, true, true, true, true, true, true, true, true, true, true, true, true, true, true, true, true, true, true, true, true, true, true, false, false, false, false, false, false, false] rfl rfl (any_of HT_.out (by kernel_rfl)) (fun _ _ _ h => h) (Or.inl ⟨by rfl, ?_⟩) ?_ ?_
                      rotate_left
                      · intro w'
                        go_simp
                        with_reducible rfl
                      rotate_left
                      · simp only [Act.put, List.setIfInBounds_toArray, List.set_cons_zero, List.set_cons_succ, i64_w, i32_w]
                        rfl
                      refine pure_ (i := 52) (N := some 149) (v := ?_) (a' := ?_) #[true, true, true, true, true, true, true, true, true, true, true, true, true, true, true, true, true, true, true, true, true, true, true, true, true, true, true, true, true, true, true, true, true, true, true, true, true, true, true, true, true, true, true, true, true, true, true, true, true, true, true, true, true, false, false, false, false, false, false] rfl rfl (any_of HT_.out (by kernel_rfl)) (fun _ _ _ h => h) (Or.inl ⟨by rfl, ?_⟩) ?_ ?_
                      rotate_left
                      · intro w'
                        go_simp
                        with_reducible rfl
                      rotate_left
                      · simp only [Act.put, List.setIfInBounds_toArray, List.set_cons_zero, List.set_cons_succ, i64_w, i32_w]
                        rfl
                      refine pure_ (i := 53) (N := some 150) (v := ?_) (a' := ?_) #[true, true, true, true, true, true, true, true, true, true, true, true, true, true, true, true, true, true, true, true, true, true, true, true, true, true, true, true, true, true, true, true, true, true, true, true, true, true, true, true, true, true, true, true, true, true, true, true, true, true, true, true, true, true, false, false, false, false, false] rfl rfl (any_of HT_.out (by kernel_rfl)) (fun _ _ _ h => h) (Or.inl ⟨by rfl, ?_⟩) ?_ ?_
                      rotate_left
                      · intro w'
                        go_simp
                        with_reducible rfl
                      rotate_left
                      · simp only [Act.put, List.setIfInBounds_toArray, List.set_cons_zero, List.set_cons_succ, i64_w, i32_w]
                        rfl
                      refine pure_ (i := 54) (N := some 151) (v := ?_) (a' := ?_) #[true, true, true, true, true, true, true, true, true, true, true, true, true, true, true, true, true, true, true, true, true, true, true, true, true, true, true, true, true, true, true, true, true, true, true, true, true, true, true, true, true, true, true, true, true, true, true, true, true, true, true, true, true, true, true, false, false, false, false] rfl rfl (any_of HT_.out (by kernel_rfl)) (fun _ _ _ h => h) (Or.inl ⟨by rfl, ?_⟩) ?_ ?_
                      rotate_left
                      · intro w'
                        go_simp
                        with_reducible rfl
                      rotate_left
                      · simp only [Act.put, List.setIfInBounds_toArray, List.set_cons_zero, List.set_cons_succ, i64_w, i32_w]
                        rfl
                      refine pure_ (i := 55) (N := some 152) (v := ?_) (a' := ?_) #[true, true, true, true, true, true, true, true, true, true, true, true, true, true, true, true, true, true, true, true, true, true, true, true, true, true, true, true, true, true, true, true, true, true, true, true, true, true, true, true, true, true, true, true, true, true, true, true, true, true, true, true, true, true, true, true, false, false, false] rfl rfl (any_of HT_.out (by kernel_rfl)) (fun _ _ _ h => h) (Or.inl ⟨by rfl, ?_⟩) ?_ ?_
                      rotate_left
                      · intro w'
                        go_simp
                        with_reducible rfl
                      rotate_left
                      · simp only [Act.put, List.setIfInBounds_toArray, List.set_cons_zero, List.set_cons_succ, i64_w, i32_w]
                        rfl
                      refine one_ (i := 56) (N := some 153) #[true, true, true, true, true, true, true, true, true, true, true, true, true, true, true, true, true, true, true, true, true, true, true, true, true, true, true, true, true, true, true, true, true, true, true, true, true, true, true, true, true, true, true, true, true, true, true, true, true, true, true, true, true, true, true, true, true, false, false] rfl rfl (one_of HT_.out (by kernel_rfl)) (by decide) (fun K hK => ?_)
                      refine goes_ Try.func10 (by kernel_rfl) rfl #[] (by rfl) rfl rfl (by (try simp only [List.map_toArray, List.map_cons, List.map_nil]); first | done | rfl | (simp only [List.length_drop, List.length_take]; rfl)) ?_
                      with_reducible refine (tilefarmlaw5_sane.calls k  t170 _ A42.out).mono ?_
                      rintro e w45 ⟨rfl, hb⟩
                      refine ⟨_, rfl, ?_⟩
                      have n0_ := Aside0.mk (below_step (by repeat (first | (with_reducible first | exact HB.out | apply below_alloc | apply pw_below_drewN | apply below_drew1) | exact HB.out)) hb)
                      clear HB
                      have HB := n0_
                      clear n0_
                      (try clear hb)
                      (try clear hb2)
                      (try clear hk)
                      (try clear hi)
                      refine hK.out _ _ trivial (fun hHeld => ?_)
                      clear hK K
                      refine norm_ (a' := ?_) ?_ ?_
                      rotate_left
                      · show Act.put _ (some 153) _ = _
                        simp only [Act.put, List.setIfInBounds_toArray, List.set_cons_zero, List.set_cons_succ, i64_w, i32_w]
                        rfl
                      refine pure_ (i := 57) (N := some 154) (v := ?_) (a' := ?_) #[true, true, true, true, true, true, true, true, true, true, true, true, true, true, true, true, true, true, true, true, true, true, true, true, true, true, true, true, true, true, true, true, true, true, true, true, true, true, true, true, true, true, true, true, true, true, true, true, true, true, true, true, true, true, true, true, true, true, false] rfl rfl (any_of HT_.out (by kernel_rfl)) (fun _ _ _ h => h) (Or.inl ⟨by rfl, ?_⟩) ?_ ?_
                      rotate_left
                      · intro w'
                        go_simp
                        with_reducible rfl
                      rotate_left
                      · simp only [Act.put, List.setIfInBounds_toArray, List.set_cons_zero, List.set_cons_succ, i64_w, i32_w]
                        rfl
                      refine pure_ (i := 58) (N := some 14) (v := ?_) (a' := ?_) #[true, true, true, true, true, true, true, true, true, true, true, true, true, true, true, true, true, true, true, true, true, true, true, true, true, true, true, true, true, true, true, true, true, true, true, true, true, true, true, true, true, true, true, true, true, true, true, true, true, true, true, true, true, true, true, true, true, true, true] rfl rfl (any_of HT_.out (by kernel_rfl)) (fun _ _ _ h => h) (Or.inl ⟨by rfl, ?_⟩) ?_ ?_
                      rotate_left
                      · intro w'
                        go_simp
                        with_reducible rfl
                      rotate_left
                      · simp only [Act.put, List.setIfInBounds_toArray, List.set_cons_zero, List.set_cons_succ, i64_w, i32_w]
                        rfl
                      refine done_ (done_of HT_.out (by kernel_rfl)) ?_
                      try go_wp2
                      go_ret
                      exact ⟨by first | rfl | (simp [errW_none, errW_some] <;> rfl) | (simp only [← hji16, ← hji19, ← hji40]; first | rfl | (simp [errW_none, errW_some] <;> rfl)) | (simp [*, errW_none, errW_some] <;> rfl), by repeat (first | (with_reducible first | exact HB.out | apply below_alloc | apply pw_below_drewN | apply below_drew1) | exact HB.out)⟩
                    · rw [if_neg c41] at H
                      have c41b0 : ((t163 == t157) == ((wrap64 (Int.tdiv t156 (wrap64 (1 + t154)))) == (wrap64 (Int.tdiv (ji40) (wrap64 (1 + t154)))))) = false := by simpa using c41
                      (try (have c41b1 : decide ((t163 == t157) = ((wrap64 (Int.tdiv t156 (wrap64 (1 + t154)))) == (wrap64 (Int.tdiv (ji40) (wrap64 (1 + t154)))))) = false := by simpa using c41))
                      (try (have c41b2 : ((t163 == t157) == ((wrap64 (Int.tdiv t156 (wrap64 (1 + t154)))) == (wrap64 (Int.tdiv (ji40) (wrap64 (1 + t154)))))) = false := by simpa using c41))
                      (try (have c41b3 : ¬ ((t163 == t157) = ((wrap64 (Int.tdiv t156 (wrap64 (1 + t154)))) == (wrap64 (Int.tdiv (ji40) (wrap64 (1 + t154)))))) := by simpa using c41))
                      clear c41
                      exact absurd ((Option.some.inj H).trans HT.out) (by decide)
                · rw [if_neg c37] at H
                  have c37b0 : ((Int.tmod (wrap64 (t163 - t157)) t165) == 0) = false := beq_eq_false_iff_ne.mpr c37
                  have c37b1 : ((Int.tmod (wrap64 (t163 - t157)) t165) != 0) = true := bne_iff_ne.mpr c37
                  exact absurd ((Option.some.inj H).trans HT.out) (by decide)
            · rw [if_neg c27] at H
              have c27b0 : decide (t157 ≤ t163) = false := decide_eq_false c27
              clear c27
              exact absurd ((Option.some.inj H).trans HT.out) (by decide)
          · rw [if_neg c26] at H
            have c26b0 : decide ((wrap64 (t160 - t157)) < t165) = false := decide_eq_false c26
            clear c26
            exact absurd ((Option.some.inj H).trans HT.out) (by decide)
        · rw [if_neg c25] at H
          have c25b0 : decide (t157 ≤ t160) = false := decide_eq_false c25
          clear c25
          exact absurd ((Option.some.inj H).trans HT.out) (by decide)
      · replace c24 := Bool.eq_false_iff.mpr c24
        subst c24
        have H1 : (some false) = some r := by rw [if_neg (show ¬ (false = true) by decide)] at H; exact H
        clear H
        have H := H1
        clear H1
        exact absurd ((Option.some.inj H).trans HT.out) (by decide)
    · replace c23 := Bool.eq_false_iff.mpr c23
      subst c23
      have H1 : (some false) = some r := by rw [if_neg (show ¬ (false = true) by decide)] at H; exact H
      clear H
      have H := H1
      clear H1
      exact absurd ((Option.some.inj H).trans HT.out) (by decide)
  · replace c22 := Bool.eq_false_iff.mpr c22
    subst c22
    have H1 : (some false) = some r := by rw [if_neg (show ¬ (false = true) by decide)] at H; exact H
    clear H
    have H := H1
    clear H1
    exact absurd ((Option.some.inj H).trans HT.out) (by decide)

/-- THE ONE PURE STATEMENT of tilefarmlaw5_GridOrder: yours. -/
def tilefarmlaw5_GridOrder.Pure : Prop := ∀ (a0 : Int) (a1 : Int) (a2 : Int) (a3 : Int) (a4 : Int) (a5 : Int) (a6 : Int), (Lit.int .i64 a0).wf = true → (Lit.int .i64 a1).wf = true → (Lit.int .i64 a2).wf = true → (Lit.int .i64 a3).wf = true → (Lit.int .i64 a4).wf = true → (Lit.int .i64 a5).wf = true → (Lit.int .i64 a6).wf = true → ∃ k, tilefarmlaw5_GridOrder.f k a0 a1 a2 a3 a4 a5 a6 = some true
theorem tilefarmlaw5_GridOrder.walk (P : tilefarmlaw5_GridOrder.Pure) (a0 : Int) (a1 : Int) (a2 : Int) (a3 : Int) (a4 : Int) (a5 : Int) (a6 : Int) (w : World) (w0 : (Lit.int .i64 a0).wf = true) (w1 : (Lit.int .i64 a1).wf = true) (w2 : (Lit.int .i64 a2).wf = true) (w3 : (Lit.int .i64 a3).wf = true) (w4 : (Lit.int .i64 a4).wf = true) (w5 : (Lit.int .i64 a5).wf = true) (w6 : (Lit.int .i64 a6).wf = true) :
    Calls Try.prog 3 #[.int .i64 a0, .int .i64 a1, .int .i64 a2, .int .i64 a3, .int .i64 a4, .int .i64 a5, .int .i64 a6] w fun e w' => e = .returned (.bool true) ∧ Below w.heap.size w w' := by
  obtain ⟨k, h⟩ := P a0 a1 a2 a3 a4 a5 a6 w0 w1 w2 w3 w4 w5 w6
  refine (tilefarmlaw5_GridOrder.calls k a0 a1 a2 a3 a4 a5 a6 true w h).mono ?_
  rintro e w' ⟨rfl, hd⟩
  exact ⟨rfl, hd⟩

end Go.Proofs.Ytikpmojofdndnaa.PGridOrder
