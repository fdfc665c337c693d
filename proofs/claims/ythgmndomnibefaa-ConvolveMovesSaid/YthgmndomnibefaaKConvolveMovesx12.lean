-- Written by a program of the session (wip/tools/pack.py): the printed texts, pruned; checked by Lean.
import Derived.Test.YthgmndomnibefaaKConvolveMovesa
import Derived.Test.YthgmndomnibefaaKConvolveMovesx0
import Derived.Test.YthgmndomnibefaaKConvolveMovesx2
import Derived.Test.YthgmndomnibefaaKConvolveMovesx8
import Derived.Test.YthgmndomnibefaaKConvolveMovesx9
import Derived.Test.YthgmndomnibefaaKConvolveMovesx11
namespace Go.Proofs.Ythgmndomnibefaa.PConvolveMoves
open Go.RowKit Go.Proofs.YthgmndomnibefaaW.PrintWords Go.Proofs.YthgmndomnibefaaW.PrintLast Go.Proofs.YthgmndomnibefaaW.PrintMore
attribute [local go_sem] max2_int min2_int max_two min_two max_three min_three max_four min_four   -- for this text's walks alone
set_option linter.unusedVariables false
set_option linter.unusedSimpArgs false
mutual
def tilefarmlaw9_ConvolveMoves.l0 : Nat → Int → Int → List Int → Int → Int → Int → Int → List Int → Int → Int → Int → List Int → Option (Bool)
  | 0, _, _, _, _, _, _, _, _, _, _, _, _ => none
  | k + 1, x7, x9, x247000, x247001, x255000, x255001, x255002, x255003, x263000, x263001, x263002, x263003 => if x9 < (x255003.length : Int) then (if x255000 = 0 then (none) else (if 0 ≤ x9 then (if 0 ≤ (wrap64 ((wrap64 ((wrap64 (Int.tdiv x9 x255000)) * x255000)) + (Int.tmod (wrap64 ((Int.tmod x9 x255000) + x7)) x255000))) then (if (wrap64 ((wrap64 ((wrap64 (Int.tdiv x9 x255000)) * x255000)) + (Int.tmod (wrap64 ((Int.tmod x9 x255000) + x7)) x255000))) < (x263003.length : Int) then (tilefarmlaw9_ConvolveMoves.l0 k x7 (wrap64 (x9 + 1)) x247000 x247001 x255000 x255001 x255002 x255003 x263000 x263001 x263002 (x263003.set ((wrap64 ((wrap64 ((wrap64 (Int.tdiv x9 x255000)) * x255000)) + (Int.tmod (wrap64 ((Int.tmod x9 x255000) + x7)) x255000))) : Int).toNat (rd x255003 x9))) else (none)) else (none)) else (none))) else ((tilefarmgen_Tape_Weights.f k x247000 x247001 9).bind fun bt265 => ((tilefarmgen_Tape_Next.f x247000 bt265.2 4).bind fun bt269 => ((convolve_Tile.f k x255000 x255001 x255002 x255003 2 0 3 3 bt265.1 bt269.1 255 0 0 x255000 x255001).bind fun bt272 => ((convolve_Tile.f k x263000 x263001 x263002 x263003 2 0 3 3 bt265.1 bt269.1 255 0 0 x255000 x255001).bind fun bt280 => (if bt272.2.2.2.2 = 0 then (if bt280.2.2.2.2 = 0 then (if (bt272.2.2.2.1.length : Int) = (x255003.length : Int) then (tilefarmlaw9_ConvolveMoves.j1 k x7 ((bt280.2.2.2.1.length : Int) != (x255003.length : Int)) x255000 x255001 x255002 x255003 bt272.1 bt272.2.1 bt272.2.2.1 bt272.2.2.2.1 bt280.1 bt280.2.1 bt280.2.2.1 bt280.2.2.2.1) else (tilefarmlaw9_ConvolveMoves.j1 k x7 true x255000 x255001 x255002 x255003 bt272.1 bt272.2.1 bt272.2.2.1 bt272.2.2.2.1 bt280.1 bt280.2.1 bt280.2.2.1 bt280.2.2.2.1)) else (tilefarmlaw9_ConvolveMoves.j1 k x7 true x255000 x255001 x255002 x255003 bt272.1 bt272.2.1 bt272.2.2.1 bt272.2.2.2.1 bt280.1 bt280.2.1 bt280.2.2.1 bt280.2.2.2.1)) else (tilefarmlaw9_ConvolveMoves.j1 k x7 true x255000 x255001 x255002 x255003 bt272.1 bt272.2.1 bt272.2.2.1 bt272.2.2.2.1 bt280.1 bt280.2.1 bt280.2.2.1 bt280.2.2.2.1))))))
def tilefarmlaw9_ConvolveMoves.j1 : Nat → Int → Bool → Int → Int → Int → List Int → Int → Int → Int → List Int → Int → Int → Int → List Int → Option (Bool)
  | 0, _, _, _, _, _, _, _, _, _, _, _, _, _, _ => none
  | k + 1, x7, x110, x255000, x255001, x255002, x255003, x280000, x280001, x280002, x280003, x288000, x288001, x288002, x288003 => if x110 = true then (some false) else (tilefarmlaw9_ConvolveMoves.l1 k x7 0 x255000 x255001 x255002 x255003 x280000 x280001 x280002 x280003 x288000 x288001 x288002 x288003)
def tilefarmlaw9_ConvolveMoves.l1 : Nat → Int → Int → Int → Int → Int → List Int → Int → Int → Int → List Int → Int → Int → Int → List Int → Option (Bool)
  | 0, _, _, _, _, _, _, _, _, _, _, _, _, _, _ => none
  | k + 1, x7, x17, x255000, x255001, x255002, x255003, x280000, x280001, x280002, x280003, x288000, x288001, x288002, x288003 => if x17 < (x255003.length : Int) then (if x255000 = 0 then (none) else (if 0 ≤ (wrap64 ((wrap64 ((wrap64 (Int.tdiv x17 x255000)) * x255000)) + (Int.tmod (wrap64 ((Int.tmod x17 x255000) + x7)) x255000))) then (if (wrap64 ((wrap64 ((wrap64 (Int.tdiv x17 x255000)) * x255000)) + (Int.tmod (wrap64 ((Int.tmod x17 x255000) + x7)) x255000))) < (x288003.length : Int) then (if 0 ≤ x17 then (if x17 < (x280003.length : Int) then (if (rd x288003 (wrap64 ((wrap64 ((wrap64 (Int.tdiv x17 x255000)) * x255000)) + (Int.tmod (wrap64 ((Int.tmod x17 x255000) + x7)) x255000)))) = (rd x280003 x17) then (tilefarmlaw9_ConvolveMoves.l1 k x7 (wrap64 (x17 + 1)) x255000 x255001 x255002 x255003 x280000 x280001 x280002 x280003 x288000 x288001 x288002 x288003) else (some false)) else (none)) else (none)) else (none)) else (none))) else ((tilefarmlaw9_sane.f k).bind fun t290 => (some t290))
end
def tilefarmlaw9_ConvolveMoves.f (k : Nat) (l0 : List Int) (a1 : Int) : Option (Bool) := (tilefarmgen_New.f l0).bind fun bt244 => ((tilefarmgen_Tape_Plane.f k bt244.1 bt244.2).bind fun bt247 => ((tilefarmgen_Mod.f a1 bt247.1).bind fun t255 => ((tilefarmref4_Copy.f bt247.1 bt247.2.1 bt247.2.2.1 bt247.2.2.2.1).bind fun bt256 => (tilefarmlaw9_ConvolveMoves.l0 k t255 0 bt244.1 bt247.2.2.2.2 bt247.1 bt247.2.1 bt247.2.2.1 bt247.2.2.2.1 bt256.1 bt256.2.1 bt256.2.2.1 bt256.2.2.2))))
theorem tilefarmlaw9_ConvolveMoves.mono_l : ∀ k, (∀ y0 y1 y2 y3 y4 y5 y6 y7 y8 y9 y10 y11, LeO (tilefarmlaw9_ConvolveMoves.l0 k y0 y1 y2 y3 y4 y5 y6 y7 y8 y9 y10 y11) (tilefarmlaw9_ConvolveMoves.l0 (k + 1) y0 y1 y2 y3 y4 y5 y6 y7 y8 y9 y10 y11)) ∧ (∀ y0 y1 y2 y3 y4 y5 y6 y7 y8 y9 y10 y11 y12 y13, LeO (tilefarmlaw9_ConvolveMoves.j1 k y0 y1 y2 y3 y4 y5 y6 y7 y8 y9 y10 y11 y12 y13) (tilefarmlaw9_ConvolveMoves.j1 (k + 1) y0 y1 y2 y3 y4 y5 y6 y7 y8 y9 y10 y11 y12 y13)) ∧ (∀ y0 y1 y2 y3 y4 y5 y6 y7 y8 y9 y10 y11 y12 y13, LeO (tilefarmlaw9_ConvolveMoves.l1 k y0 y1 y2 y3 y4 y5 y6 y7 y8 y9 y10 y11 y12 y13) (tilefarmlaw9_ConvolveMoves.l1 (k + 1) y0 y1 y2 y3 y4 y5 y6 y7 y8 y9 y10 y11 y12 y13))
  | 0 => ⟨fun _ _ _ _ _ _ _ _ _ _ _ _ r h => by simp [tilefarmlaw9_ConvolveMoves.l0] at h, fun _ _ _ _ _ _ _ _ _ _ _ _ _ _ r h => by simp [tilefarmlaw9_ConvolveMoves.j1] at h, fun _ _ _ _ _ _ _ _ _ _ _ _ _ _ r h => by simp [tilefarmlaw9_ConvolveMoves.l1] at h⟩
  | k + 1 => by
    obtain ⟨ih0, ih1, ih2⟩ := tilefarmlaw9_ConvolveMoves.mono_l k
    refine ⟨?_, ?_, ?_⟩
    · intro y0 y1 y2 y3 y4 y5 y6 y7 y8 y9 y10 y11
      unfold tilefarmlaw9_ConvolveMoves.l0
      repeat' first
      | (with_reducible exact ih0 _ _ _ _ _ _ _ _ _ _ _ _)
      | (with_reducible exact ih1 _ _ _ _ _ _ _ _ _ _ _ _ _ _)
      | (with_reducible exact ih2 _ _ _ _ _ _ _ _ _ _ _ _ _ _)
      | (with_reducible exact convolve_Tile.mono _ _ _ _ _ _ _ _ _ _ _ _ _ _ _ _)
      | (with_reducible exact tilefarmgen_Tape_Plane.mono _ _ _)
      | (with_reducible exact tilefarmgen_Tape_Weights.mono _ _ _ _)
      | (with_reducible exact tilefarmlaw9_sane.mono _)
      | (with_reducible exact LeO.refl _)
      | (with_reducible exact LeO.none _)
      | (with_reducible refine LeO.ite ?_ ?_)
      | (with_reducible refine LeO.bind ?_ (fun _ => ?_))
      | exact ih0 _ _ _ _ _ _ _ _ _ _ _ _
      | exact ih1 _ _ _ _ _ _ _ _ _ _ _ _ _ _
      | exact ih2 _ _ _ _ _ _ _ _ _ _ _ _ _ _
      | exact convolve_Tile.mono _ _ _ _ _ _ _ _ _ _ _ _ _ _ _ _
      | exact tilefarmgen_Tape_Plane.mono _ _ _
      | exact tilefarmgen_Tape_Weights.mono _ _ _ _
      | exact tilefarmlaw9_sane.mono _
      | exact LeO.none _
      | refine LeO.ite ?_ ?_
      | refine LeO.bind ?_ (fun _ => ?_)
    · intro y0 y1 y2 y3 y4 y5 y6 y7 y8 y9 y10 y11 y12 y13
      unfold tilefarmlaw9_ConvolveMoves.j1
      repeat' first
      | (with_reducible exact ih0 _ _ _ _ _ _ _ _ _ _ _ _)
      | (with_reducible exact ih1 _ _ _ _ _ _ _ _ _ _ _ _ _ _)
      | (with_reducible exact ih2 _ _ _ _ _ _ _ _ _ _ _ _ _ _)
      | (with_reducible exact convolve_Tile.mono _ _ _ _ _ _ _ _ _ _ _ _ _ _ _ _)
      | (with_reducible exact tilefarmgen_Tape_Plane.mono _ _ _)
      | (with_reducible exact tilefarmgen_Tape_Weights.mono _ _ _ _)
      | (with_reducible exact tilefarmlaw9_sane.mono _)
      | (with_reducible exact LeO.refl _)
      | (with_reducible exact LeO.none _)
      | (with_reducible refine LeO.ite ?_ ?_)
      | (with_reducible refine LeO.bind ?_ (fun _ => ?_))
      | exact ih0 _ _ _ _ _ _ _ _ _ _ _ _
      | exact ih1 _ _ _ _ _ _ _ _ _ _ _ _ _ _
      | exact ih2 _ _ _ _ _ _ _ _ _ _ _ _ _ _
      | exact convolve_Tile.mono _ _ _ _ _ _ _ _ _ _ _ _ _ _ _ _
      | exact tilefarmgen_Tape_Plane.mono _ _ _
      | exact tilefarmgen_Tape_Weights.mono _ _ _ _
      | exact tilefarmlaw9_sane.mono _
      | exact LeO.none _
      | refine LeO.ite ?_ ?_
      | refine LeO.bind ?_ (fun _ => ?_)
    · intro y0 y1 y2 y3 y4 y5 y6 y7 y8 y9 y10 y11 y12 y13
      unfold tilefarmlaw9_ConvolveMoves.l1
      repeat' first
      | (with_reducible exact ih0 _ _ _ _ _ _ _ _ _ _ _ _)
      | (with_reducible exact ih1 _ _ _ _ _ _ _ _ _ _ _ _ _ _)
      | (with_reducible exact ih2 _ _ _ _ _ _ _ _ _ _ _ _ _ _)
      | (with_reducible exact convolve_Tile.mono _ _ _ _ _ _ _ _ _ _ _ _ _ _ _ _)
      | (with_reducible exact tilefarmgen_Tape_Plane.mono _ _ _)
      | (with_reducible exact tilefarmgen_Tape_Weights.mono _ _ _ _)
      | (with_reducible exact tilefarmlaw9_sane.mono _)
      | (with_reducible exact LeO.refl _)
      | (with_reducible exact LeO.none _)
      | (with_reducible refine LeO.ite ?_ ?_)
      | (with_reducible refine LeO.bind ?_ (fun _ => ?_))
      | exact ih0 _ _ _ _ _ _ _ _ _ _ _ _
      | exact ih1 _ _ _ _ _ _ _ _ _ _ _ _ _ _
      | exact ih2 _ _ _ _ _ _ _ _ _ _ _ _ _ _
      | exact convolve_Tile.mono _ _ _ _ _ _ _ _ _ _ _ _ _ _ _ _
      | exact tilefarmgen_Tape_Plane.mono _ _ _
      | exact tilefarmgen_Tape_Weights.mono _ _ _ _
      | exact tilefarmlaw9_sane.mono _
      | exact LeO.none _
      | refine LeO.ite ?_ ?_
      | refine LeO.bind ?_ (fun _ => ?_)
theorem tilefarmlaw9_ConvolveMoves.mono : ∀ a0 a1 k, LeO (tilefarmlaw9_ConvolveMoves.f k a0 a1) (tilefarmlaw9_ConvolveMoves.f (k + 1) a0 a1) := by
  intro a0 a1 k
  obtain ⟨ih0, ih1, ih2⟩ := tilefarmlaw9_ConvolveMoves.mono_l k
  unfold tilefarmlaw9_ConvolveMoves.f
  repeat' first
      | (with_reducible exact ih0 _ _ _ _ _ _ _ _ _ _ _ _)
      | (with_reducible exact ih1 _ _ _ _ _ _ _ _ _ _ _ _ _ _)
      | (with_reducible exact ih2 _ _ _ _ _ _ _ _ _ _ _ _ _ _)
      | (with_reducible exact convolve_Tile.mono _ _ _ _ _ _ _ _ _ _ _ _ _ _ _ _)
      | (with_reducible exact tilefarmgen_Tape_Plane.mono _ _ _)
      | (with_reducible exact tilefarmgen_Tape_Weights.mono _ _ _ _)
      | (with_reducible exact tilefarmlaw9_sane.mono _)
      | (with_reducible exact LeO.refl _)
      | (with_reducible exact LeO.none _)
      | (with_reducible refine LeO.ite ?_ ?_)
      | (with_reducible refine LeO.bind ?_ (fun _ => ?_))
      | exact ih0 _ _ _ _ _ _ _ _ _ _ _ _
      | exact ih1 _ _ _ _ _ _ _ _ _ _ _ _ _ _
      | exact ih2 _ _ _ _ _ _ _ _ _ _ _ _ _ _
      | exact convolve_Tile.mono _ _ _ _ _ _ _ _ _ _ _ _ _ _ _ _
      | exact tilefarmgen_Tape_Plane.mono _ _ _
      | exact tilefarmgen_Tape_Weights.mono _ _ _ _
      | exact tilefarmlaw9_sane.mono _
      | exact LeO.none _
      | refine LeO.ite ?_ ?_
      | refine LeO.bind ?_ (fun _ => ?_)
def tilefarmlaw9_ConvolveMoves.T8 : Bool × List (List Nat × List Nat) := (true, [([], []), ([0], [0]), ([], []), ([], []), ([3], [3]), ([2, 4], [2, 4]), ([], []), ([6], [6]), ([5, 7], [5, 7]), ([], []), ([], []), ([10], [10]), ([9, 11], [9, 11]), ([], []), ([12, 13], [12, 13]), ([], []), ([15], [15]), ([14, 16], [14, 16]), ([8, 17], [8, 17]), ([], []), ([19], [19]), ([], []), ([20, 21], [20, 21]), ([22], [22]), ([1, 18, 0, 1, 2, 3, 4, 5, 6, 7, 8, 9, 10, 11, 12, 13, 14, 15, 16, 17, 18, 19, 20, 21, 22, 23], [1, 18]), ([24, 23, 0, 1, 2, 3, 4, 5, 6, 7, 8, 9, 10, 11, 12, 13, 14, 15, 16, 17, 18, 19, 20, 21, 22, 23], [23, 24])])
def tilefarmlaw9_ConvolveMoves.B8 : List Nat := [0, 1, 0, 0, 8, 28, 0, 64, 252, 0, 0, 1024, 3584, 0, 15872, 0, 32768, 130560, 262140, 0, 524288, 0, 3670016, 7864320, 16777215, 33554431]
theorem tilefarmlaw9_ConvolveMoves.tab8 : rtab .any (opsOf Try.f7 8) = tilefarmlaw9_ConvolveMoves.T8 := by kernel_rfl
theorem tilefarmlaw9_ConvolveMoves.bits8 : waitsOk tilefarmlaw9_ConvolveMoves.T8.2 tilefarmlaw9_ConvolveMoves.B8 = true := by kernel_rfl
def tilefarmlaw9_ConvolveMoves.T9 : Bool × List (List Nat × List Nat) := (true, [([], []), ([0], [0]), ([], []), ([2, 1], [2]), ([], []), ([4], [4]), ([], []), ([6], [6]), ([5, 7], [5, 7]), ([], []), ([1, 3, 0, 1, 9], [1]), ([3, 10, 0, 1, 2, 3, 9, 10], [3]), ([9, 8, 11, 0, 1, 2, 3, 4, 5, 6, 7, 8, 9, 10, 11], [8, 9])])
def tilefarmlaw9_ConvolveMoves.B9 : List Nat := [0, 1, 0, 7, 0, 16, 0, 64, 240, 0, 527, 1551, 4095]
theorem tilefarmlaw9_ConvolveMoves.tab9 : rtab .any (opsOf Try.f7 9) = tilefarmlaw9_ConvolveMoves.T9 := by kernel_rfl
theorem tilefarmlaw9_ConvolveMoves.bits9 : waitsOk tilefarmlaw9_ConvolveMoves.T9.2 tilefarmlaw9_ConvolveMoves.B9 = true := by kernel_rfl
def tilefarmlaw9_ConvolveMoves.T17 : Bool × List (List Nat × List Nat) := (true, [([], []), ([0], [0]), ([], []), ([], []), ([3], [3]), ([2, 4], [2, 4]), ([], []), ([6], [6]), ([5, 7], [5, 7]), ([], []), ([], []), ([10], [10]), ([9, 11], [9, 11]), ([], []), ([12, 13], [12, 13]), ([], []), ([15], [15]), ([14, 16], [14, 16]), ([8, 17], [8, 17]), ([1, 18], [1, 18]), ([19], [19]), ([], []), ([21], [21]), ([], []), ([22, 23], [22, 23]), ([24], [24]), ([20, 25], [20, 25])])
def tilefarmlaw9_ConvolveMoves.B17 : List Nat := [0, 1, 0, 0, 8, 28, 0, 64, 252, 0, 0, 1024, 3584, 0, 15872, 0, 32768, 130560, 262140, 524287, 1048575, 0, 2097152, 0, 14680064, 31457280, 67108863]
theorem tilefarmlaw9_ConvolveMoves.tab17 : rtab .any (opsOf Try.f7 17) = tilefarmlaw9_ConvolveMoves.T17 := by kernel_rfl
theorem tilefarmlaw9_ConvolveMoves.bits17 : waitsOk tilefarmlaw9_ConvolveMoves.T17.2 tilefarmlaw9_ConvolveMoves.B17 = true := by kernel_rfl
set_option maxHeartbeats 8000000 in
set_option maxRecDepth 100000 in
theorem tilefarmlaw9_ConvolveMoves.calls (k : Nat) (A0 : Option Addr) (c0 : Nat) (l0 : List Int) (a1 : Int) (r : Bool) (w : World) (hr0 : Kd.C (Kd.int .i64) w A0 l0.length l0) (hc0 : l0.length ≤ c0) (h : tilefarmlaw9_ConvolveMoves.f k l0 a1 = some r) (hT : r = true := by first | rfl | assumption | exact HT.out) :
    Calls Try.prog 7 #[.slice A0 l0.length c0, .int .i64 a1] w fun e w' => e = .returned (.bool r) ∧ Below w.heap.size w w' := by
  have HT := Aside0.mk hT
  clear hT
  have hu35 := Try.underlying35
  have hu33 := Try.underlying33
  have hu38 := Try.underlying38
  have HR0 := Aside0.mk hr0
  have HC0 := Aside0.mk hc0
  clear hr0 hc0
  have HB := Aside0.mk (Below.refl w.heap.size w)
  have H : ((tilefarmgen_New.f l0).bind fun bt244 => ((tilefarmgen_Tape_Plane.f k bt244.1 bt244.2).bind fun bt247 => ((tilefarmgen_Mod.f a1 bt247.1).bind fun t255 => ((tilefarmref4_Copy.f bt247.1 bt247.2.1 bt247.2.2.1 bt247.2.2.2.1).bind fun bt256 => (tilefarmlaw9_ConvolveMoves.l0 k t255 0 bt244.1 bt247.2.2.2.2 bt247.1 bt247.2.1 bt247.2.2.1 bt247.2.2.2.1 bt256.1 bt256.2.1 bt256.2.2.1 bt256.2.2.2))))) = some r := h
  clear h
  replace H := Option.bind_eq_some_iff.mp H
  obtain ⟨⟨t244, t245⟩, A30, H⟩ := H
  replace H : ((tilefarmgen_Tape_Plane.f k t244 t245).bind fun bt247 => ((tilefarmgen_Mod.f a1 bt247.1).bind fun t255 => ((tilefarmref4_Copy.f bt247.1 bt247.2.1 bt247.2.2.1 bt247.2.2.2.1).bind fun bt256 => (tilefarmlaw9_ConvolveMoves.l0 k t255 0 t244 bt247.2.2.2.2 bt247.1 bt247.2.1 bt247.2.2.1 bt247.2.2.2.1 bt256.1 bt256.2.1 bt256.2.2.1 bt256.2.2.2)))) = some r := H
  have A3 := Aside0.mk A30
  clear A30
  replace H := Option.bind_eq_some_iff.mp H
  obtain ⟨⟨t247, t248, t249, t250, t253⟩, A40, H⟩ := H
  replace H : ((tilefarmgen_Mod.f a1 t247).bind fun t255 => ((tilefarmref4_Copy.f t247 t248 t249 t250).bind fun bt256 => (tilefarmlaw9_ConvolveMoves.l0 k t255 0 t244 t253 t247 t248 t249 t250 bt256.1 bt256.2.1 bt256.2.2.1 bt256.2.2.2))) = some r := H
  have A4 := Aside0.mk A40
  clear A40
  replace H := Option.bind_eq_some_iff.mp H
  obtain ⟨t255, A50, H⟩ := H
  replace H : ((tilefarmref4_Copy.f t247 t248 t249 t250).bind fun bt256 => (tilefarmlaw9_ConvolveMoves.l0 k t255 0 t244 t253 t247 t248 t249 t250 bt256.1 bt256.2.1 bt256.2.2.1 bt256.2.2.2)) = some r := H
  have A5 := Aside0.mk A50
  clear A50
  replace H := Option.bind_eq_some_iff.mp H
  obtain ⟨⟨t256, t257, t258, t259⟩, A60, H⟩ := H
  replace H : (tilefarmlaw9_ConvolveMoves.l0 k t255 0 t244 t253 t247 t248 t249 t250 t256 t257 t258 t259) = some r := H
  have A6 := Aside0.mk A60
  clear A60
  have H' := Aside0.mk H
  clear H
  go_enter Try.func7, Try.ntmps7
  go_wp2_with (first | ((with_reducible refine gate_callee (f := 8) rfl ?_); refine goesL_ (some 19) rfl rfl Try.func8 (by kernel_rfl) rfl #[.slice A0 l0.length c0] rfl q93_ ?_; (with_reducible refine (tilefarmgen_New.calls _ _ l0 t244 t245 w _ ?side1 ?side2 ?side3 A3.out).mono ?_); (case side1 => repeat (first | (with_reducible first | exact HB.out | apply below_alloc | apply pw_below_drewN | apply below_drew1) | exact HB.out)); (case side2 => exact HR0.out); (case side3 => exact HC0.out); rintro e w7 ⟨g246, rfl, hi, hb, hb2⟩; refine ⟨_, rfl, ?_⟩; have n0_ := Aside0.mk (hb); have n1_ := Aside0.mk (hi); clear HB; have HB := n0_; have HI246 := n1_; clear n0_ n1_; (try clear hb); (try clear hb2); (try clear hk); (try clear hi)) | ((with_reducible refine gate_callee (f := 15) rfl ?_); refine goesL_ (some 21) rfl rfl Try.func15 (by kernel_rfl) rfl #[.pointer (some ⟨g246, 0, none⟩)] rfl q93_ ?_; (with_reducible refine (tilefarmgen_Tape_Plane.calls k g246 t244 t245 t247 t248 t249 t250 t253 w _ ?side1 ?side2 A4.out).mono ?_); (case side1 => repeat (first | (with_reducible first | exact HI246.out | apply IsS54.alloc | apply IsS54.drewN | apply IsS54.drew | apply IsS54.set_1) | exact HI246.out)); (case side2 => repeat (first | (with_reducible first | exact HB.out | apply below_alloc | apply pw_below_drewN | apply below_drew1 | refine below_set ?_ (IsS54.ge HI246.out)) | exact HB.out)); rintro e w8 ⟨v251, rfl, ho0, hi, hb, hk⟩; refine ⟨_, rfl, ?_⟩; have n0_ := Aside0.mk (Kd.R_lower ho0 (below_size q72_)); have n1_ := Aside0.mk (hb); have n2_ := Aside0.mk (hi); clear HB; clear HI246; have HO252 := n0_; have HB := n1_; have HI246 := n2_; clear n0_ n1_ n2_; (try clear hb); (try clear hb2); (try clear hk); (try clear hi); (try clear ho0)) | ((with_reducible refine gate_dst (N := 6) rfl ?_); (try (refine gate_guard (by rfl) ?_; dsimp only)); refine box_event ?hg (N := 6) ?hd (cs := #[.int .i64 0, .int .i64 0, .int .i64 0, .slice none 0 0]) (t := 35) ?hr ?_; (case hd => rfl); (case hg => rfl); (case hr => first | (go_simp; done) | (go_simp; rfl)); intro gb254 hg w9 hbox hb; have n0_ := Aside0.mk (Kd.R_below (by (with_reducible repeat (first | apply Kd.R_alloc | apply Kd.R_drewN | apply Kd.R_drew)); exact HO252.out) hb); have n1_ := Aside0.mk (IsS54.below (by repeat (first | (with_reducible first | exact HI246.out | apply IsS54.alloc | apply IsS54.drewN | apply IsS54.drew | apply IsS54.set_1) | exact HI246.out)) hb); have n2_ := Aside0.mk (below_step q72_ hb); have n3_ := Aside0.mk (hbox); have n4_ := Aside0.mk ((by rw [hg]; exact (below_size q72_) : w.heap.size ≤ gb254)); have n5_ := Aside0.mk ((by rw [hg]; exact (below_size q72_) : w.heap.size ≤ gb254)); have n6_ := Aside0.mk ((by rw [hg]; exact Nat.ne_of_lt (IsS54.lt (show IsS54 w _ g246 t244 t253 from by repeat (first | (with_reducible first | exact HI246.out | apply IsS54.alloc | apply IsS54.drewN | apply IsS54.drew | apply IsS54.set_1) | exact HI246.out))) : g246 ≠ gb254)); have n7_ := Aside0.mk ((by rw [hg]; exact Nat.ne_of_gt (IsS54.lt (show IsS54 w _ g246 t244 t253 from by repeat (first | (with_reducible first | exact HI246.out | apply IsS54.alloc | apply IsS54.drewN | apply IsS54.drew | apply IsS54.set_1) | exact HI246.out))) : gb254 ≠ g246)); clear HO252; clear HI246; clear HB; have HO252 := n0_; have HI246 := n1_; have HB := n2_; have BK254 := n3_; have GW254 := n4_; have GE254 := n5_; have NB246_254 := n6_; have NB254_246 := n7_; clear n0_ n1_ n2_ n3_ n4_ n5_ n6_ n7_; clear hb hbox hg; have hnb10 := NB254_246.out; have hnc10 := NB246_254.out; have hcz11_0 : w9.cell? ⟨gb254, 0, none⟩ = some (.int .i64 0) := (blk_cell BK254.out 0).trans rfl; have hcz11_1 : w9.cell? ⟨gb254, 1, none⟩ = some (.int .i64 0) := (blk_cell BK254.out 1).trans rfl; have hcz11_2 : w9.cell? ⟨gb254, 2, none⟩ = some (.int .i64 0) := (blk_cell BK254.out 2).trans rfl; have hcz11_3 : w9.cell? ⟨gb254, 3, none⟩ = some (.slice none 0 0) := (blk_cell BK254.out 3).trans rfl; have hfz11_0 := blk_frozen BK254.out 0; have hfz11_1 := blk_frozen BK254.out 1; have hfz11_2 := blk_frozen BK254.out 2; have hfz11_3 := blk_frozen BK254.out 3; obtain ⟨Ao12, co12, eo12⟩ := Kd.R_slice HO252.out; subst eo12) | ((with_reducible refine gate_callee (f := 24) rfl ?_); refine goesL_ (some 25) rfl rfl Try.func24 (by kernel_rfl) rfl #[.int .i64 a1, .int .i64 t247] rfl q93_ ?_; (with_reducible refine (tilefarmgen_Mod.calls a1 t247 t255 _ A5.out).mono ?_); rintro e w' ⟨rfl, ⟨nd, rfl⟩⟩; refine ⟨_, rfl, ?_⟩) | ((with_reducible refine gate_callee (f := 25) rfl ?_); refine goesL_ (some 27) rfl rfl Try.func25 (by kernel_rfl) rfl #[.agg #[.int .i64 t247, .int .i64 t248, .int .i64 t249, .slice Ao12 t250.length co12]] rfl q93_ ?_; (with_reducible refine (tilefarmref4_Copy.calls t247 t248 t249 _ _ t250 t256 t257 t258 t259 _ ?side1 ?side2 A6.out).mono ?_); (case side1 => refine (Kd.R_reads' (e := 3) (base := w.heap.size) (ok := fun k_ => True) (n := t250.length) (c := co12) ?_).2.2; exact q11_); (case side2 => exact (Kd.R_reads' HO252.out).2.1); rintro e w13 ⟨v260, rfl, ho0, hb⟩; refine ⟨_, rfl, ?_⟩; have n0_ := Aside0.mk (Kd.R_elder' q11_ (Kd.R_base ho0) hb); have n1_ := Aside0.mk (Kd.R_lower (Kd.R_new' ho0 (Kd.R_lt q11_)) (below_size q57_)); have n2_ := Aside0.mk (show IsS54 w w13 g246 t244 t253 from by first | exact (IsS54.below (show IsS54 w ((((w9.setCell ⟨gb254, 0, none⟩ (.int .i64 t247)).setCell ⟨gb254, 1, none⟩ (.int .i64 t248)).setCell ⟨gb254, 2, none⟩ (.int .i64 t249)).setCell ⟨gb254, 3, none⟩ (.slice Ao12 t250.length co12)) g246 t244 t253 from by repeat (first | (with_reducible first | exact HI246.out | apply IsS54.alloc | apply IsS54.drewN | apply IsS54.drew | apply IsS54.set_1 | refine IsS54.far ?_ NB246_254.out _) | exact HI246.out)) hb) | exact (IsS54.below (show IsS54 w (((((w9.setCell ⟨gb254, 0, none⟩ (.int .i64 t247)).setCell ⟨gb254, 1, none⟩ (.int .i64 t248)).setCell ⟨gb254, 2, none⟩ (.int .i64 t249)).setCell ⟨gb254, 3, none⟩ (.slice Ao12 t250.length co12)).drewN nd) g246 t244 t253 from by repeat (first | (with_reducible first | exact HI246.out | apply IsS54.alloc | apply IsS54.drewN | apply IsS54.drew | apply IsS54.set_1 | refine IsS54.far ?_ NB246_254.out _) | exact HI246.out)) hb)); have n3_ := Aside0.mk (blk_below (g := gb254) (o := .cells #[.int .i64 t247, .int .i64 t248, .int .i64 t249, .slice Ao12 t250.length co12] 35 (0, 0)) (by (with_reducible repeat (first | refine blk_drewN ?_ _ | refine blk_drew ?_ | refine blk_alloc ?_ _)); refine blk_put (cs := #[.int .i64 t247, .int .i64 t248, .int .i64 t249, .slice none 0 0]) ?_ 3 _ rfl; (with_reducible repeat (first | refine blk_drewN ?_ _ | refine blk_drew ?_ | refine blk_alloc ?_ _)); refine blk_put (cs := #[.int .i64 t247, .int .i64 t248, .int .i64 0, .slice none 0 0]) ?_ 2 _ rfl; (with_reducible repeat (first | refine blk_drewN ?_ _ | refine blk_drew ?_ | refine blk_alloc ?_ _)); refine blk_put (cs := #[.int .i64 t247, .int .i64 0, .int .i64 0, .slice none 0 0]) ?_ 1 _ rfl; (with_reducible repeat (first | refine blk_drewN ?_ _ | refine blk_drew ?_ | refine blk_alloc ?_ _)); refine blk_put (cs := #[.int .i64 0, .int .i64 0, .int .i64 0, .slice none 0 0]) ?_ 0 _ rfl; (with_reducible repeat (first | refine blk_drewN ?_ _ | refine blk_drew ?_ | refine blk_alloc ?_ _)); exact BK254.out) hb); have n4_ := Aside0.mk (below_step q57_ hb); clear HO252; clear HI246; clear BK254; clear HB; have HO252 := n0_; have HO261 := n1_; have HI246 := n2_; have BK254 := n3_; have HB := n4_; clear n0_ n1_ n2_ n3_ n4_; (try clear hb); (try clear hb2); (try clear hk); (try clear hi); (try clear ho0)) | ((with_reducible refine gate_dst (N := 8) rfl ?_); (try (refine gate_guard (by rfl) ?_; dsimp only)); refine box_event ?hg (N := 8) ?hd (cs := #[.int .i64 0, .int .i64 0, .int .i64 0, .slice none 0 0]) (t := 35) ?hr ?_; (case hd => rfl); (case hg => rfl); (case hr => first | (go_simp; done) | (go_simp; rfl)); intro gb262 hg w14 hbox hb; have n0_ := Aside0.mk (Kd.R_below (by (with_reducible repeat (first | apply Kd.R_alloc | apply Kd.R_drewN | apply Kd.R_drew)); exact HO252.out) hb); have n1_ := Aside0.mk (Kd.R_below (by (with_reducible repeat (first | apply Kd.R_alloc | apply Kd.R_drewN | apply Kd.R_drew)); exact HO261.out) hb); have n2_ := Aside0.mk (IsS54.below (by repeat (first | (with_reducible first | exact HI246.out | apply IsS54.alloc | apply IsS54.drewN | apply IsS54.drew | apply IsS54.set_1 | refine IsS54.far ?_ NB246_254.out _) | exact HI246.out)) hb); have n3_ := Aside0.mk (blk_below (g := gb254) (o := .cells #[.int .i64 t247, .int .i64 t248, .int .i64 t249, .slice Ao12 t250.length co12] 35 (0, 0)) q119_ hb); have n4_ := Aside0.mk (below_step q57_ hb); have n5_ := Aside0.mk (hbox); have n6_ := Aside0.mk ((by rw [hg]; exact (below_size q57_) : w.heap.size ≤ gb262)); have n7_ := Aside0.mk ((by rw [hg]; exact (below_size q57_) : w.heap.size ≤ gb262)); have n8_ := Aside0.mk ((by rw [hg]; exact Nat.ne_of_lt (blk_lt (g := gb254) (o := .cells #[.int .i64 t247, .int .i64 t248, .int .i64 t249, .slice Ao12 t250.length co12] 35 (0, 0)) q119_) : gb254 ≠ gb262)); have n9_ := Aside0.mk ((by rw [hg]; exact Nat.ne_of_gt (blk_lt (g := gb254) (o := .cells #[.int .i64 t247, .int .i64 t248, .int .i64 t249, .slice Ao12 t250.length co12] 35 (0, 0)) q119_) : gb262 ≠ gb254)); have n10_ := Aside0.mk ((by rw [hg]; exact Nat.ne_of_lt (IsS54.lt (show IsS54 w _ g246 t244 t253 from by repeat (first | (with_reducible first | exact HI246.out | apply IsS54.alloc | apply IsS54.drewN | apply IsS54.drew | apply IsS54.set_1 | refine IsS54.far ?_ NB246_254.out _) | exact HI246.out))) : g246 ≠ gb262)); have n11_ := Aside0.mk ((by rw [hg]; exact Nat.ne_of_gt (IsS54.lt (show IsS54 w _ g246 t244 t253 from by repeat (first | (with_reducible first | exact HI246.out | apply IsS54.alloc | apply IsS54.drewN | apply IsS54.drew | apply IsS54.set_1 | refine IsS54.far ?_ NB246_254.out _) | exact HI246.out))) : gb262 ≠ g246)); clear HO252; clear HO261; clear HI246; clear BK254; clear HB; have HO252 := n0_; have HO261 := n1_; have HI246 := n2_; have BK254 := n3_; have HB := n4_; have BK262 := n5_; have GW262 := n6_; have GE262 := n7_; have NB254_262 := n8_; have NB262_254 := n9_; have NB246_262 := n10_; have NB262_246 := n11_; clear n0_ n1_ n2_ n3_ n4_ n5_ n6_ n7_ n8_ n9_ n10_ n11_; clear hb hbox hg; have hnb15 := NB262_254.out; have hnc15 := NB254_262.out; have hnb16 := NB262_246.out; have hnc16 := NB246_262.out; have hcz17_0 : w14.cell? ⟨gb262, 0, none⟩ = some (.int .i64 0) := (blk_cell BK262.out 0).trans rfl; have hcz17_1 : w14.cell? ⟨gb262, 1, none⟩ = some (.int .i64 0) := (blk_cell BK262.out 1).trans rfl; have hcz17_2 : w14.cell? ⟨gb262, 2, none⟩ = some (.int .i64 0) := (blk_cell BK262.out 2).trans rfl; have hcz17_3 : w14.cell? ⟨gb262, 3, none⟩ = some (.slice none 0 0) := (blk_cell BK262.out 3).trans rfl; have hfz17_0 := blk_frozen BK262.out 0; have hfz17_1 := blk_frozen BK262.out 1; have hfz17_2 := blk_frozen BK262.out 2; have hfz17_3 := blk_frozen BK262.out 3; obtain ⟨Ao18, co18, eo18⟩ := Kd.R_slice HO261.out; subst eo18))
  go_loopg [9] k (fun kq v9 w' => ∃ (x9_1 : Int) (x255003_1 : List Int) (x263003_1 : List Int) (u255003 : Value) (u263003 : Value), v9 = .int .i64 x9_1 ∧ Aside0 (tilefarmlaw9_ConvolveMoves.l0 kq t255 x9_1 t244 t253 t247 t248 t249 x255003_1 t256 t257 t258 x263003_1 = some r) ∧ Aside0 (kq ≤ k) ∧ Aside0 (Kd.R (Kd.int .i64) 3 w' w.heap.size (fun k_ => some k_ ≠ (u263003 : Value).ownBlock) u255003 x255003_1) ∧ Aside0 (Kd.R (Kd.int .i64) 3 w' w.heap.size (fun k_ => some k_ ≠ (u255003 : Value).ownBlock) u263003 x263003_1) ∧ Aside0 (w'.heap[gb254]? = some (.cells #[.int .i64 t247, .int .i64 t248, .int .i64 t249, u255003] 35 (0, 0))) ∧ Aside0 (w'.heap[gb262]? = some (.cells #[.int .i64 t256, .int .i64 t257, .int .i64 t258, u263003] 35 (0, 0))) ∧ Aside0 (IsS54 w w' g246 t244 t253) ∧ Aside0 (Below w.heap.size w w'))
  case atStart => exact ⟨(0), (t250), (t259), (.slice Ao12 t250.length co12), (.slice Ao18 t259.length co18), q146_, H', ⟨Nat.le_refl _⟩, ⟨by (with_reducible repeat (first | apply Kd.R_alloc | apply Kd.R_drewN | apply Kd.R_drew)); exact Kd.R_mono (Kd.R_far (p := ⟨gb262, 3, none⟩) (Kd.R_far (p := ⟨gb262, 2, none⟩) (Kd.R_far (p := ⟨gb262, 1, none⟩) (Kd.R_far (p := ⟨gb262, 0, none⟩) (Kd.R_types HO252.out BK262.out (by decide)) (fun _ hk => hk.2) (.int .i64 t256)) (fun _ hk => hk.2) (.int .i64 t257)) (fun _ hk => hk.2) (.int .i64 t258)) (fun _ hk => hk.2) (.slice Ao18 t259.length co18)) (fun _ hk => hk.1.2)⟩, ⟨by (with_reducible repeat (first | apply Kd.R_alloc | apply Kd.R_drewN | apply Kd.R_drew)); exact Kd.R_mono (Kd.R_far (p := ⟨gb262, 3, none⟩) (Kd.R_far (p := ⟨gb262, 2, none⟩) (Kd.R_far (p := ⟨gb262, 1, none⟩) (Kd.R_far (p := ⟨gb262, 0, none⟩) (Kd.R_types HO261.out BK262.out (by decide)) (fun _ hk => hk.2) (.int .i64 t256)) (fun _ hk => hk.2) (.int .i64 t257)) (fun _ hk => hk.2) (.int .i64 t258)) (fun _ hk => hk.2) (.slice Ao18 t259.length co18)) (fun _ hk => hk.1.2)⟩, ⟨by (with_reducible repeat (first | refine blk_drewN ?_ _ | refine blk_drew ?_ | refine blk_alloc ?_ _)); refine blk_far ?_ NB254_262.out _; (with_reducible repeat (first | refine blk_drewN ?_ _ | refine blk_drew ?_ | refine blk_alloc ?_ _)); refine blk_far ?_ NB254_262.out _; (with_reducible repeat (first | refine blk_drewN ?_ _ | refine blk_drew ?_ | refine blk_alloc ?_ _)); refine blk_far ?_ NB254_262.out _; (with_reducible repeat (first | refine blk_drewN ?_ _ | refine blk_drew ?_ | refine blk_alloc ?_ _)); refine blk_far ?_ NB254_262.out _; (with_reducible repeat (first | refine blk_drewN ?_ _ | refine blk_drew ?_ | refine blk_alloc ?_ _)); exact BK254.out⟩, ⟨by (with_reducible repeat (first | refine blk_drewN ?_ _ | refine blk_drew ?_ | refine blk_alloc ?_ _)); refine blk_put (cs := #[.int .i64 t256, .int .i64 t257, .int .i64 t258, .slice none 0 0]) ?_ 3 _ rfl; (with_reducible repeat (first | refine blk_drewN ?_ _ | refine blk_drew ?_ | refine blk_alloc ?_ _)); refine blk_put (cs := #[.int .i64 t256, .int .i64 t257, .int .i64 0, .slice none 0 0]) ?_ 2 _ rfl; (with_reducible repeat (first | refine blk_drewN ?_ _ | refine blk_drew ?_ | refine blk_alloc ?_ _)); refine blk_put (cs := #[.int .i64 t256, .int .i64 0, .int .i64 0, .slice none 0 0]) ?_ 1 _ rfl; (with_reducible repeat (first | refine blk_drewN ?_ _ | refine blk_drew ?_ | refine blk_alloc ?_ _)); refine blk_put (cs := #[.int .i64 0, .int .i64 0, .int .i64 0, .slice none 0 0]) ?_ 0 _ rfl; (with_reducible repeat (first | refine blk_drewN ?_ _ | refine blk_drew ?_ | refine blk_alloc ?_ _)); exact BK262.out⟩, ⟨q50_⟩, ⟨q46_⟩⟩
  case round =>
    clear H'
    try clear c1
    try clear c2
    try clear p2
    try clear c7
    try clear c8
    try clear c10
    try clear c15
    try clear c16
    try clear hcz11_0
    try clear hcz11_1
    try clear hcz11_2
    try clear hcz11_3
    try clear hcz17_0
    try clear hcz17_1
    try clear hcz17_2
    try clear hcz17_3
    try clear hfz11_0
    try clear hfz11_1
    try clear hfz11_2
    try clear hfz11_3
    try clear hfz17_0
    try clear hfz17_1
    try clear hfz17_2
    try clear hfz17_3
    obtain ⟨x9_1, x255003_1, x263003_1, u255003, u263003, rfl, HA, HK1, HO_255003, HO_263003, BK254, BK262, HI246, HB⟩ := hrel
    cases gk with
    | zero => exact absurd HA.out (by simp [tilefarmlaw9_ConvolveMoves.l0])
    | succ k1 =>
      have H := HA.out
      clear HA
      simp only [tilefarmlaw9_ConvolveMoves.l0] at H
      by_cases c19 : x9_1 < (x255003_1.length : Int)
      · rw [if_pos c19] at H
        have c19b0 : decide (x9_1 < (x255003_1.length : Int)) = true := decide_eq_true c19
        clear c19
        by_cases c20 : t247 = 0
        · rw [if_pos c20] at H
          exact absurd H (by simp)
        · rw [if_neg c20] at H
          have c20b0 : (t247 == 0) = false := beq_eq_false_iff_ne.mpr c20
          have c20b1 : (t247 != 0) = true := bne_iff_ne.mpr c20
          by_cases c21 : 0 ≤ x9_1
          · rw [if_pos c21] at H
            have c21b0 : decide (0 ≤ x9_1) = true := decide_eq_true c21
            clear c21
            obtain ⟨ji22, hji22⟩ : ∃ j_ : Int, (wrap64 ((wrap64 ((wrap64 (Int.tdiv x9_1 t247)) * t247)) + (Int.tmod (wrap64 ((Int.tmod x9_1 t247) + t255)) t247))) = j_ := ⟨_, rfl⟩
            replace H : (if 0 ≤ (ji22) then (if (ji22) < (x263003_1.length : Int) then (tilefarmlaw9_ConvolveMoves.l0 k1 t255 (wrap64 (x9_1 + 1)) t244 t253 t247 t248 t249 x255003_1 t256 t257 t258 (x263003_1.set ((ji22) : Int).toNat (rd x255003_1 x9_1))) else (none)) else (none)) = some r := by first | (rw [hji22] at H; exact H) | (simp only [hji22] at H ⊢; exact H)
            have hji22w : (IntKind.i64.wrap ((wrap64 ((wrap64 (Int.tdiv x9_1 t247)) * t247)) + (Int.tmod (wrap64 ((Int.tmod x9_1 t247) + t255)) t247))) = ji22 := (i64_w _).trans hji22
            by_cases c23 : 0 ≤ (ji22)
            · rw [if_pos c23] at H
              have c23b0 : decide (0 ≤ (ji22)) = true := decide_eq_true c23
              clear c23
              by_cases c24 : (ji22) < (x263003_1.length : Int)
              · rw [if_pos c24] at H
                have c24b0 : decide ((ji22) < (x263003_1.length : Int)) = true := decide_eq_true c24
                clear c24
                obtain ⟨y264, hy264⟩ : ∃ y_ : List Int, y_ = (x263003_1.set ((ji22) : Int).toNat (rd x255003_1 x9_1)) := ⟨_, rfl⟩
                replace H : (tilefarmlaw9_ConvolveMoves.l0 k1 t255 (wrap64 (x9_1 + 1)) t244 t253 t247 t248 t249 x255003_1 t256 t257 t258 y264) = some r := by first | (rw [hy264]; with_reducible exact H) | (have H2_ := (Option.bind_some _ _).symm.trans H; rw [hy264]; with_reducible exact H2_) | (have H2_ := (Option.bind_some _ _).symm.trans H; with_reducible exact H2_) | with_reducible exact H | (rw [hy264]; exact H) | exact H
                have Ny264 := Aside0.mk hy264
                clear hy264
                have H' := Aside0.mk H
                clear H
                have hnb26 := NB254_262.out
                have hnc26 := NB262_254.out
                have hnb27 := NB254_246.out
                have hnc27 := NB246_254.out
                have hcz28_0 : wr.cell? ⟨gb254, 0, none⟩ = some (.int .i64 t247) := (blk_cell BK254.out 0).trans rfl
                have hcz28_1 : wr.cell? ⟨gb254, 1, none⟩ = some (.int .i64 t248) := (blk_cell BK254.out 1).trans rfl
                have hcz28_2 : wr.cell? ⟨gb254, 2, none⟩ = some (.int .i64 t249) := (blk_cell BK254.out 2).trans rfl
                have hcz28_3 : wr.cell? ⟨gb254, 3, none⟩ = some (u255003) := (blk_cell BK254.out 3).trans rfl
                have hfz28_0 := blk_frozen BK254.out 0
                have hfz28_1 := blk_frozen BK254.out 1
                have hfz28_2 := blk_frozen BK254.out 2
                have hfz28_3 := blk_frozen BK254.out 3
                obtain ⟨Ao29, co29, eo29⟩ := Kd.R_slice HO_255003.out
                subst eo29
                try go_wp2
                have n0_ := Aside0.mk (Kd.R_drew HO_255003.out)
                have n1_ := Aside0.mk (Kd.R_drew HO_263003.out)
                have n2_ := Aside0.mk (blk_drew BK254.out)
                have n3_ := Aside0.mk (blk_drew BK262.out)
                have n4_ := Aside0.mk (IsS54.drew HI246.out)
                have n5_ := Aside0.mk (below_drew1 HB.out)
                clear HO_255003
                clear HO_263003
                clear BK254
                clear BK262
                clear HI246
                clear HB
                have HO_255003 := n0_
                have HO_263003 := n1_
                have BK254 := n2_
                have BK262 := n3_
                have HI246 := n4_
                have HB := n5_
                clear n0_ n1_ n2_ n3_ n4_ n5_
                have p263 : 0 ≤ (x9_1 : Int) := of_decide_eq_true q145_
                have q263 : x9_1 < (x255003_1.length : Int) := of_decide_eq_true q145_
                obtain ⟨ad263, e263, hx263_0⟩ := Kd.at_int (Kd.R_reads' HO_255003.out).2.2 x9_1 p263 q263
                cases e263
                replace p263 := eq_true p263
                replace q263 := eq_true q263
                have p25 : 0 ≤ ((ji22) : Int) := of_decide_eq_true q145_
                have q25 : ((ji22) : Int) < ((x263003_1.length : Int) : Int) := of_decide_eq_true q145_
                obtain ⟨go25, co25, eo25, gb25, gl25, cl25, HG25⟩ := Kd.R_form HO_263003.out (by omega)
                (first | cases eo25 | (injection eo25 with ea_ en_ ec_; (first | subst ea_ | (injection ea_ with ea_; subst ea_)); subst ec_; clear en_))
                have GB25 := Aside0.mk gb25
                have GG25 := Aside0.mk HG25
                clear gb25 gl25 HG25
                obtain ⟨hx25_0, hf25_0⟩ := Kd.R_celln 0 HO_263003.out ((ji22) : Int) p25 q25
                replace p25 := eq_true p25
                replace q25 := eq_true q25
                have HN246_go25 := Aside0.mk (show g246 ≠ go25 from by have h_ := IsS54.own_ne HI246.out HO_263003.out (by decide); intro e_; exact h_ (by rw [e_]; rfl))
                have HP31 := Kd.R_putn HO_263003.out ((ji22) : Int) (rd x255003_1 x9_1)
                rw [← Ny264.out] at HP31
                have HQ31 := Aside0.mk HP31
                clear HP31
                refine start_ (n := 26) (S := fun w' => w'.cell? ⟨gb262, 0, none⟩ = some (.int .i64 t256) ∧ w'.cell? ⟨gb262, 1, none⟩ = some (.int .i64 t257) ∧ w'.cell? ⟨gb262, 2, none⟩ = some (.int .i64 t258) ∧ w'.cell? ⟨gb262, 3, none⟩ = some (.slice (some ⟨go25, 0, none⟩) x263003_1.length co25) ∧ w'.cell? ⟨gb254, 0, none⟩ = some (.int .i64 t247) ∧ w'.cell? ⟨gb254, 1, none⟩ = some (.int .i64 t248) ∧ w'.cell? ⟨gb254, 2, none⟩ = some (.int .i64 t249) ∧ w'.cell? ⟨gb254, 3, none⟩ = some (.slice (some ad263) x255003_1.length co29) ∧ w'.cell? (ad263.add (x9_1).toNat) = some (.int .i64 (rd x255003_1 x9_1))) (ds := [25]) #[false, false, false, false, false, false, false, false, false, false, false, false, false, false, false, false, false, false, false, false, false, false, false, false, false, false] (by kernel_rfl) rfl rfl ⟨(blk_cell BK262.out 0).trans rfl, (blk_cell BK262.out 1).trans rfl, (blk_cell BK262.out 2).trans rfl, (blk_cell BK262.out 3).trans rfl, (blk_cell BK254.out 0).trans rfl, (blk_cell BK254.out 1).trans rfl, (blk_cell BK254.out 2).trans rfl, (blk_cell BK254.out 3).trans rfl, hx263_0⟩ (fun hHeld => ?_); refine with_tabW tilefarmlaw9_ConvolveMoves.tab8 tilefarmlaw9_ConvolveMoves.bits8 (fun HT_ HW_ => ?_)
                generalize wr.drew = w30 at HO_255003 HO_263003 BK254 BK262 HI246 HB GG25 HQ31 hf25_0 hx25_0 hx263_0 hHeld ⊢
                refine pure_ (i := 0) (N := some 35) (v := ?_) (a' := ?_) #[true, false, false, false, false, false, false, false, false, false, false, false, false, false, false, false, false, false, false, false, false, false, false, false, false, false] rfl rfl (any_of HT_.out (by kernel_rfl)) (fun _ _ _ h => h) (Or.inl ⟨by rfl, ?_⟩) ?_ ?_
                rotate_left
                · intro w'
                  go_simp
                  with_reducible rfl
                rotate_left
                · simp only [Act.put, List.setIfInBounds_toArray, List.set_cons_zero, List.set_cons_succ, i64_w, i32_w]
                  rfl
                refine pure_ (i := 2) (N := some 37) (v := ?_) (a' := ?_) #[true, false, true, false, false, false, false, false, false, false, false, false, false, false, false, false, false, false, false, false, false, false, false, false, false, false] rfl rfl (any_of HT_.out (by kernel_rfl)) (fun _ _ _ h => h) (Or.inl ⟨by rfl, ?_⟩) ?_ ?_
                rotate_left
                · intro w'
                  go_simp
                  with_reducible rfl
                rotate_left
                · simp only [Act.put, List.setIfInBounds_toArray, List.set_cons_zero, List.set_cons_succ, i64_w, i32_w]
                  rfl
                refine pure_ (i := 3) (N := some 38) (v := ?_) (a' := ?_) #[true, false, true, true, false, false, false, false, false, false, false, false, false, false, false, false, false, false, false, false, false, false, false, false, false, false] rfl rfl (any_of HT_.out (by kernel_rfl)) (fun _ _ _ h => h) (Or.inl ⟨by rfl, ?_⟩) ?_ ?_
                rotate_left
                · intro w'
                  go_simp
                  with_reducible rfl
                rotate_left
                · simp only [Act.put, List.setIfInBounds_toArray, List.set_cons_zero, List.set_cons_succ, i64_w, i32_w]
                  rfl
                refine pure_ (i := 6) (N := some 41) (v := ?_) (a' := ?_) #[true, false, true, true, false, false, true, false, false, false, false, false, false, false, false, false, false, false, false, false, false, false, false, false, false, false] rfl rfl (any_of HT_.out (by kernel_rfl)) (fun _ _ _ h => h) (Or.inl ⟨by rfl, ?_⟩) ?_ ?_
                rotate_left
                · intro w'
                  go_simp
                  with_reducible rfl
                rotate_left
                · simp only [Act.put, List.setIfInBounds_toArray, List.set_cons_zero, List.set_cons_succ, i64_w, i32_w]
                  rfl
                refine pure_ (i := 9) (N := some 44) (v := ?_) (a' := ?_) #[true, false, true, true, false, false, true, false, false, true, false, false, false, false, false, false, false, false, false, false, false, false, false, false, false, false] rfl rfl (any_of HT_.out (by kernel_rfl)) (fun _ _ _ h => h) (Or.inl ⟨by rfl, ?_⟩) ?_ ?_
                rotate_left
                · intro w'
                  go_simp
                  with_reducible rfl
                rotate_left
                · simp only [Act.put, List.setIfInBounds_toArray, List.set_cons_zero, List.set_cons_succ, i64_w, i32_w]
                  rfl
                refine pure_ (i := 10) (N := some 45) (v := ?_) (a' := ?_) #[true, false, true, true, false, false, true, false, false, true, true, false, false, false, false, false, false, false, false, false, false, false, false, false, false, false] rfl rfl (any_of HT_.out (by kernel_rfl)) (fun _ _ _ h => h) (Or.inl ⟨by rfl, ?_⟩) ?_ ?_
                rotate_left
                · intro w'
                  go_simp
                  with_reducible rfl
                rotate_left
                · simp only [Act.put, List.setIfInBounds_toArray, List.set_cons_zero, List.set_cons_succ, i64_w, i32_w]
                  rfl
                refine pure_ (i := 13) (N := some 48) (v := ?_) (a' := ?_) #[true, false, true, true, false, false, true, false, false, true, true, false, false, true, false, false, false, false, false, false, false, false, false, false, false, false] rfl rfl (any_of HT_.out (by kernel_rfl)) (fun _ _ _ h => h) (Or.inl ⟨by rfl, ?_⟩) ?_ ?_
                rotate_left
                · intro w'
                  go_simp
                  with_reducible rfl
                rotate_left
                · simp only [Act.put, List.setIfInBounds_toArray, List.set_cons_zero, List.set_cons_succ, i64_w, i32_w]
                  rfl
                refine pure_ (i := 15) (N := some 50) (v := ?_) (a' := ?_) #[true, false, true, true, false, false, true, false, false, true, true, false, false, true, false, true, false, false, false, false, false, false, false, false, false, false] rfl rfl (any_of HT_.out (by kernel_rfl)) (fun _ _ _ h => h) (Or.inl ⟨by rfl, ?_⟩) ?_ ?_
                rotate_left
                · intro w'
                  go_simp
                  with_reducible rfl
                rotate_left
                · simp only [Act.put, List.setIfInBounds_toArray, List.set_cons_zero, List.set_cons_succ, i64_w, i32_w]
                  rfl
                refine pure_ (i := 19) (N := some 54) (v := ?_) (a' := ?_) #[true, false, true, true, false, false, true, false, false, true, true, false, false, true, false, true, false, false, false, true, false, false, false, false, false, false] rfl rfl (any_of HT_.out (by kernel_rfl)) (fun _ _ _ h => h) (Or.inl ⟨by rfl, ?_⟩) ?_ ?_
                rotate_left
                · intro w'
                  go_simp
                  with_reducible rfl
                rotate_left
                · simp only [Act.put, List.setIfInBounds_toArray, List.set_cons_zero, List.set_cons_succ, i64_w, i32_w]
                  rfl
                refine pure_ (i := 21) (N := some 56) (v := ?_) (a' := ?_) #[true, false, true, true, false, false, true, false, false, true, true, false, false, true, false, true, false, false, false, true, false, true, false, false, false, false] rfl rfl (any_of HT_.out (by kernel_rfl)) (fun _ _ _ h => h) (Or.inl ⟨by rfl, ?_⟩) ?_ ?_
                rotate_left
                · intro w'
                  go_simp
                  with_reducible rfl
                rotate_left
                · simp only [Act.put, List.setIfInBounds_toArray, List.set_cons_zero, List.set_cons_succ, i64_w, i32_w]
                  rfl
                refine take_ (i := 1) (N := some 36) (v := ?_) (a' := ?_) #[true, true, true, true, false, false, true, false, false, true, true, false, false, true, false, true, false, false, false, true, false, true, false, false, false, false] rfl rfl (take_ofW HT_.out HW_.out (by kernel_rfl)) (fun _ _ _ h => h) (Or.inl ⟨by rfl, ?_⟩) hHeld ?_ ?_
                rotate_left
                · rintro w' ⟨s0, s1, s2, s3, s4, s5, s6, s7, s8⟩
                  go_simp
                  with_reducible rfl
                rotate_left
                · simp only [Act.put, List.setIfInBounds_toArray, List.set_cons_zero, List.set_cons_succ, i64_w, i32_w]
                  rfl
                refine take_ (i := 4) (N := some 39) (v := ?_) (a' := ?_) #[true, true, true, true, true, false, true, false, false, true, true, false, false, true, false, true, false, false, false, true, false, true, false, false, false, false] rfl rfl (take_ofW HT_.out HW_.out (by kernel_rfl)) (fun _ _ _ h => h) (Or.inl ⟨by rfl, ?_⟩) hHeld ?_ ?_
                rotate_left
                · rintro w' ⟨s0, s1, s2, s3, s4, s5, s6, s7, s8⟩
                  go_simp
                  with_reducible rfl
                rotate_left
                · simp only [Act.put, List.setIfInBounds_toArray, List.set_cons_zero, List.set_cons_succ, i64_w, i32_w]
                  rfl
                refine pure_ (i := 5) (N := some 40) (v := ?_) (a' := ?_) #[true, true, true, true, true, true, true, false, false, true, true, false, false, true, false, true, false, false, false, true, false, true, false, false, false, false] rfl rfl (any_of HT_.out (by kernel_rfl)) (fun _ _ _ h => h) (Or.inl ⟨by rfl, ?_⟩) ?_ ?_
                rotate_left
                · intro w'
                  go_simp
                  with_reducible rfl
                rotate_left
                · simp only [Act.put, List.setIfInBounds_toArray, List.set_cons_zero, List.set_cons_succ, i64_w, i32_w]
                  rfl
                refine take_ (i := 7) (N := some 42) (v := ?_) (a' := ?_) #[true, true, true, true, true, true, true, true, false, true, true, false, false, true, false, true, false, false, false, true, false, true, false, false, false, false] rfl rfl (take_ofW HT_.out HW_.out (by kernel_rfl)) (fun _ _ _ h => h) (Or.inl ⟨by rfl, ?_⟩) hHeld ?_ ?_
                rotate_left
                · rintro w' ⟨s0, s1, s2, s3, s4, s5, s6, s7, s8⟩
                  go_simp
                  with_reducible rfl
                rotate_left
                · simp only [Act.put, List.setIfInBounds_toArray, List.set_cons_zero, List.set_cons_succ, i64_w, i32_w]
                  rfl
                refine pure_ (i := 8) (N := some 43) (v := ?_) (a' := ?_) #[true, true, true, true, true, true, true, true, true, true, true, false, false, true, false, true, false, false, false, true, false, true, false, false, false, false] rfl rfl (any_of HT_.out (by kernel_rfl)) (fun _ _ _ h => h) (Or.inl ⟨by rfl, ?_⟩) ?_ ?_
                rotate_left
                · intro w'
                  go_simp
                  with_reducible rfl
                rotate_left
                · simp only [Act.put, List.setIfInBounds_toArray, List.set_cons_zero, List.set_cons_succ, i64_w, i32_w]
                  rfl
                refine take_ (i := 11) (N := some 46) (v := ?_) (a' := ?_) #[true, true, true, true, true, true, true, true, true, true, true, true, false, true, false, true, false, false, false, true, false, true, false, false, false, false] rfl rfl (take_ofW HT_.out HW_.out (by kernel_rfl)) (fun _ _ _ h => h) (Or.inl ⟨by rfl, ?_⟩) hHeld ?_ ?_
                rotate_left
                · rintro w' ⟨s0, s1, s2, s3, s4, s5, s6, s7, s8⟩
                  go_simp
                  with_reducible rfl
                rotate_left
                · simp only [Act.put, List.setIfInBounds_toArray, List.set_cons_zero, List.set_cons_succ, i64_w, i32_w]
                  rfl
                refine pure_ (i := 12) (N := some 47) (v := ?_) (a' := ?_) #[true, true, true, true, true, true, true, true, true, true, true, true, true, true, false, true, false, false, false, true, false, true, false, false, false, false] rfl rfl (any_of HT_.out (by kernel_rfl)) (fun _ _ _ h => h) (Or.inl ⟨by rfl, ?_⟩) ?_ ?_
                rotate_left
                · intro w'
                  go_simp
                  with_reducible rfl
                rotate_left
                · simp only [Act.put, List.setIfInBounds_toArray, List.set_cons_zero, List.set_cons_succ, i64_w, i32_w]
                  rfl
                refine pure_ (i := 14) (N := some 49) (v := ?_) (a' := ?_) #[true, true, true, true, true, true, true, true, true, true, true, true, true, true, true, true, false, false, false, true, false, true, false, false, false, false] rfl rfl (any_of HT_.out (by kernel_rfl)) (fun _ _ _ h => h) (Or.inl ⟨by rfl, ?_⟩) ?_ ?_
                rotate_left
                · intro w'
                  go_simp
                  with_reducible rfl
                rotate_left
                · simp only [Act.put, List.setIfInBounds_toArray, List.set_cons_zero, List.set_cons_succ, i64_w, i32_w]
                  rfl
                refine take_ (i := 16) (N := some 51) (v := ?_) (a' := ?_) #[true, true, true, true, true, true, true, true, true, true, true, true, true, true, true, true, true, false, false, true, false, true, false, false, false, false] rfl rfl (take_ofW HT_.out HW_.out (by kernel_rfl)) (fun _ _ _ h => h) (Or.inl ⟨by rfl, ?_⟩) hHeld ?_ ?_
                rotate_left
                · rintro w' ⟨s0, s1, s2, s3, s4, s5, s6, s7, s8⟩
                  go_simp
                  with_reducible rfl
                rotate_left
                · simp only [Act.put, List.setIfInBounds_toArray, List.set_cons_zero, List.set_cons_succ, i64_w, i32_w]
                  rfl
                refine pure_ (i := 17) (N := some 52) (v := ?_) (a' := ?_) #[true, true, true, true, true, true, true, true, true, true, true, true, true, true, true, true, true, true, false, true, false, true, false, false, false, false] rfl rfl (any_of HT_.out (by kernel_rfl)) (fun _ _ _ h => h) (Or.inl ⟨by rfl, ?_⟩) ?_ ?_
                rotate_left
                · intro w'
                  go_simp
                  with_reducible rfl
                rotate_left
                · simp only [Act.put, List.setIfInBounds_toArray, List.set_cons_zero, List.set_cons_succ, i64_w, i32_w]
                  rfl
                refine pure_ (i := 18) (N := some 53) (v := ?_) (a' := ?_) #[true, true, true, true, true, true, true, true, true, true, true, true, true, true, true, true, true, true, true, true, false, true, false, false, false, false] rfl rfl (any_of HT_.out (by kernel_rfl)) (fun _ _ _ h => h) (Or.inl ⟨by rfl, ?_⟩) ?_ ?_
                rotate_left
                · intro w'
                  go_simp
                  with_reducible rfl
                rotate_left
                · simp only [Act.put, List.setIfInBounds_toArray, List.set_cons_zero, List.set_cons_succ, i64_w, i32_w]
                  rfl
                refine take_ (i := 20) (N := some 55) (v := ?_) (a' := ?_) #[true, true, true, true, true, true, true, true, true, true, true, true, true, true, true, true, true, true, true, true, true, true, false, false, false, false] rfl rfl (take_ofW HT_.out HW_.out (by kernel_rfl)) (fun _ _ _ h => h) (Or.inl ⟨by rfl, ?_⟩) hHeld ?_ ?_
                rotate_left
                · rintro w' ⟨s0, s1, s2, s3, s4, s5, s6, s7, s8⟩
                  go_simp
                  with_reducible rfl
                rotate_left
                · simp only [Act.put, List.setIfInBounds_toArray, List.set_cons_zero, List.set_cons_succ, i64_w, i32_w]
                  rfl
                refine pure_ (i := 22) (N := some 57) (v := ?_) (a' := ?_) #[true, true, true, true, true, true, true, true, true, true, true, true, true, true, true, true, true, true, true, true, true, true, true, false, false, false] rfl rfl (any_of HT_.out (by kernel_rfl)) (fun _ _ _ h => h) (Or.inl ⟨by rfl, ?_⟩) ?_ ?_
                rotate_left
                · intro w'
                  go_simp
                  with_reducible rfl
                rotate_left
                · simp only [Act.put, List.setIfInBounds_toArray, List.set_cons_zero, List.set_cons_succ, i64_w, i32_w]
                  rfl
                refine take_ (i := 23) (N := some 58) (v := ?_) (a' := ?_) #[true, true, true, true, true, true, true, true, true, true, true, true, true, true, true, true, true, true, true, true, true, true, true, true, false, false] rfl rfl (take_ofW HT_.out HW_.out (by kernel_rfl)) (fun _ _ _ h => h) (Or.inl ⟨by rfl, ?_⟩) hHeld ?_ ?_
                rotate_left
                · rintro w' ⟨s0, s1, s2, s3, s4, s5, s6, s7, s8⟩
                  go_simp
                  with_reducible rfl
                rotate_left
                · simp only [Act.put, List.setIfInBounds_toArray, List.set_cons_zero, List.set_cons_succ, i64_w, i32_w]
                  rfl
                refine pure_ (i := 24) (N := some 59) (v := ?_) (a' := ?_) #[true, true, true, true, true, true, true, true, true, true, true, true, true, true, true, true, true, true, true, true, true, true, true, true, true, false] rfl rfl (any_of HT_.out (by kernel_rfl)) (fun _ _ _ h => h) (Or.inl ⟨by rfl, ?_⟩) ?_ ?_
                rotate_left
                · intro w'
                  go_simp
                  with_reducible rfl
                rotate_left
                · simp only [Act.put, List.setIfInBounds_toArray, List.set_cons_zero, List.set_cons_succ, i64_w, i32_w]
                  rfl
                refine last_ (i := 25) (N := none) #[true, true, true, true, true, true, true, true, true, true, true, true, true, true, true, true, true, true, true, true, true, true, true, true, true, true] rfl rfl (one_of HT_.out (by kernel_rfl)) (by decide) (fun K hK => ?_)
                refine skip_ (w1 := ?_) (by rfl) rfl ?_ ?_
                rotate_left
                · go_simp
                  rfl
                refine hK.out _ _ ?_
                clear hK K
                refine done_ (done_of HT_.out (by kernel_rfl)) ?_
                try go_wp2
                go_roundg k1
                case measure => have := HK1.out; omega
                case rel => exact ⟨(wrap64 (x9_1 + 1)), (x255003_1), (y264), (.slice (some ad263) x255003_1.length co29), (.slice (some ⟨go25, 0, none⟩) x263003_1.length co25), q146_, q144_, ⟨by have := HK1.out; omega⟩, ⟨by (with_reducible repeat (first | apply Kd.R_alloc | apply Kd.R_drewN | apply Kd.R_drew)); exact Kd.R_mono (Kd.R_far (p := ⟨go25, ((ji22) : Int).toNat, none⟩) (Kd.R_mono HO_255003.out (fun k_ hk => (⟨hk, fun e_ => hk (by rw [e_]; rfl)⟩ : _ ∧ k_ ≠ go25))) (fun _ hk => hk.2) (.int .i64 (rd x255003_1 x9_1))) (fun _ hk => hk.1)⟩, ⟨by (with_reducible repeat (first | apply Kd.R_alloc | apply Kd.R_drewN | apply Kd.R_drew)); exact HQ31.out⟩, ⟨by (with_reducible repeat (first | refine blk_drewN ?_ _ | refine blk_drew ?_ | refine blk_alloc ?_ _)); refine blk_far ?_ (by have h_ := Kd.R_ne HO_263003.out BK254.out (by decide); intro e_; exact h_ (by rw [e_]; rfl)) _; (with_reducible repeat (first | refine blk_drewN ?_ _ | refine blk_drew ?_ | refine blk_alloc ?_ _)); exact BK254.out⟩, ⟨by (with_reducible repeat (first | refine blk_drewN ?_ _ | refine blk_drew ?_ | refine blk_alloc ?_ _)); refine blk_far ?_ (by have h_ := Kd.R_ne HO_263003.out BK262.out (by decide); intro e_; exact h_ (by rw [e_]; rfl)) _; (with_reducible repeat (first | refine blk_drewN ?_ _ | refine blk_drew ?_ | refine blk_alloc ?_ _)); exact BK262.out⟩, ⟨by repeat (first | (with_reducible first | exact HI246.out | apply IsS54.alloc | apply IsS54.drewN | apply IsS54.drew | apply IsS54.set_1 | refine IsS54.far ?_ HN246_go25.out _ | refine IsS54.far ?_ NB246_254.out _ | refine IsS54.far ?_ NB246_262.out _) | exact HI246.out)⟩, ⟨by repeat (first | (with_reducible first | exact HB.out | apply below_alloc | apply pw_below_drewN | apply below_drew1 | refine below_set ?_ GB25.out | refine below_set ?_ (IsS54.ge HI246.out) | refine below_set ?_ GE254.out | refine below_set ?_ GE262.out) | exact HB.out)⟩⟩
              · rw [if_neg c24] at H
                exact absurd H (by simp)
            · rw [if_neg c23] at H
              exact absurd H (by simp)
          · rw [if_neg c21] at H
            exact absurd H (by simp)
      · rw [if_neg c19] at H
        have c19b0 : decide (x9_1 < (x255003_1.length : Int)) = false := decide_eq_false c19
        clear c19
        replace H := Option.bind_eq_some_iff.mp H
        obtain ⟨⟨t265, t268⟩, A320, H⟩ := H
        replace H : ((tilefarmgen_Tape_Next.f t244 t268 4).bind fun bt269 => ((convolve_Tile.f k1 t247 t248 t249 x255003_1 2 0 3 3 t265 bt269.1 255 0 0 t247 t248).bind fun bt272 => ((convolve_Tile.f k1 t256 t257 t258 x263003_1 2 0 3 3 t265 bt269.1 255 0 0 t247 t248).bind fun bt280 => (if bt272.2.2.2.2 = 0 then (if bt280.2.2.2.2 = 0 then (if (bt272.2.2.2.1.length : Int) = (x255003_1.length : Int) then (tilefarmlaw9_ConvolveMoves.j1 k1 t255 ((bt280.2.2.2.1.length : Int) != (x255003_1.length : Int)) t247 t248 t249 x255003_1 bt272.1 bt272.2.1 bt272.2.2.1 bt272.2.2.2.1 bt280.1 bt280.2.1 bt280.2.2.1 bt280.2.2.2.1) else (tilefarmlaw9_ConvolveMoves.j1 k1 t255 true t247 t248 t249 x255003_1 bt272.1 bt272.2.1 bt272.2.2.1 bt272.2.2.2.1 bt280.1 bt280.2.1 bt280.2.2.1 bt280.2.2.2.1)) else (tilefarmlaw9_ConvolveMoves.j1 k1 t255 true t247 t248 t249 x255003_1 bt272.1 bt272.2.1 bt272.2.2.1 bt272.2.2.2.1 bt280.1 bt280.2.1 bt280.2.2.1 bt280.2.2.2.1)) else (tilefarmlaw9_ConvolveMoves.j1 k1 t255 true t247 t248 t249 x255003_1 bt272.1 bt272.2.1 bt272.2.2.1 bt272.2.2.2.1 bt280.1 bt280.2.1 bt280.2.2.1 bt280.2.2.2.1))))) = some r := H
        have A32 := Aside0.mk A320
        clear A320
        replace H := Option.bind_eq_some_iff.mp H
        obtain ⟨⟨t269, t270⟩, A330, H⟩ := H
        replace H : ((convolve_Tile.f k1 t247 t248 t249 x255003_1 2 0 3 3 t265 t269 255 0 0 t247 t248).bind fun bt272 => ((convolve_Tile.f k1 t256 t257 t258 x263003_1 2 0 3 3 t265 t269 255 0 0 t247 t248).bind fun bt280 => (if bt272.2.2.2.2 = 0 then (if bt280.2.2.2.2 = 0 then (if (bt272.2.2.2.1.length : Int) = (x255003_1.length : Int) then (tilefarmlaw9_ConvolveMoves.j1 k1 t255 ((bt280.2.2.2.1.length : Int) != (x255003_1.length : Int)) t247 t248 t249 x255003_1 bt272.1 bt272.2.1 bt272.2.2.1 bt272.2.2.2.1 bt280.1 bt280.2.1 bt280.2.2.1 bt280.2.2.2.1) else (tilefarmlaw9_ConvolveMoves.j1 k1 t255 true t247 t248 t249 x255003_1 bt272.1 bt272.2.1 bt272.2.2.1 bt272.2.2.2.1 bt280.1 bt280.2.1 bt280.2.2.1 bt280.2.2.2.1)) else (tilefarmlaw9_ConvolveMoves.j1 k1 t255 true t247 t248 t249 x255003_1 bt272.1 bt272.2.1 bt272.2.2.1 bt272.2.2.2.1 bt280.1 bt280.2.1 bt280.2.2.1 bt280.2.2.2.1)) else (tilefarmlaw9_ConvolveMoves.j1 k1 t255 true t247 t248 t249 x255003_1 bt272.1 bt272.2.1 bt272.2.2.1 bt272.2.2.2.1 bt280.1 bt280.2.1 bt280.2.2.1 bt280.2.2.2.1)))) = some r := H
        have A33 := Aside0.mk A330
        clear A330
        replace H := Option.bind_eq_some_iff.mp H
        obtain ⟨⟨t272, t273, t274, t275, t278⟩, A340, H⟩ := H
        replace H : ((convolve_Tile.f k1 t256 t257 t258 x263003_1 2 0 3 3 t265 t269 255 0 0 t247 t248).bind fun bt280 => (if t278 = 0 then (if bt280.2.2.2.2 = 0 then (if (t275.length : Int) = (x255003_1.length : Int) then (tilefarmlaw9_ConvolveMoves.j1 k1 t255 ((bt280.2.2.2.1.length : Int) != (x255003_1.length : Int)) t247 t248 t249 x255003_1 t272 t273 t274 t275 bt280.1 bt280.2.1 bt280.2.2.1 bt280.2.2.2.1) else (tilefarmlaw9_ConvolveMoves.j1 k1 t255 true t247 t248 t249 x255003_1 t272 t273 t274 t275 bt280.1 bt280.2.1 bt280.2.2.1 bt280.2.2.2.1)) else (tilefarmlaw9_ConvolveMoves.j1 k1 t255 true t247 t248 t249 x255003_1 t272 t273 t274 t275 bt280.1 bt280.2.1 bt280.2.2.1 bt280.2.2.2.1)) else (tilefarmlaw9_ConvolveMoves.j1 k1 t255 true t247 t248 t249 x255003_1 t272 t273 t274 t275 bt280.1 bt280.2.1 bt280.2.2.1 bt280.2.2.2.1))) = some r := H
        have A34 := Aside0.mk A340
        clear A340
        replace H := Option.bind_eq_some_iff.mp H
        obtain ⟨⟨t280, t281, t282, t283, t286⟩, A350, H⟩ := H
        replace H : (if t278 = 0 then (if t286 = 0 then (if (t275.length : Int) = (x255003_1.length : Int) then (tilefarmlaw9_ConvolveMoves.j1 k1 t255 ((t283.length : Int) != (x255003_1.length : Int)) t247 t248 t249 x255003_1 t272 t273 t274 t275 t280 t281 t282 t283) else (tilefarmlaw9_ConvolveMoves.j1 k1 t255 true t247 t248 t249 x255003_1 t272 t273 t274 t275 t280 t281 t282 t283)) else (tilefarmlaw9_ConvolveMoves.j1 k1 t255 true t247 t248 t249 x255003_1 t272 t273 t274 t275 t280 t281 t282 t283)) else (tilefarmlaw9_ConvolveMoves.j1 k1 t255 true t247 t248 t249 x255003_1 t272 t273 t274 t275 t280 t281 t282 t283)) = some r := H
        have A35 := Aside0.mk A350
        clear A350
        have HC36 := Aside0.mk H
        clear H
        have hnb37 := NB254_262.out
        have hnc37 := NB262_254.out
        have hnb38 := NB254_246.out
        have hnc38 := NB246_254.out
        have hcz39_0 : wr.cell? ⟨gb254, 0, none⟩ = some (.int .i64 t247) := (blk_cell BK254.out 0).trans rfl
        have hcz39_1 : wr.cell? ⟨gb254, 1, none⟩ = some (.int .i64 t248) := (blk_cell BK254.out 1).trans rfl
        have hcz39_2 : wr.cell? ⟨gb254, 2, none⟩ = some (.int .i64 t249) := (blk_cell BK254.out 2).trans rfl
        have hcz39_3 : wr.cell? ⟨gb254, 3, none⟩ = some (u255003) := (blk_cell BK254.out 3).trans rfl
        have hfz39_0 := blk_frozen BK254.out 0
        have hfz39_1 := blk_frozen BK254.out 1
        have hfz39_2 := blk_frozen BK254.out 2
        have hfz39_3 := blk_frozen BK254.out 3
        obtain ⟨Ao40, co40, eo40⟩ := Kd.R_slice HO_255003.out
        subst eo40
        try go_wp2
        have n0_ := Aside0.mk (Kd.R_drew HO_255003.out)
        have n1_ := Aside0.mk (Kd.R_drew HO_263003.out)
        have n2_ := Aside0.mk (blk_drew BK254.out)
        have n3_ := Aside0.mk (blk_drew BK262.out)
        have n4_ := Aside0.mk (IsS54.drew HI246.out)
        have n5_ := Aside0.mk (below_drew1 HB.out)
        clear HO_255003
        clear HO_263003
        clear BK254
        clear BK262
        clear HI246
        clear HB
        have HO_255003 := n0_
        have HO_263003 := n1_
        have BK254 := n2_
        have BK262 := n3_
        have HI246 := n4_
        have HB := n5_
        clear n0_ n1_ n2_ n3_ n4_ n5_
        refine start_ (n := 13) (S := fun w' => w'.cell? ⟨gb254, 0, none⟩ = some (.int .i64 t247) ∧ w'.cell? ⟨gb254, 1, none⟩ = some (.int .i64 t248) ∧ w'.cell? ⟨gb254, 2, none⟩ = some (.int .i64 t249) ∧ w'.cell? ⟨gb254, 3, none⟩ = some (.slice Ao40 x255003_1.length co40)) (ds := []) #[false, false, false, false, false, false, false, false, false, false, false, false, false] (by kernel_rfl) rfl rfl ⟨(blk_cell BK254.out 0).trans rfl, (blk_cell BK254.out 1).trans rfl, (blk_cell BK254.out 2).trans rfl, (blk_cell BK254.out 3).trans rfl⟩ (fun hHeld => ?_); refine with_tabW tilefarmlaw9_ConvolveMoves.tab9 tilefarmlaw9_ConvolveMoves.bits9 (fun HT_ HW_ => ?_)
        generalize wr.drew = w41 at HO_255003 HO_263003 BK254 BK262 HI246 HB hHeld ⊢
        refine pure_ (i := 0) (N := some 60) (v := ?_) (a' := ?_) #[true, false, false, false, false, false, false, false, false, false, false, false, false] rfl rfl (any_of HT_.out (by kernel_rfl)) (fun _ _ _ h => h) (Or.inl ⟨by rfl, ?_⟩) ?_ ?_
        rotate_left
        · intro w'
          go_simp
          with_reducible rfl
        rotate_left
        · simp only [Act.put, List.setIfInBounds_toArray, List.set_cons_zero, List.set_cons_succ, i64_w, i32_w]
          rfl
        refine pure_ (i := 2) (N := some 62) (v := ?_) (a' := ?_) #[true, false, true, false, false, false, false, false, false, false, false, false, false] rfl rfl (any_of HT_.out (by kernel_rfl)) (fun _ _ _ h => h) (Or.inl ⟨by rfl, ?_⟩) ?_ ?_
        rotate_left
        · intro w'
          go_simp
          with_reducible rfl
        rotate_left
        · simp only [Act.put, List.setIfInBounds_toArray, List.set_cons_zero, List.set_cons_succ, i64_w, i32_w]
          rfl
        refine pure_ (i := 4) (N := some 64) (v := ?_) (a' := ?_) #[true, false, true, false, true, false, false, false, false, false, false, false, false] rfl rfl (any_of HT_.out (by kernel_rfl)) (fun _ _ _ h => h) (Or.inl ⟨by rfl, ?_⟩) ?_ ?_
        rotate_left
        · intro w'
          go_simp
          with_reducible rfl
        rotate_left
        · simp only [Act.put, List.setIfInBounds_toArray, List.set_cons_zero, List.set_cons_succ, i64_w, i32_w]
          rfl
        refine pure_ (i := 6) (N := some 66) (v := ?_) (a' := ?_) #[true, false, true, false, true, false, true, false, false, false, false, false, false] rfl rfl (any_of HT_.out (by kernel_rfl)) (fun _ _ _ h => h) (Or.inl ⟨by rfl, ?_⟩) ?_ ?_
        rotate_left
        · intro w'
          go_simp
          with_reducible rfl
        rotate_left
        · simp only [Act.put, List.setIfInBounds_toArray, List.set_cons_zero, List.set_cons_succ, i64_w, i32_w]
          rfl
        refine take_ (i := 5) (N := some 65) (v := ?_) (a' := ?_) #[true, false, true, false, true, true, true, false, false, false, false, false, false] rfl rfl (take_ofW HT_.out HW_.out (by kernel_rfl)) (fun _ _ _ h => h) (Or.inl ⟨by rfl, ?_⟩) hHeld ?_ ?_
        rotate_left
        · rintro w' ⟨s0, s1, s2, s3⟩
          go_simp
          with_reducible rfl
        rotate_left
        · simp only [Act.put, List.setIfInBounds_toArray, List.set_cons_zero, List.set_cons_succ, i64_w, i32_w]
          rfl
        refine take_ (i := 7) (N := some 67) (v := ?_) (a' := ?_) #[true, false, true, false, true, true, true, true, false, false, false, false, false] rfl rfl (take_ofW HT_.out HW_.out (by kernel_rfl)) (fun _ _ _ h => h) (Or.inl ⟨by rfl, ?_⟩) hHeld ?_ ?_
        rotate_left
        · rintro w' ⟨s0, s1, s2, s3⟩
          go_simp
          with_reducible rfl
        rotate_left
        · simp only [Act.put, List.setIfInBounds_toArray, List.set_cons_zero, List.set_cons_succ, i64_w, i32_w]
          rfl
        refine pure_ (i := 8) (N := some 68) (v := ?_) (a' := ?_) #[true, false, true, false, true, true, true, true, true, false, false, false, false] rfl rfl (any_of HT_.out (by kernel_rfl)) (fun _ _ _ h => h) (Or.inl ⟨by rfl, ?_⟩) ?_ ?_
        rotate_left
        · intro w'
          go_simp
          with_reducible rfl
        rotate_left
        · simp only [Act.put, List.setIfInBounds_toArray, List.set_cons_zero, List.set_cons_succ, i64_w, i32_w]
          rfl
        refine join_ (σ := Value × Nat) 3 #[true, true, true, true, true, true, true, true, true, true, false, false, false] (fun s_ => [(61, s_.1), (63, .int .i64 t269), (12, .pointer (some ⟨s_.2, 0, none⟩))]) (fun s_ w' => (w'.cell? ⟨gb254, 0, none⟩ = some (.int .i64 t247) ∧ w'.cell? ⟨gb254, 1, none⟩ = some (.int .i64 t248) ∧ w'.cell? ⟨gb254, 2, none⟩ = some (.int .i64 t249) ∧ w'.cell? ⟨gb254, 3, none⟩ = some (.slice Ao40 x255003_1.length co40)) ∧ (Kd.R (Kd.int .i64) 3 w' w.heap.size (fun k_ => some k_ ≠ (.slice Ao40 x255003_1.length co40 : Value).ownBlock ∧ some k_ ≠ (u263003 : Value).ownBlock) s_.1 t265) ∧ (Kd.R (Kd.int .i64) 3 w' w.heap.size (fun k_ => some k_ ≠ (s_.1 : Value).ownBlock ∧ some k_ ≠ (u263003 : Value).ownBlock) (.slice Ao40 x255003_1.length co40) x255003_1) ∧ (Kd.R (Kd.int .i64) 3 w' w.heap.size (fun k_ => some k_ ≠ (s_.1 : Value).ownBlock ∧ some k_ ≠ (.slice Ao40 x255003_1.length co40 : Value).ownBlock) u263003 x263003_1) ∧ (w'.heap[gb254]? = some (.cells #[.int .i64 t247, .int .i64 t248, .int .i64 t249, .slice Ao40 x255003_1.length co40] 35 (0, 0))) ∧ (w'.heap[gb262]? = some (.cells #[.int .i64 t256, .int .i64 t257, .int .i64 t258, u263003] 35 (0, 0))) ∧ (w'.heap[s_.2]? = some (.cells #[.int .i64 0, .int .i64 0, .int .i64 0, .int .i64 0] 33 (0, 0))) ∧ (w.heap.size ≤ s_.2) ∧ (w.heap.size ≤ s_.2) ∧ (g246 ≠ s_.2) ∧ (s_.2 ≠ g246) ∧ (gb254 ≠ s_.2) ∧ (s_.2 ≠ gb254) ∧ (gb262 ≠ s_.2) ∧ (s_.2 ≠ gb262) ∧ (IsS54 w w' g246 t244 t270) ∧ (Below w.heap.size w w')) ?_ ?_
        rotate_left
        · intro hCont
          refine two_ (i := 1) (j := 9) (Ni := some 61) (Nj := some 12) #[true, true, true, false, true, true, true, true, true, false, false, false, false] #[true, false, true, false, true, true, true, true, true, true, false, false, false] rfl rfl rfl rfl (two_of HT_.out (by kernel_rfl)) (by decide) (by decide) (fun K hK => ?_) (fun K hK => ?_)
          · skip
            refine goes_ Try.func10 (by kernel_rfl) rfl #[.pointer (some ⟨g246, 0, none⟩), .int .i64 9] (by rfl) rfl rfl q93_ ?_
            with_reducible refine (tilefarmgen_Tape_Weights.calls k1 g246 t244 t253 9 t265 t268 w _ ?side1 ?side2 A32.out).mono ?_
            (case side1 => repeat (first | (with_reducible first | exact HI246.out | apply IsS54.alloc | apply IsS54.drewN | apply IsS54.drew | apply IsS54.set_1 | refine IsS54.far ?_ NB246_254.out _ | refine IsS54.far ?_ NB246_262.out _) | exact HI246.out))
            (case side2 => repeat (first | (with_reducible first | exact HB.out | apply below_alloc | apply pw_below_drewN | apply below_drew1 | refine below_set ?_ (IsS54.ge HI246.out) | refine below_set ?_ GE254.out | refine below_set ?_ GE262.out) | exact HB.out))
            rintro e w42 ⟨v266, rfl, ho0, hi, hb, hk⟩
            refine ⟨_, rfl, ?_⟩
            have n0_ := Aside0.mk (Kd.R_mono (Kd.R_told (Kd.R_oldK (IsS54.apart (show IsS54 w _ g246 t244 t253 from by repeat (first | (with_reducible first | exact HI246.out | apply IsS54.alloc | apply IsS54.drewN | apply IsS54.drew | apply IsS54.set_1 | refine IsS54.far ?_ NB246_254.out _ | refine IsS54.far ?_ NB246_262.out _) | exact HI246.out)) q126_ (by decide)) hk) (Kd.R_base ho0)) (fun _ h_ => h_.1))
            have n1_ := Aside0.mk (Kd.R_mono (Kd.R_told (Kd.R_oldK (IsS54.apart (show IsS54 w _ g246 t244 t253 from by repeat (first | (with_reducible first | exact HI246.out | apply IsS54.alloc | apply IsS54.drewN | apply IsS54.drew | apply IsS54.set_1 | refine IsS54.far ?_ NB246_254.out _ | refine IsS54.far ?_ NB246_262.out _) | exact HI246.out)) q127_ (by decide)) hk) (Kd.R_base ho0)) (fun _ h_ => h_.1))
            have n2_ := Aside0.mk (KeepBut.blk hk (g' := gb254) (o := .cells #[.int .i64 t247, .int .i64 t248, .int .i64 t249, .slice Ao40 x255003_1.length co40] 35 (0, 0)) q119_ NB254_246.out (by simp))
            have n3_ := Aside0.mk (KeepBut.blk hk (g' := gb262) (o := .cells #[.int .i64 t256, .int .i64 t257, .int .i64 t258, u263003] 35 (0, 0)) q120_ NB262_246.out (by simp))
            have n4_ := Aside0.mk (Kd.R_lower (Kd.R_new' (Kd.R_new' ho0 (Kd.R_lt q126_)) (Kd.R_lt q127_)) (below_size q46_))
            have n5_ := Aside0.mk (hb)
            have n6_ := Aside0.mk (hi)
            clear HO_255003
            clear HO_263003
            clear BK254
            clear BK262
            clear HB
            clear HI246
            have HO_255003 := n0_
            have HO_263003 := n1_
            have BK254 := n2_
            have BK262 := n3_
            have HO267 := n4_
            have HB := n5_
            have HI246 := n6_
            clear n0_ n1_ n2_ n3_ n4_ n5_ n6_
            (try clear hb)
            (try clear hb2)
            (try clear hk)
            (try clear hi)
            (try clear ho0)
            refine hK.out _ _ ⟨(blk_cell BK254.out 0).trans rfl, (blk_cell BK254.out 1).trans rfl, (blk_cell BK254.out 2).trans rfl, (blk_cell BK254.out 3).trans rfl⟩ (fun hHeld => ?_)
            clear hK K
            refine norm_ (a' := ?_) ?_ ?_
            rotate_left
            · show Act.put _ (some 61) _ = _
              simp only [Act.put, List.setIfInBounds_toArray, List.set_cons_zero, List.set_cons_succ, i64_w, i32_w]
              rfl
            refine two_ (i := 3) (j := 9) (Ni := some 63) (Nj := some 12) #[true, true, true, true, true, true, true, true, true, false, false, false, false] #[true, true, true, false, true, true, true, true, true, true, false, false, false] rfl rfl rfl rfl (two_of HT_.out (by kernel_rfl)) (by decide) (by decide) (fun K hK => ?_) (fun K hK => ?_)
            · skip
              refine goes_ Try.func9 (by kernel_rfl) rfl #[.pointer (some ⟨g246, 0, none⟩), .int .i64 4] (by rfl) rfl rfl q93_ ?_
              with_reducible refine (tilefarmgen_Tape_Next.calls g246 t244 t268 4 t269 t270 w _ ?side1 ?side2 A33.out).mono ?_
              (case side1 => repeat (first | (with_reducible first | exact HI246.out | apply IsS54.alloc | apply IsS54.drewN | apply IsS54.drew | apply IsS54.set_1 | refine IsS54.far ?_ NB246_254.out _ | refine IsS54.far ?_ NB246_262.out _) | exact HI246.out))
              (case side2 => repeat (first | (with_reducible first | exact HB.out | apply below_alloc | apply pw_below_drewN | apply below_drew1 | refine below_set ?_ (IsS54.ge HI246.out) | refine below_set ?_ GE254.out | refine below_set ?_ GE262.out) | exact HB.out))
              rintro e w43 ⟨rfl, hi, hb, hk⟩
              refine ⟨_, rfl, ?_⟩
              have n0_ := Aside0.mk (Kd.R_mono (Kd.R_keep (IsS54.apart (show IsS54 w _ g246 t244 t268 from by repeat (first | (with_reducible first | exact HI246.out | apply IsS54.alloc | apply IsS54.drewN | apply IsS54.drew | apply IsS54.set_1 | refine IsS54.far ?_ NB246_254.out _ | refine IsS54.far ?_ NB246_262.out _) | exact HI246.out)) q126_ (by decide)) hk (fun _ h => h.2)) (fun _ h => h.1))
              have n1_ := Aside0.mk (Kd.R_mono (Kd.R_keep (IsS54.apart (show IsS54 w _ g246 t244 t268 from by repeat (first | (with_reducible first | exact HI246.out | apply IsS54.alloc | apply IsS54.drewN | apply IsS54.drew | apply IsS54.set_1 | refine IsS54.far ?_ NB246_254.out _ | refine IsS54.far ?_ NB246_262.out _) | exact HI246.out)) q127_ (by decide)) hk (fun _ h => h.2)) (fun _ h => h.1))
              have n2_ := Aside0.mk (KeepBut.blk hk (g' := gb254) (o := .cells #[.int .i64 t247, .int .i64 t248, .int .i64 t249, .slice Ao40 x255003_1.length co40] 35 (0, 0)) q119_ NB254_246.out (by simp))
              have n3_ := Aside0.mk (KeepBut.blk hk (g' := gb262) (o := .cells #[.int .i64 t256, .int .i64 t257, .int .i64 t258, u263003] 35 (0, 0)) q120_ NB262_246.out (by simp))
              have n4_ := Aside0.mk (Kd.R_mono (Kd.R_keep (IsS54.apart (show IsS54 w _ g246 t244 t268 from by repeat (first | (with_reducible first | exact HI246.out | apply IsS54.alloc | apply IsS54.drewN | apply IsS54.drew | apply IsS54.set_1 | refine IsS54.far ?_ NB246_254.out _ | refine IsS54.far ?_ NB246_262.out _) | exact HI246.out)) q135_ (by decide)) hk (fun _ h => h.2)) (fun _ h => h.1))
              have n5_ := Aside0.mk (hb)
              have n6_ := Aside0.mk (hi)
              clear HO_255003
              clear HO_263003
              clear BK254
              clear BK262
              clear HO267
              clear HB
              clear HI246
              have HO_255003 := n0_
              have HO_263003 := n1_
              have BK254 := n2_
              have BK262 := n3_
              have HO267 := n4_
              have HB := n5_
              have HI246 := n6_
              clear n0_ n1_ n2_ n3_ n4_ n5_ n6_
              (try clear hb)
              (try clear hb2)
              (try clear hk)
              (try clear hi)
              refine hK.out _ _ ⟨(blk_cell BK254.out 0).trans rfl, (blk_cell BK254.out 1).trans rfl, (blk_cell BK254.out 2).trans rfl, (blk_cell BK254.out 3).trans rfl⟩ (fun hHeld => ?_)
              clear hK K
              refine norm_ (a' := ?_) ?_ ?_
              rotate_left
              · show Act.put _ (some 63) _ = _
                simp only [Act.put, List.setIfInBounds_toArray, List.set_cons_zero, List.set_cons_succ, i64_w, i32_w]
                rfl
              refine one_ (i := 9) (N := some 12) #[true, true, true, true, true, true, true, true, true, true, false, false, false] rfl rfl (one_of HT_.out (by kernel_rfl)) (by decide) (fun K hK => ?_)
              refine box_step ?hg (N := 12) ?hd (cs := #[.int .i64 0, .int .i64 0, .int .i64 0, .int .i64 0]) (t := 33) ?hr ?_; (case hd => rfl); (case hg => rfl); (case hr => first | (go_simp; done) | (go_simp; rfl))
              intro gb271 hg w44 hbox hb
              have n0_ := Aside0.mk (Kd.R_below q126_ hb)
              have n1_ := Aside0.mk (Kd.R_below q127_ hb)
              have n2_ := Aside0.mk (Kd.R_below q135_ hb)
              have n3_ := Aside0.mk (blk_below (g := gb254) (o := .cells #[.int .i64 t247, .int .i64 t248, .int .i64 t249, .slice Ao40 x255003_1.length co40] 35 (0, 0)) q119_ hb)
              have n4_ := Aside0.mk (blk_below (g := gb262) (o := .cells #[.int .i64 t256, .int .i64 t257, .int .i64 t258, u263003] 35 (0, 0)) q120_ hb)
              have n5_ := Aside0.mk (IsS54.below q50_ hb)
              have n6_ := Aside0.mk (below_step q46_ hb)
              have n7_ := Aside0.mk (hbox)
              have n8_ := Aside0.mk ((q25_ : w.heap.size ≤ gb271))
              have n9_ := Aside0.mk ((q25_ : w.heap.size ≤ gb271))
              have n10_ := Aside0.mk ((q19_ : gb254 ≠ gb271))
              have n11_ := Aside0.mk ((q20_ : gb271 ≠ gb254))
              have n12_ := Aside0.mk ((q39_ : gb262 ≠ gb271))
              have n13_ := Aside0.mk ((q40_ : gb271 ≠ gb262))
              have n14_ := Aside0.mk ((by rw [hg]; exact Nat.ne_of_lt (IsS54.lt (show IsS54 w _ g246 t244 t270 from by repeat (first | (with_reducible first | exact HI246.out | apply IsS54.alloc | apply IsS54.drewN | apply IsS54.drew | apply IsS54.set_1 | refine IsS54.far ?_ NB246_254.out _ | refine IsS54.far ?_ NB246_262.out _) | exact HI246.out))) : g246 ≠ gb271))
              have n15_ := Aside0.mk ((by rw [hg]; exact Nat.ne_of_gt (IsS54.lt (show IsS54 w _ g246 t244 t270 from by repeat (first | (with_reducible first | exact HI246.out | apply IsS54.alloc | apply IsS54.drewN | apply IsS54.drew | apply IsS54.set_1 | refine IsS54.far ?_ NB246_254.out _ | refine IsS54.far ?_ NB246_262.out _) | exact HI246.out))) : gb271 ≠ g246))
              clear HO_255003
              clear HO_263003
              clear HO267
              clear BK254
              clear BK262
              clear HI246
              clear HB
              have HO_255003 := n0_
              have HO_263003 := n1_
              have HO267 := n2_
              have BK254 := n3_
              have BK262 := n4_
              have HI246 := n5_
              have HB := n6_
              have BK271 := n7_
              have GW271 := n8_
              have GE271 := n9_
              have NB254_271 := n10_
              have NB271_254 := n11_
              have NB262_271 := n12_
              have NB271_262 := n13_
              have NB246_271 := n14_
              have NB271_246 := n15_
              clear n0_ n1_ n2_ n3_ n4_ n5_ n6_ n7_ n8_ n9_ n10_ n11_ n12_ n13_ n14_ n15_
              clear hb hbox hg
              refine hK.out _ _ ⟨(blk_cell BK254.out 0).trans rfl, (blk_cell BK254.out 1).trans rfl, (blk_cell BK254.out 2).trans rfl, (blk_cell BK254.out 3).trans rfl⟩ (fun hHeld => ?_)
              clear hK K
              refine norm_ (a' := ?_) ?_ ?_
              rotate_left
              · show Act.put _ (some 12) _ = _
                simp only [Act.put, List.setIfInBounds_toArray, List.set_cons_zero, List.set_cons_succ, i64_w, i32_w]
                rfl
              exact norm_ q137_ (hCont (v266, gb271) _ ⟨hHeld, q91_, q89_, q90_, q119_, q120_, q121_, GW271.out, GE271.out, NB246_271.out, NB271_246.out, NB254_271.out, NB271_254.out, NB262_271.out, NB271_262.out, q27_, q26_⟩)
            · skip
              refine box_step ?hg (N := 12) ?hd (cs := #[.int .i64 0, .int .i64 0, .int .i64 0, .int .i64 0]) (t := 33) ?hr ?_; (case hd => rfl); (case hg => rfl); (case hr => first | (go_simp; done) | (go_simp; rfl))
              intro gb271 hg w43 hbox hb
              have n0_ := Aside0.mk (Kd.R_below q126_ hb)
              have n1_ := Aside0.mk (Kd.R_below q127_ hb)
              have n2_ := Aside0.mk (Kd.R_below q135_ hb)
              have n3_ := Aside0.mk (blk_below (g := gb254) (o := .cells #[.int .i64 t247, .int .i64 t248, .int .i64 t249, .slice Ao40 x255003_1.length co40] 35 (0, 0)) q119_ hb)
              have n4_ := Aside0.mk (blk_below (g := gb262) (o := .cells #[.int .i64 t256, .int .i64 t257, .int .i64 t258, u263003] 35 (0, 0)) q120_ hb)
              have n5_ := Aside0.mk (IsS54.below q50_ hb)
              have n6_ := Aside0.mk (below_step q46_ hb)
              have n7_ := Aside0.mk (hbox)
              have n8_ := Aside0.mk ((q25_ : w.heap.size ≤ gb271))
              have n9_ := Aside0.mk ((q25_ : w.heap.size ≤ gb271))
              have n10_ := Aside0.mk ((q19_ : gb254 ≠ gb271))
              have n11_ := Aside0.mk ((q20_ : gb271 ≠ gb254))
              have n12_ := Aside0.mk ((q39_ : gb262 ≠ gb271))
              have n13_ := Aside0.mk ((q40_ : gb271 ≠ gb262))
              have n14_ := Aside0.mk ((by rw [hg]; exact Nat.ne_of_lt (IsS54.lt (show IsS54 w _ g246 t244 t268 from by repeat (first | (with_reducible first | exact HI246.out | apply IsS54.alloc | apply IsS54.drewN | apply IsS54.drew | apply IsS54.set_1 | refine IsS54.far ?_ NB246_254.out _ | refine IsS54.far ?_ NB246_262.out _) | exact HI246.out))) : g246 ≠ gb271))
              have n15_ := Aside0.mk ((by rw [hg]; exact Nat.ne_of_gt (IsS54.lt (show IsS54 w _ g246 t244 t268 from by repeat (first | (with_reducible first | exact HI246.out | apply IsS54.alloc | apply IsS54.drewN | apply IsS54.drew | apply IsS54.set_1 | refine IsS54.far ?_ NB246_254.out _ | refine IsS54.far ?_ NB246_262.out _) | exact HI246.out))) : gb271 ≠ g246))
              clear HO_255003
              clear HO_263003
              clear HO267
              clear BK254
              clear BK262
              clear HI246
              clear HB
              have HO_255003 := n0_
              have HO_263003 := n1_
              have HO267 := n2_
              have BK254 := n3_
              have BK262 := n4_
              have HI246 := n5_
              have HB := n6_
              have BK271 := n7_
              have GW271 := n8_
              have GE271 := n9_
              have NB254_271 := n10_
              have NB271_254 := n11_
              have NB262_271 := n12_
              have NB271_262 := n13_
              have NB246_271 := n14_
              have NB271_246 := n15_
              clear n0_ n1_ n2_ n3_ n4_ n5_ n6_ n7_ n8_ n9_ n10_ n11_ n12_ n13_ n14_ n15_
              clear hb hbox hg
              refine hK.out _ _ ⟨(blk_cell BK254.out 0).trans rfl, (blk_cell BK254.out 1).trans rfl, (blk_cell BK254.out 2).trans rfl, (blk_cell BK254.out 3).trans rfl⟩ (fun hHeld => ?_)
              clear hK K
              refine norm_ (a' := ?_) ?_ ?_
              rotate_left
              · show Act.put _ (some 12) _ = _
                simp only [Act.put, List.setIfInBounds_toArray, List.set_cons_zero, List.set_cons_succ, i64_w, i32_w]
                rfl
              refine one_ (i := 3) (N := some 63) #[true, true, true, true, true, true, true, true, true, true, false, false, false] rfl rfl (one_of HT_.out (by kernel_rfl)) (by decide) (fun K hK => ?_)
              refine goes_ Try.func9 (by kernel_rfl) rfl #[.pointer (some ⟨g246, 0, none⟩), .int .i64 4] (by rfl) rfl rfl q93_ ?_
              with_reducible refine (tilefarmgen_Tape_Next.calls g246 t244 t268 4 t269 t270 w _ ?side1 ?side2 A33.out).mono ?_
              (case side1 => repeat (first | (with_reducible first | exact HI246.out | apply IsS54.alloc | apply IsS54.drewN | apply IsS54.drew | apply IsS54.set_1 | refine IsS54.far ?_ NB246_254.out _ | refine IsS54.far ?_ NB246_262.out _ | refine IsS54.far ?_ NB246_271.out _) | exact HI246.out))
              (case side2 => repeat (first | (with_reducible first | exact HB.out | apply below_alloc | apply pw_below_drewN | apply below_drew1 | refine below_set ?_ (IsS54.ge HI246.out) | refine below_set ?_ GE254.out | refine below_set ?_ GE262.out | refine below_set ?_ GE271.out) | exact HB.out))
              rintro e w44 ⟨rfl, hi, hb, hk⟩
              refine ⟨_, rfl, ?_⟩
              have n0_ := Aside0.mk (Kd.R_mono (Kd.R_keep (IsS54.apart (show IsS54 w _ g246 t244 t268 from by repeat (first | (with_reducible first | exact HI246.out | apply IsS54.alloc | apply IsS54.drewN | apply IsS54.drew | apply IsS54.set_1 | refine IsS54.far ?_ NB246_254.out _ | refine IsS54.far ?_ NB246_262.out _ | refine IsS54.far ?_ NB246_271.out _) | exact HI246.out)) q126_ (by decide)) hk (fun _ h => h.2)) (fun _ h => h.1))
              have n1_ := Aside0.mk (Kd.R_mono (Kd.R_keep (IsS54.apart (show IsS54 w _ g246 t244 t268 from by repeat (first | (with_reducible first | exact HI246.out | apply IsS54.alloc | apply IsS54.drewN | apply IsS54.drew | apply IsS54.set_1 | refine IsS54.far ?_ NB246_254.out _ | refine IsS54.far ?_ NB246_262.out _ | refine IsS54.far ?_ NB246_271.out _) | exact HI246.out)) q127_ (by decide)) hk (fun _ h => h.2)) (fun _ h => h.1))
              have n2_ := Aside0.mk (KeepBut.blk hk (g' := gb254) (o := .cells #[.int .i64 t247, .int .i64 t248, .int .i64 t249, .slice Ao40 x255003_1.length co40] 35 (0, 0)) q119_ NB254_246.out (by simp))
              have n3_ := Aside0.mk (KeepBut.blk hk (g' := gb262) (o := .cells #[.int .i64 t256, .int .i64 t257, .int .i64 t258, u263003] 35 (0, 0)) q120_ NB262_246.out (by simp))
              have n4_ := Aside0.mk (Kd.R_mono (Kd.R_keep (IsS54.apart (show IsS54 w _ g246 t244 t268 from by repeat (first | (with_reducible first | exact HI246.out | apply IsS54.alloc | apply IsS54.drewN | apply IsS54.drew | apply IsS54.set_1 | refine IsS54.far ?_ NB246_254.out _ | refine IsS54.far ?_ NB246_262.out _ | refine IsS54.far ?_ NB246_271.out _) | exact HI246.out)) q135_ (by decide)) hk (fun _ h => h.2)) (fun _ h => h.1))
              have n5_ := Aside0.mk (KeepBut.blk hk (g' := gb271) (o := .cells #[.int .i64 0, .int .i64 0, .int .i64 0, .int .i64 0] 33 (0, 0)) q121_ NB271_246.out (by simp))
              have n6_ := Aside0.mk (hb)
              have n7_ := Aside0.mk (hi)
              clear HO_255003
              clear HO_263003
              clear BK254
              clear BK262
              clear HO267
              clear BK271
              clear HB
              clear HI246
              have HO_255003 := n0_
              have HO_263003 := n1_
              have BK254 := n2_
              have BK262 := n3_
              have HO267 := n4_
              have BK271 := n5_
              have HB := n6_
              have HI246 := n7_
              clear n0_ n1_ n2_ n3_ n4_ n5_ n6_ n7_
              (try clear hb)
              (try clear hb2)
              (try clear hk)
              (try clear hi)
              refine hK.out _ _ ⟨(blk_cell BK254.out 0).trans rfl, (blk_cell BK254.out 1).trans rfl, (blk_cell BK254.out 2).trans rfl, (blk_cell BK254.out 3).trans rfl⟩ (fun hHeld => ?_)
              clear hK K
              refine norm_ (a' := ?_) ?_ ?_
              rotate_left
              · show Act.put _ (some 63) _ = _
                simp only [Act.put, List.setIfInBounds_toArray, List.set_cons_zero, List.set_cons_succ, i64_w, i32_w]
                rfl
              exact norm_ q137_ (hCont (v266, gb271) _ ⟨hHeld, q91_, q89_, q90_, q119_, q120_, q121_, GW271.out, GE271.out, NB246_271.out, NB271_246.out, NB254_271.out, NB271_254.out, NB262_271.out, NB271_262.out, q27_, q26_⟩)
          · skip
            refine box_step ?hg (N := 12) ?hd (cs := #[.int .i64 0, .int .i64 0, .int .i64 0, .int .i64 0]) (t := 33) ?hr ?_; (case hd => rfl); (case hg => rfl); (case hr => first | (go_simp; done) | (go_simp; rfl))
            intro gb271 hg w42 hbox hb
            have n0_ := Aside0.mk (Kd.R_below q126_ hb)
            have n1_ := Aside0.mk (Kd.R_below q127_ hb)
            have n2_ := Aside0.mk (blk_below (g := gb254) (o := .cells #[.int .i64 t247, .int .i64 t248, .int .i64 t249, .slice Ao40 x255003_1.length co40] 35 (0, 0)) q119_ hb)
            have n3_ := Aside0.mk (blk_below (g := gb262) (o := .cells #[.int .i64 t256, .int .i64 t257, .int .i64 t258, u263003] 35 (0, 0)) q120_ hb)
            have n4_ := Aside0.mk (IsS54.below q50_ hb)
            have n5_ := Aside0.mk (below_step q46_ hb)
            have n6_ := Aside0.mk (hbox)
            have n7_ := Aside0.mk ((q25_ : w.heap.size ≤ gb271))
            have n8_ := Aside0.mk ((q25_ : w.heap.size ≤ gb271))
            have n9_ := Aside0.mk ((q19_ : gb254 ≠ gb271))
            have n10_ := Aside0.mk ((q20_ : gb271 ≠ gb254))
            have n11_ := Aside0.mk ((q39_ : gb262 ≠ gb271))
            have n12_ := Aside0.mk ((q40_ : gb271 ≠ gb262))
            have n13_ := Aside0.mk ((by rw [hg]; exact Nat.ne_of_lt (IsS54.lt (show IsS54 w _ g246 t244 t253 from by repeat (first | (with_reducible first | exact HI246.out | apply IsS54.alloc | apply IsS54.drewN | apply IsS54.drew | apply IsS54.set_1 | refine IsS54.far ?_ NB246_254.out _ | refine IsS54.far ?_ NB246_262.out _) | exact HI246.out))) : g246 ≠ gb271))
            have n14_ := Aside0.mk ((by rw [hg]; exact Nat.ne_of_gt (IsS54.lt (show IsS54 w _ g246 t244 t253 from by repeat (first | (with_reducible first | exact HI246.out | apply IsS54.alloc | apply IsS54.drewN | apply IsS54.drew | apply IsS54.set_1 | refine IsS54.far ?_ NB246_254.out _ | refine IsS54.far ?_ NB246_262.out _) | exact HI246.out))) : gb271 ≠ g246))
            clear HO_255003
            clear HO_263003
            clear BK254
            clear BK262
            clear HI246
            clear HB
            have HO_255003 := n0_
            have HO_263003 := n1_
            have BK254 := n2_
            have BK262 := n3_
            have HI246 := n4_
            have HB := n5_
            have BK271 := n6_
            have GW271 := n7_
            have GE271 := n8_
            have NB254_271 := n9_
            have NB271_254 := n10_
            have NB262_271 := n11_
            have NB271_262 := n12_
            have NB246_271 := n13_
            have NB271_246 := n14_
            clear n0_ n1_ n2_ n3_ n4_ n5_ n6_ n7_ n8_ n9_ n10_ n11_ n12_ n13_ n14_
            clear hb hbox hg
            refine hK.out _ _ ⟨(blk_cell BK254.out 0).trans rfl, (blk_cell BK254.out 1).trans rfl, (blk_cell BK254.out 2).trans rfl, (blk_cell BK254.out 3).trans rfl⟩ (fun hHeld => ?_)
            clear hK K
            refine norm_ (a' := ?_) ?_ ?_
            rotate_left
            · show Act.put _ (some 12) _ = _
              simp only [Act.put, List.setIfInBounds_toArray, List.set_cons_zero, List.set_cons_succ, i64_w, i32_w]
              rfl
            refine one_ (i := 1) (N := some 61) #[true, true, true, false, true, true, true, true, true, true, false, false, false] rfl rfl (one_of HT_.out (by kernel_rfl)) (by decide) (fun K hK => ?_)
            refine goes_ Try.func10 (by kernel_rfl) rfl #[.pointer (some ⟨g246, 0, none⟩), .int .i64 9] (by rfl) rfl rfl q93_ ?_
            with_reducible refine (tilefarmgen_Tape_Weights.calls k1 g246 t244 t253 9 t265 t268 w _ ?side1 ?side2 A32.out).mono ?_
            (case side1 => repeat (first | (with_reducible first | exact HI246.out | apply IsS54.alloc | apply IsS54.drewN | apply IsS54.drew | apply IsS54.set_1 | refine IsS54.far ?_ NB246_254.out _ | refine IsS54.far ?_ NB246_262.out _ | refine IsS54.far ?_ NB246_271.out _) | exact HI246.out))
            (case side2 => repeat (first | (with_reducible first | exact HB.out | apply below_alloc | apply pw_below_drewN | apply below_drew1 | refine below_set ?_ (IsS54.ge HI246.out) | refine below_set ?_ GE254.out | refine below_set ?_ GE262.out | refine below_set ?_ GE271.out) | exact HB.out))
            rintro e w43 ⟨v266, rfl, ho0, hi, hb, hk⟩
            refine ⟨_, rfl, ?_⟩
            have n0_ := Aside0.mk (Kd.R_mono (Kd.R_told (Kd.R_oldK (IsS54.apart (show IsS54 w _ g246 t244 t253 from by repeat (first | (with_reducible first | exact HI246.out | apply IsS54.alloc | apply IsS54.drewN | apply IsS54.drew | apply IsS54.set_1 | refine IsS54.far ?_ NB246_254.out _ | refine IsS54.far ?_ NB246_262.out _ | refine IsS54.far ?_ NB246_271.out _) | exact HI246.out)) q126_ (by decide)) hk) (Kd.R_base ho0)) (fun _ h_ => h_.1))
            have n1_ := Aside0.mk (Kd.R_mono (Kd.R_told (Kd.R_oldK (IsS54.apart (show IsS54 w _ g246 t244 t253 from by repeat (first | (with_reducible first | exact HI246.out | apply IsS54.alloc | apply IsS54.drewN | apply IsS54.drew | apply IsS54.set_1 | refine IsS54.far ?_ NB246_254.out _ | refine IsS54.far ?_ NB246_262.out _ | refine IsS54.far ?_ NB246_271.out _) | exact HI246.out)) q127_ (by decide)) hk) (Kd.R_base ho0)) (fun _ h_ => h_.1))
            have n2_ := Aside0.mk (KeepBut.blk hk (g' := gb254) (o := .cells #[.int .i64 t247, .int .i64 t248, .int .i64 t249, .slice Ao40 x255003_1.length co40] 35 (0, 0)) q119_ NB254_246.out (by simp))
            have n3_ := Aside0.mk (KeepBut.blk hk (g' := gb262) (o := .cells #[.int .i64 t256, .int .i64 t257, .int .i64 t258, u263003] 35 (0, 0)) q120_ NB262_246.out (by simp))
            have n4_ := Aside0.mk (KeepBut.blk hk (g' := gb271) (o := .cells #[.int .i64 0, .int .i64 0, .int .i64 0, .int .i64 0] 33 (0, 0)) q121_ NB271_246.out (by simp))
            have n5_ := Aside0.mk (Kd.R_lower (Kd.R_new' (Kd.R_new' ho0 (Kd.R_lt q126_)) (Kd.R_lt q127_)) (below_size q26_))
            have n6_ := Aside0.mk (hb)
            have n7_ := Aside0.mk (hi)
            clear HO_255003
            clear HO_263003
            clear BK254
            clear BK262
            clear BK271
            clear HB
            clear HI246
            have HO_255003 := n0_
            have HO_263003 := n1_
            have BK254 := n2_
            have BK262 := n3_
            have BK271 := n4_
            have HO267 := n5_
            have HB := n6_
            have HI246 := n7_
            clear n0_ n1_ n2_ n3_ n4_ n5_ n6_ n7_
            (try clear hb)
            (try clear hb2)
            (try clear hk)
            (try clear hi)
            (try clear ho0)
            refine hK.out _ _ ⟨(blk_cell BK254.out 0).trans rfl, (blk_cell BK254.out 1).trans rfl, (blk_cell BK254.out 2).trans rfl, (blk_cell BK254.out 3).trans rfl⟩ (fun hHeld => ?_)
            clear hK K
            refine norm_ (a' := ?_) ?_ ?_
            rotate_left
            · show Act.put _ (some 61) _ = _
              simp only [Act.put, List.setIfInBounds_toArray, List.set_cons_zero, List.set_cons_succ, i64_w, i32_w]
              rfl
            refine one_ (i := 3) (N := some 63) #[true, true, true, true, true, true, true, true, true, true, false, false, false] rfl rfl (one_of HT_.out (by kernel_rfl)) (by decide) (fun K hK => ?_)
            refine goes_ Try.func9 (by kernel_rfl) rfl #[.pointer (some ⟨g246, 0, none⟩), .int .i64 4] (by rfl) rfl rfl q93_ ?_
            with_reducible refine (tilefarmgen_Tape_Next.calls g246 t244 t268 4 t269 t270 w _ ?side1 ?side2 A33.out).mono ?_
            (case side1 => repeat (first | (with_reducible first | exact HI246.out | apply IsS54.alloc | apply IsS54.drewN | apply IsS54.drew | apply IsS54.set_1 | refine IsS54.far ?_ NB246_254.out _ | refine IsS54.far ?_ NB246_262.out _ | refine IsS54.far ?_ NB246_271.out _) | exact HI246.out))
            (case side2 => repeat (first | (with_reducible first | exact HB.out | apply below_alloc | apply pw_below_drewN | apply below_drew1 | refine below_set ?_ (IsS54.ge HI246.out) | refine below_set ?_ GE254.out | refine below_set ?_ GE262.out | refine below_set ?_ GE271.out) | exact HB.out))
            rintro e w44 ⟨rfl, hi, hb, hk⟩
            refine ⟨_, rfl, ?_⟩
            have n0_ := Aside0.mk (Kd.R_mono (Kd.R_keep (IsS54.apart (show IsS54 w _ g246 t244 t268 from by repeat (first | (with_reducible first | exact HI246.out | apply IsS54.alloc | apply IsS54.drewN | apply IsS54.drew | apply IsS54.set_1 | refine IsS54.far ?_ NB246_254.out _ | refine IsS54.far ?_ NB246_262.out _ | refine IsS54.far ?_ NB246_271.out _) | exact HI246.out)) q126_ (by decide)) hk (fun _ h => h.2)) (fun _ h => h.1))
            have n1_ := Aside0.mk (Kd.R_mono (Kd.R_keep (IsS54.apart (show IsS54 w _ g246 t244 t268 from by repeat (first | (with_reducible first | exact HI246.out | apply IsS54.alloc | apply IsS54.drewN | apply IsS54.drew | apply IsS54.set_1 | refine IsS54.far ?_ NB246_254.out _ | refine IsS54.far ?_ NB246_262.out _ | refine IsS54.far ?_ NB246_271.out _) | exact HI246.out)) q127_ (by decide)) hk (fun _ h => h.2)) (fun _ h => h.1))
            have n2_ := Aside0.mk (KeepBut.blk hk (g' := gb254) (o := .cells #[.int .i64 t247, .int .i64 t248, .int .i64 t249, .slice Ao40 x255003_1.length co40] 35 (0, 0)) q119_ NB254_246.out (by simp))
            have n3_ := Aside0.mk (KeepBut.blk hk (g' := gb262) (o := .cells #[.int .i64 t256, .int .i64 t257, .int .i64 t258, u263003] 35 (0, 0)) q120_ NB262_246.out (by simp))
            have n4_ := Aside0.mk (KeepBut.blk hk (g' := gb271) (o := .cells #[.int .i64 0, .int .i64 0, .int .i64 0, .int .i64 0] 33 (0, 0)) q121_ NB271_246.out (by simp))
            have n5_ := Aside0.mk (Kd.R_mono (Kd.R_keep (IsS54.apart (show IsS54 w _ g246 t244 t268 from by repeat (first | (with_reducible first | exact HI246.out | apply IsS54.alloc | apply IsS54.drewN | apply IsS54.drew | apply IsS54.set_1 | refine IsS54.far ?_ NB246_254.out _ | refine IsS54.far ?_ NB246_262.out _ | refine IsS54.far ?_ NB246_271.out _) | exact HI246.out)) q135_ (by decide)) hk (fun _ h => h.2)) (fun _ h => h.1))
            have n6_ := Aside0.mk (hb)
            have n7_ := Aside0.mk (hi)
            clear HO_255003
            clear HO_263003
            clear BK254
            clear BK262
            clear BK271
            clear HO267
            clear HB
            clear HI246
            have HO_255003 := n0_
            have HO_263003 := n1_
            have BK254 := n2_
            have BK262 := n3_
            have BK271 := n4_
            have HO267 := n5_
            have HB := n6_
            have HI246 := n7_
            clear n0_ n1_ n2_ n3_ n4_ n5_ n6_ n7_
            (try clear hb)
            (try clear hb2)
            (try clear hk)
            (try clear hi)
            refine hK.out _ _ ⟨(blk_cell BK254.out 0).trans rfl, (blk_cell BK254.out 1).trans rfl, (blk_cell BK254.out 2).trans rfl, (blk_cell BK254.out 3).trans rfl⟩ (fun hHeld => ?_)
            clear hK K
            refine norm_ (a' := ?_) ?_ ?_
            rotate_left
            · show Act.put _ (some 63) _ = _
              simp only [Act.put, List.setIfInBounds_toArray, List.set_cons_zero, List.set_cons_succ, i64_w, i32_w]
              rfl
            exact norm_ q137_ (hCont (v266, gb271) _ ⟨hHeld, q91_, q89_, q90_, q119_, q120_, q121_, GW271.out, GE271.out, NB246_271.out, NB271_246.out, NB254_271.out, NB271_254.out, NB262_271.out, NB271_262.out, q27_, q26_⟩)
        rintro ⟨v266, gb271⟩ w45 ⟨hS_, h0_, h1_, h2_, h3_, h4_, h5_, h6_, h7_, h8_, h9_, h10_, h11_, h12_, h13_, h14_, h15_⟩
        have n0_ : Aside0 (Kd.R (Kd.int .i64) 3 w45 w.heap.size (fun k_ => some k_ ≠ (.slice Ao40 x255003_1.length co40 : Value).ownBlock ∧ some k_ ≠ (u263003 : Value).ownBlock) v266 t265) := ⟨h0_⟩
        have n1_ : Aside0 (Kd.R (Kd.int .i64) 3 w45 w.heap.size (fun k_ => some k_ ≠ (v266 : Value).ownBlock ∧ some k_ ≠ (u263003 : Value).ownBlock) (.slice Ao40 x255003_1.length co40) x255003_1) := ⟨h1_⟩
        have n2_ : Aside0 (Kd.R (Kd.int .i64) 3 w45 w.heap.size (fun k_ => some k_ ≠ (v266 : Value).ownBlock ∧ some k_ ≠ (.slice Ao40 x255003_1.length co40 : Value).ownBlock) u263003 x263003_1) := ⟨h2_⟩
        have n3_ : Aside0 (w45.heap[gb254]? = some (.cells #[.int .i64 t247, .int .i64 t248, .int .i64 t249, .slice Ao40 x255003_1.length co40] 35 (0, 0))) := ⟨h3_⟩
        have n4_ : Aside0 (w45.heap[gb262]? = some (.cells #[.int .i64 t256, .int .i64 t257, .int .i64 t258, u263003] 35 (0, 0))) := ⟨h4_⟩
        have n5_ : Aside0 (w45.heap[gb271]? = some (.cells #[.int .i64 0, .int .i64 0, .int .i64 0, .int .i64 0] 33 (0, 0))) := ⟨h5_⟩
        have n6_ : Aside0 (w.heap.size ≤ gb271) := ⟨h6_⟩
        have n7_ : Aside0 (w.heap.size ≤ gb271) := ⟨h7_⟩
        have n8_ : Aside0 (g246 ≠ gb271) := ⟨h8_⟩
        have n9_ : Aside0 (gb271 ≠ g246) := ⟨h9_⟩
        have n10_ : Aside0 (gb254 ≠ gb271) := ⟨h10_⟩
        have n11_ : Aside0 (gb271 ≠ gb254) := ⟨h11_⟩
        have n12_ : Aside0 (gb262 ≠ gb271) := ⟨h12_⟩
        have n13_ : Aside0 (gb271 ≠ gb262) := ⟨h13_⟩
        have n14_ : Aside0 (IsS54 w w45 g246 t244 t270) := ⟨h14_⟩
        have n15_ : Aside0 (Below w.heap.size w w45) := ⟨h15_⟩
        clear HO_255003
        clear HO_263003
        clear BK254
        clear BK262
        clear HI246
        clear HB
        clear h0_ h1_ h2_ h3_ h4_ h5_ h6_ h7_ h8_ h9_ h10_ h11_ h12_ h13_ h14_ h15_
        have HO267 := n0_
        have HO_255003 := n1_
        have HO_263003 := n2_
        have BK254 := n3_
        have BK262 := n4_
        have BK271 := n5_
        have GW271 := n6_
        have GE271 := n7_
        have NB246_271 := n8_
        have NB271_246 := n9_
        have NB254_271 := n10_
        have NB271_254 := n11_
        have NB262_271 := n12_
        have NB271_262 := n13_
        have HI246 := n14_
        have HB := n15_
        clear n0_ n1_ n2_ n3_ n4_ n5_ n6_ n7_ n8_ n9_ n10_ n11_ n12_ n13_ n14_ n15_
        have hHeld : w45.cell? ⟨gb254, 0, none⟩ = some (.int .i64 t247) ∧ w45.cell? ⟨gb254, 1, none⟩ = some (.int .i64 t248) ∧ w45.cell? ⟨gb254, 2, none⟩ = some (.int .i64 t249) ∧ w45.cell? ⟨gb254, 3, none⟩ = some (.slice Ao40 x255003_1.length co40) := hS_
        refine norm_ (a' := ?_) ?_ ?_
        rotate_left
        · simp only [putAll, Act.put, List.setIfInBounds_toArray, List.set_cons_zero, List.set_cons_succ]
          rfl
        refine pure_ (i := 10) (N := some 10) (v := ?_) (a' := ?_) #[true, true, true, true, true, true, true, true, true, true, true, false, false] rfl rfl (any_of HT_.out (by kernel_rfl)) (fun _ _ _ h => h) (Or.inl ⟨by rfl, ?_⟩) ?_ ?_
        rotate_left
        · intro w'
          go_simp
          with_reducible rfl
        rotate_left
        · simp only [Act.put, List.setIfInBounds_toArray, List.set_cons_zero, List.set_cons_succ, i64_w, i32_w]
          rfl
        refine pure_ (i := 11) (N := some 11) (v := ?_) (a' := ?_) #[true, true, true, true, true, true, true, true, true, true, true, true, false] rfl rfl (any_of HT_.out (by kernel_rfl)) (fun _ _ _ h => h) (Or.inl ⟨by rfl, ?_⟩) ?_ ?_
        rotate_left
        · intro w'
          go_simp
          with_reducible rfl
        rotate_left
        · simp only [Act.put, List.setIfInBounds_toArray, List.set_cons_zero, List.set_cons_succ, i64_w, i32_w]
          rfl
        refine one_ (i := 12) (N := none) #[true, true, true, true, true, true, true, true, true, true, true, true, true] rfl rfl (one_of HT_.out (by kernel_rfl)) (by decide) (fun K hK => ?_)
        have hs46 : w45.cell? ⟨gb271, 0, none⟩ = some (.int .i64 0) := (blk_cell BK271.out 0).trans rfl
        have hfs46 := blk_frozen BK271.out 0
        have hns46_0 := NB254_271.out
        have hns46_1 := NB262_271.out
        have hms46_0 := NB271_254.out
        have hms46_1 := NB271_262.out
        have hs47 : w45.cell? ⟨gb271, 1, none⟩ = some (.int .i64 0) := (blk_cell BK271.out 1).trans rfl
        have hfs47 := blk_frozen BK271.out 1
        have hns47_0 := NB254_271.out
        have hns47_1 := NB262_271.out
        have hms47_0 := NB271_254.out
        have hms47_1 := NB271_262.out
        have hs48 : w45.cell? ⟨gb271, 2, none⟩ = some (.int .i64 0) := (blk_cell BK271.out 2).trans rfl
        have hfs48 := blk_frozen BK271.out 2
        have hns48_0 := NB254_271.out
        have hns48_1 := NB262_271.out
        have hms48_0 := NB271_254.out
        have hms48_1 := NB271_262.out
        have hs49 : w45.cell? ⟨gb271, 3, none⟩ = some (.int .i64 0) := (blk_cell BK271.out 3).trans rfl
        have hfs49 := blk_frozen BK271.out 3
        have hns49_0 := NB254_271.out
        have hns49_1 := NB262_271.out
        have hms49_0 := NB271_254.out
        have hms49_1 := NB271_262.out
        refine skip_ (w1 := ?_) (by rfl) rfl ?_ ?_
        rotate_left
        · go_simp
          rfl
        refine hK.out _ _ ⟨((cell_far (p := ⟨gb271, _, none⟩) NB254_271.out _).trans (((cell_far (p := ⟨gb271, _, none⟩) NB254_271.out _).trans (((cell_far (p := ⟨gb271, _, none⟩) NB254_271.out _).trans (((cell_far (p := ⟨gb271, _, none⟩) NB254_271.out _).trans (hHeld.1)))))))), ((cell_far (p := ⟨gb271, _, none⟩) NB254_271.out _).trans (((cell_far (p := ⟨gb271, _, none⟩) NB254_271.out _).trans (((cell_far (p := ⟨gb271, _, none⟩) NB254_271.out _).trans (((cell_far (p := ⟨gb271, _, none⟩) NB254_271.out _).trans (hHeld.2.1)))))))), ((cell_far (p := ⟨gb271, _, none⟩) NB254_271.out _).trans (((cell_far (p := ⟨gb271, _, none⟩) NB254_271.out _).trans (((cell_far (p := ⟨gb271, _, none⟩) NB254_271.out _).trans (((cell_far (p := ⟨gb271, _, none⟩) NB254_271.out _).trans (hHeld.2.2.1)))))))), ((cell_far (p := ⟨gb271, _, none⟩) NB254_271.out _).trans (((cell_far (p := ⟨gb271, _, none⟩) NB254_271.out _).trans (((cell_far (p := ⟨gb271, _, none⟩) NB254_271.out _).trans (((cell_far (p := ⟨gb271, _, none⟩) NB254_271.out _).trans (hHeld.2.2.2))))))))⟩ (fun hHeld => ?_)
        clear hK K
        refine done_ (done_of HT_.out (by kernel_rfl)) ?_
        have hnb50 := NB254_271.out
        have hnc50 := NB271_254.out
        have hcz51_0 : w45.cell? ⟨gb254, 0, none⟩ = some (.int .i64 t247) := (blk_cell BK254.out 0).trans rfl
        have hcz51_1 : w45.cell? ⟨gb254, 1, none⟩ = some (.int .i64 t248) := (blk_cell BK254.out 1).trans rfl
        have hcz51_2 : w45.cell? ⟨gb254, 2, none⟩ = some (.int .i64 t249) := (blk_cell BK254.out 2).trans rfl
        have hcz51_3 : w45.cell? ⟨gb254, 3, none⟩ = some (.slice Ao40 x255003_1.length co40) := (blk_cell BK254.out 3).trans rfl
        have hfz51_0 := blk_frozen BK254.out 0
        have hfz51_1 := blk_frozen BK254.out 1
        have hfz51_2 := blk_frozen BK254.out 2
        have hfz51_3 := blk_frozen BK254.out 3
        have hnb52 := NB271_262.out
        have hnc52 := NB262_271.out
        have hnb53 := NB271_246.out
        have hnc53 := NB246_271.out
        have hcz54_0 : w45.cell? ⟨gb271, 0, none⟩ = some (.int .i64 0) := (blk_cell BK271.out 0).trans rfl
        have hcz54_1 : w45.cell? ⟨gb271, 1, none⟩ = some (.int .i64 0) := (blk_cell BK271.out 1).trans rfl
        have hcz54_2 : w45.cell? ⟨gb271, 2, none⟩ = some (.int .i64 0) := (blk_cell BK271.out 2).trans rfl
        have hcz54_3 : w45.cell? ⟨gb271, 3, none⟩ = some (.int .i64 0) := (blk_cell BK271.out 3).trans rfl
        have hfz54_0 := blk_frozen BK271.out 0
        have hfz54_1 := blk_frozen BK271.out 1
        have hfz54_2 := blk_frozen BK271.out 2
        have hfz54_3 := blk_frozen BK271.out 3
        obtain ⟨Ao55, co55, eo55⟩ := Kd.R_slice HO267.out
        subst eo55
        go_upto_region 12 with (first | ((with_reducible refine gate_callee (f := 20) rfl ?_); refine goesL_ (some 75) rfl rfl Try.func20 (by kernel_rfl) rfl #[.agg #[.int .i64 t247, .int .i64 t248, .int .i64 t249, .slice Ao40 x255003_1.length co40], .agg #[.int .i64 2, .int .i64 0], .int .i64 3, .int .i64 3, .slice Ao55 t265.length co55, .int .i64 t269, .int .i64 255, .agg #[.int .i64 0, .int .i64 0, .int .i64 t247, .int .i64 t248]] rfl q93_ ?_; (with_reducible refine (convolve_Tile.calls k1 t247 t248 t249 _ _ x255003_1 2 0 3 3 _ _ t265 t269 255 0 0 t247 t248 t272 t273 t274 t275 t278 _ ?side1 ?side2 ?side3 ?side4 A34.out).mono ?_); (case side1 => refine (Kd.R_reads' (e := 3) (base := w.heap.size) (ok := fun k_ => (some k_ ≠ (.slice Ao55 t265.length co55 : Value).ownBlock ∧ some k_ ≠ (u263003 : Value).ownBlock)) (n := x255003_1.length) (c := co40) ?_).2.2; exact q13_); (case side2 => exact (Kd.R_reads' HO_255003.out).2.1); (case side3 => refine (Kd.R_reads' (e := 3) (base := w.heap.size) (ok := fun k_ => (some k_ ≠ (.slice Ao40 x255003_1.length co40 : Value).ownBlock ∧ some k_ ≠ (u263003 : Value).ownBlock)) (n := t265.length) (c := co55) ?_).2.2; exact q14_); (case side4 => exact (Kd.R_reads' HO267.out).2.1); rintro e w56 ⟨v276, rfl, ho0, hb⟩; refine ⟨_, rfl, ?_⟩; have n0_ := Aside0.mk (Kd.R_elder' q13_ (Kd.R_base ho0) hb); have n1_ := Aside0.mk (Kd.R_elder' (by (with_reducible repeat (first | apply Kd.R_alloc | apply Kd.R_drewN | apply Kd.R_drew)); exact (Kd.R_mono (Kd.R_far (p := ⟨gb271, 3, none⟩) (Kd.R_far (p := ⟨gb271, 2, none⟩) (Kd.R_far (p := ⟨gb271, 1, none⟩) (Kd.R_far (p := ⟨gb271, 0, none⟩) (Kd.R_types HO_263003.out BK271.out (by decide)) (fun _ hk => hk.2) (.int .i64 0)) (fun _ hk => hk.2) (.int .i64 0)) (fun _ hk => hk.2) (.int .i64 t247)) (fun _ hk => hk.2) (.int .i64 t248)) (fun _ h_ => h_.1))) (Kd.R_base ho0) hb); have n2_ := Aside0.mk (Kd.R_elder' q14_ (Kd.R_base ho0) hb); have n3_ := Aside0.mk (Kd.R_lower (Kd.R_new' (Kd.R_new' (Kd.R_new' ho0 (Kd.R_lt q13_)) (Kd.R_lt (by (with_reducible repeat (first | apply Kd.R_alloc | apply Kd.R_drewN | apply Kd.R_drew)); exact (Kd.R_mono (Kd.R_far (p := ⟨gb271, 3, none⟩) (Kd.R_far (p := ⟨gb271, 2, none⟩) (Kd.R_far (p := ⟨gb271, 1, none⟩) (Kd.R_far (p := ⟨gb271, 0, none⟩) (Kd.R_types HO_263003.out BK271.out (by decide)) (fun _ hk => hk.2) (.int .i64 0)) (fun _ hk => hk.2) (.int .i64 0)) (fun _ hk => hk.2) (.int .i64 t247)) (fun _ hk => hk.2) (.int .i64 t248)) (fun _ h_ => h_.1))))) (Kd.R_lt q14_)) (below_size q26_)); have n4_ := Aside0.mk (blk_below (g := gb254) (o := .cells #[.int .i64 t247, .int .i64 t248, .int .i64 t249, .slice Ao40 x255003_1.length co40] 35 (0, 0)) (by (with_reducible repeat (first | refine blk_drewN ?_ _ | refine blk_drew ?_ | refine blk_alloc ?_ _)); refine blk_far ?_ NB254_271.out _; (with_reducible repeat (first | refine blk_drewN ?_ _ | refine blk_drew ?_ | refine blk_alloc ?_ _)); refine blk_far ?_ NB254_271.out _; (with_reducible repeat (first | refine blk_drewN ?_ _ | refine blk_drew ?_ | refine blk_alloc ?_ _)); refine blk_far ?_ NB254_271.out _; (with_reducible repeat (first | refine blk_drewN ?_ _ | refine blk_drew ?_ | refine blk_alloc ?_ _)); refine blk_far ?_ NB254_271.out _; (with_reducible repeat (first | refine blk_drewN ?_ _ | refine blk_drew ?_ | refine blk_alloc ?_ _)); exact BK254.out) hb); have n5_ := Aside0.mk (blk_below (g := gb262) (o := .cells #[.int .i64 t256, .int .i64 t257, .int .i64 t258, u263003] 35 (0, 0)) (by (with_reducible repeat (first | refine blk_drewN ?_ _ | refine blk_drew ?_ | refine blk_alloc ?_ _)); refine blk_far ?_ NB262_271.out _; (with_reducible repeat (first | refine blk_drewN ?_ _ | refine blk_drew ?_ | refine blk_alloc ?_ _)); refine blk_far ?_ NB262_271.out _; (with_reducible repeat (first | refine blk_drewN ?_ _ | refine blk_drew ?_ | refine blk_alloc ?_ _)); refine blk_far ?_ NB262_271.out _; (with_reducible repeat (first | refine blk_drewN ?_ _ | refine blk_drew ?_ | refine blk_alloc ?_ _)); refine blk_far ?_ NB262_271.out _; (with_reducible repeat (first | refine blk_drewN ?_ _ | refine blk_drew ?_ | refine blk_alloc ?_ _)); exact BK262.out) hb); have n6_ := Aside0.mk (IsS54.below (show IsS54 w ((((w45.setCell ⟨gb271, 0, none⟩ (.int .i64 0)).setCell ⟨gb271, 1, none⟩ (.int .i64 0)).setCell ⟨gb271, 2, none⟩ (.int .i64 t247)).setCell ⟨gb271, 3, none⟩ (.int .i64 t248)) g246 t244 t270 from by repeat (first | (with_reducible first | exact HI246.out | apply IsS54.alloc | apply IsS54.drewN | apply IsS54.drew | apply IsS54.set_1 | refine IsS54.far ?_ NB246_254.out _ | refine IsS54.far ?_ NB246_262.out _ | refine IsS54.far ?_ NB246_271.out _) | exact HI246.out)) hb); have n7_ := Aside0.mk (blk_below (g := gb271) (o := .cells #[.int .i64 0, .int .i64 0, .int .i64 t247, .int .i64 t248] 33 (0, 0)) (by (with_reducible repeat (first | refine blk_drewN ?_ _ | refine blk_drew ?_ | refine blk_alloc ?_ _)); refine blk_put (cs := #[.int .i64 0, .int .i64 0, .int .i64 t247, .int .i64 0]) ?_ 3 _ rfl; (with_reducible repeat (first | refine blk_drewN ?_ _ | refine blk_drew ?_ | refine blk_alloc ?_ _)); refine blk_put (cs := #[.int .i64 0, .int .i64 0, .int .i64 0, .int .i64 0]) ?_ 2 _ rfl; (with_reducible repeat (first | refine blk_drewN ?_ _ | refine blk_drew ?_ | refine blk_alloc ?_ _)); refine blk_put (cs := #[.int .i64 0, .int .i64 0, .int .i64 0, .int .i64 0]) ?_ 1 _ rfl; (with_reducible repeat (first | refine blk_drewN ?_ _ | refine blk_drew ?_ | refine blk_alloc ?_ _)); refine blk_put (cs := #[.int .i64 0, .int .i64 0, .int .i64 0, .int .i64 0]) ?_ 0 _ rfl; (with_reducible repeat (first | refine blk_drewN ?_ _ | refine blk_drew ?_ | refine blk_alloc ?_ _)); exact BK271.out) hb); have n8_ := Aside0.mk (below_step q26_ hb); clear HO_255003; clear HO_263003; clear HO267; clear BK254; clear BK262; clear HI246; clear BK271; clear HB; have HO_255003 := n0_; have HO_263003 := n1_; have HO267 := n2_; have HO277 := n3_; have BK254 := n4_; have BK262 := n5_; have HI246 := n6_; have BK271 := n7_; have HB := n8_; clear n0_ n1_ n2_ n3_ n4_ n5_ n6_ n7_ n8_; (try clear hb); (try clear hb2); (try clear hk); (try clear hi); (try clear ho0)) | ((with_reducible refine gate_dst (N := 13) rfl ?_); (try (refine gate_guard (by rfl) ?_; dsimp only)); refine box_event ?hg (N := 13) ?hd (cs := #[.int .i64 0, .int .i64 0, .int .i64 0, .slice none 0 0]) (t := 35) ?hr ?_; (case hd => rfl); (case hg => rfl); (case hr => first | (go_simp; done) | (go_simp; rfl)); intro gb279 hg w57 hbox hb; have n0_ := Aside0.mk (Kd.R_below q126_ hb); have n1_ := Aside0.mk (Kd.R_below q127_ hb); have n2_ := Aside0.mk (Kd.R_below q135_ hb); have n3_ := Aside0.mk (Kd.R_below (by (with_reducible repeat (first | apply Kd.R_alloc | apply Kd.R_drewN | apply Kd.R_drew)); exact HO277.out) hb); have n4_ := Aside0.mk (blk_below (g := gb254) (o := .cells #[.int .i64 t247, .int .i64 t248, .int .i64 t249, .slice Ao40 x255003_1.length co40] 35 (0, 0)) q119_ hb); have n5_ := Aside0.mk (blk_below (g := gb262) (o := .cells #[.int .i64 t256, .int .i64 t257, .int .i64 t258, u263003] 35 (0, 0)) q120_ hb); have n6_ := Aside0.mk (IsS54.below q27_ hb); have n7_ := Aside0.mk (blk_below (g := gb271) (o := .cells #[.int .i64 0, .int .i64 0, .int .i64 t247, .int .i64 t248] 33 (0, 0)) q121_ hb); have n8_ := Aside0.mk (below_step q26_ hb); have n9_ := Aside0.mk (hbox); have n10_ := Aside0.mk ((by rw [hg]; exact (below_size q26_) : w.heap.size ≤ gb279)); have n11_ := Aside0.mk ((by rw [hg]; exact (below_size q26_) : w.heap.size ≤ gb279)); have n12_ := Aside0.mk ((q19_ : gb254 ≠ gb279)); have n13_ := Aside0.mk ((q20_ : gb279 ≠ gb254)); have n14_ := Aside0.mk ((q39_ : gb262 ≠ gb279)); have n15_ := Aside0.mk ((q40_ : gb279 ≠ gb262)); have n16_ := Aside0.mk ((by rw [hg]; exact Nat.ne_of_lt (blk_lt (g := gb271) (o := .cells #[.int .i64 0, .int .i64 0, .int .i64 t247, .int .i64 t248] 33 (0, 0)) q121_) : gb271 ≠ gb279)); have n17_ := Aside0.mk ((by rw [hg]; exact Nat.ne_of_gt (blk_lt (g := gb271) (o := .cells #[.int .i64 0, .int .i64 0, .int .i64 t247, .int .i64 t248] 33 (0, 0)) q121_) : gb279 ≠ gb271)); have n18_ := Aside0.mk ((by rw [hg]; exact Nat.ne_of_lt (IsS54.lt (show IsS54 w _ g246 t244 t270 from by repeat (first | (with_reducible first | exact HI246.out | apply IsS54.alloc | apply IsS54.drewN | apply IsS54.drew | apply IsS54.set_1 | refine IsS54.far ?_ NB246_254.out _ | refine IsS54.far ?_ NB246_262.out _ | refine IsS54.far ?_ NB246_271.out _) | exact HI246.out))) : g246 ≠ gb279)); have n19_ := Aside0.mk ((by rw [hg]; exact Nat.ne_of_gt (IsS54.lt (show IsS54 w _ g246 t244 t270 from by repeat (first | (with_reducible first | exact HI246.out | apply IsS54.alloc | apply IsS54.drewN | apply IsS54.drew | apply IsS54.set_1 | refine IsS54.far ?_ NB246_254.out _ | refine IsS54.far ?_ NB246_262.out _ | refine IsS54.far ?_ NB246_271.out _) | exact HI246.out))) : gb279 ≠ g246)); clear HO_255003; clear HO_263003; clear HO267; clear HO277; clear BK254; clear BK262; clear HI246; clear BK271; clear HB; have HO_255003 := n0_; have HO_263003 := n1_; have HO267 := n2_; have HO277 := n3_; have BK254 := n4_; have BK262 := n5_; have HI246 := n6_; have BK271 := n7_; have HB := n8_; have BK279 := n9_; have GW279 := n10_; have GE279 := n11_; have NB254_279 := n12_; have NB279_254 := n13_; have NB262_279 := n14_; have NB279_262 := n15_; have NB271_279 := n16_; have NB279_271 := n17_; have NB246_279 := n18_; have NB279_246 := n19_; clear n0_ n1_ n2_ n3_ n4_ n5_ n6_ n7_ n8_ n9_ n10_ n11_ n12_ n13_ n14_ n15_ n16_ n17_ n18_ n19_; clear hb hbox hg; have hnb58 := NB279_254.out; have hnc58 := NB254_279.out; have hnb59 := NB279_262.out; have hnc59 := NB262_279.out; have hnb60 := NB279_271.out; have hnc60 := NB271_279.out; have hnb61 := NB279_246.out; have hnc61 := NB246_279.out; have hcz62_0 : w57.cell? ⟨gb279, 0, none⟩ = some (.int .i64 0) := (blk_cell BK279.out 0).trans rfl; have hcz62_1 : w57.cell? ⟨gb279, 1, none⟩ = some (.int .i64 0) := (blk_cell BK279.out 1).trans rfl; have hcz62_2 : w57.cell? ⟨gb279, 2, none⟩ = some (.int .i64 0) := (blk_cell BK279.out 2).trans rfl; have hcz62_3 : w57.cell? ⟨gb279, 3, none⟩ = some (.slice none 0 0) := (blk_cell BK279.out 3).trans rfl; have hfz62_0 := blk_frozen BK279.out 0; have hfz62_1 := blk_frozen BK279.out 1; have hfz62_2 := blk_frozen BK279.out 2; have hfz62_3 := blk_frozen BK279.out 3; obtain ⟨Ao63, co63, eo63⟩ := Kd.R_slice HO277.out; subst eo63; have hnb64 := NB262_246.out; have hnc64 := NB246_262.out; have hcz65_0 : w57.cell? ⟨gb262, 0, none⟩ = some (.int .i64 t256) := (blk_cell BK262.out 0).trans rfl; have hcz65_1 : w57.cell? ⟨gb262, 1, none⟩ = some (.int .i64 t257) := (blk_cell BK262.out 1).trans rfl; have hcz65_2 : w57.cell? ⟨gb262, 2, none⟩ = some (.int .i64 t258) := (blk_cell BK262.out 2).trans rfl; have hcz65_3 : w57.cell? ⟨gb262, 3, none⟩ = some (u263003) := (blk_cell BK262.out 3).trans rfl; have hfz65_0 := blk_frozen BK262.out 0; have hfz65_1 := blk_frozen BK262.out 1; have hfz65_2 := blk_frozen BK262.out 2; have hfz65_3 := blk_frozen BK262.out 3; have hcz66_0 : w57.cell? ⟨gb271, 0, none⟩ = some (.int .i64 0) := (blk_cell BK271.out 0).trans rfl; have hcz66_1 : w57.cell? ⟨gb271, 1, none⟩ = some (.int .i64 0) := (blk_cell BK271.out 1).trans rfl; have hcz66_2 : w57.cell? ⟨gb271, 2, none⟩ = some (.int .i64 t247) := (blk_cell BK271.out 2).trans rfl; have hcz66_3 : w57.cell? ⟨gb271, 3, none⟩ = some (.int .i64 t248) := (blk_cell BK271.out 3).trans rfl; have hfz66_0 := blk_frozen BK271.out 0; have hfz66_1 := blk_frozen BK271.out 1; have hfz66_2 := blk_frozen BK271.out 2; have hfz66_3 := blk_frozen BK271.out 3; obtain ⟨Ao67, co67, eo67⟩ := Kd.R_slice HO_263003.out; subst eo67) | ((with_reducible refine gate_callee (f := 20) rfl ?_); refine goesL_ (some 84) rfl rfl Try.func20 (by kernel_rfl) rfl #[.agg #[.int .i64 t256, .int .i64 t257, .int .i64 t258, .slice Ao67 x263003_1.length co67], .agg #[.int .i64 2, .int .i64 0], .int .i64 3, .int .i64 3, .slice Ao55 t265.length co55, .int .i64 t269, .int .i64 255, .agg #[.int .i64 0, .int .i64 0, .int .i64 t247, .int .i64 t248]] rfl q93_ ?_; (with_reducible refine (convolve_Tile.calls k1 t256 t257 t258 _ _ x263003_1 2 0 3 3 _ _ t265 t269 255 0 0 t247 t248 t280 t281 t282 t283 t286 _ ?side1 ?side2 ?side3 ?side4 A35.out).mono ?_); (case side1 => refine (Kd.R_reads' (e := 3) (base := w.heap.size) (ok := fun k_ => ((some k_ ≠ (.slice Ao55 t265.length co55 : Value).ownBlock ∧ some k_ ≠ (.slice Ao40 x255003_1.length co40 : Value).ownBlock) ∧ some k_ ≠ (.slice Ao63 t275.length co63 : Value).ownBlock)) (n := x263003_1.length) (c := co67) ?_).2.2; exact q10_); (case side2 => exact (Kd.R_reads' HO_263003.out).2.1); (case side3 => refine (Kd.R_reads' (e := 3) (base := w.heap.size) (ok := fun k_ => ((some k_ ≠ (.slice Ao40 x255003_1.length co40 : Value).ownBlock ∧ some k_ ≠ (.slice Ao67 x263003_1.length co67 : Value).ownBlock) ∧ some k_ ≠ (.slice Ao63 t275.length co63 : Value).ownBlock)) (n := t265.length) (c := co55) ?_).2.2; exact q12_); (case side4 => exact (Kd.R_reads' HO267.out).2.1); rintro e w68 ⟨v284, rfl, ho0, hb⟩; refine ⟨_, rfl, ?_⟩; have n0_ := Aside0.mk (Kd.R_elder' (by (with_reducible repeat (first | apply Kd.R_alloc | apply Kd.R_drewN | apply Kd.R_drew)); exact (Kd.R_mono (Kd.R_far (p := ⟨gb279, 3, none⟩) (Kd.R_far (p := ⟨gb279, 2, none⟩) (Kd.R_far (p := ⟨gb279, 1, none⟩) (Kd.R_far (p := ⟨gb279, 0, none⟩) (Kd.R_types HO_255003.out BK279.out (by decide)) (fun _ hk => hk.2) (.int .i64 t272)) (fun _ hk => hk.2) (.int .i64 t273)) (fun _ hk => hk.2) (.int .i64 t274)) (fun _ hk => hk.2) (.slice Ao63 t275.length co63)) (fun _ h_ => h_.1))) (Kd.R_base ho0) hb); have n1_ := Aside0.mk (Kd.R_elder' q10_ (Kd.R_base ho0) hb); have n2_ := Aside0.mk (Kd.R_elder' q12_ (Kd.R_base ho0) hb); have n3_ := Aside0.mk (Kd.R_elder' (by (with_reducible repeat (first | apply Kd.R_alloc | apply Kd.R_drewN | apply Kd.R_drew)); exact (Kd.R_mono (Kd.R_far (p := ⟨gb279, 3, none⟩) (Kd.R_far (p := ⟨gb279, 2, none⟩) (Kd.R_far (p := ⟨gb279, 1, none⟩) (Kd.R_far (p := ⟨gb279, 0, none⟩) (Kd.R_types HO277.out BK279.out (by decide)) (fun _ hk => hk.2) (.int .i64 t272)) (fun _ hk => hk.2) (.int .i64 t273)) (fun _ hk => hk.2) (.int .i64 t274)) (fun _ hk => hk.2) (.slice Ao63 t275.length co63)) (fun _ h_ => h_.1))) (Kd.R_base ho0) hb); have n4_ := Aside0.mk (Kd.R_lower (Kd.R_new' (Kd.R_new' (Kd.R_new' (Kd.R_new' ho0 (Kd.R_lt (by (with_reducible repeat (first | apply Kd.R_alloc | apply Kd.R_drewN | apply Kd.R_drew)); exact (Kd.R_mono (Kd.R_far (p := ⟨gb279, 3, none⟩) (Kd.R_far (p := ⟨gb279, 2, none⟩) (Kd.R_far (p := ⟨gb279, 1, none⟩) (Kd.R_far (p := ⟨gb279, 0, none⟩) (Kd.R_types HO_255003.out BK279.out (by decide)) (fun _ hk => hk.2) (.int .i64 t272)) (fun _ hk => hk.2) (.int .i64 t273)) (fun _ hk => hk.2) (.int .i64 t274)) (fun _ hk => hk.2) (.slice Ao63 t275.length co63)) (fun _ h_ => h_.1))))) (Kd.R_lt q10_)) (Kd.R_lt q12_)) (Kd.R_lt (by (with_reducible repeat (first | apply Kd.R_alloc | apply Kd.R_drewN | apply Kd.R_drew)); exact (Kd.R_mono (Kd.R_far (p := ⟨gb279, 3, none⟩) (Kd.R_far (p := ⟨gb279, 2, none⟩) (Kd.R_far (p := ⟨gb279, 1, none⟩) (Kd.R_far (p := ⟨gb279, 0, none⟩) (Kd.R_types HO277.out BK279.out (by decide)) (fun _ hk => hk.2) (.int .i64 t272)) (fun _ hk => hk.2) (.int .i64 t273)) (fun _ hk => hk.2) (.int .i64 t274)) (fun _ hk => hk.2) (.slice Ao63 t275.length co63)) (fun _ h_ => h_.1))))) (below_size q16_)); have n5_ := Aside0.mk (blk_below (g := gb254) (o := .cells #[.int .i64 t247, .int .i64 t248, .int .i64 t249, .slice Ao40 x255003_1.length co40] 35 (0, 0)) (by (with_reducible repeat (first | refine blk_drewN ?_ _ | refine blk_drew ?_ | refine blk_alloc ?_ _)); refine blk_far ?_ NB254_279.out _; (with_reducible repeat (first | refine blk_drewN ?_ _ | refine blk_drew ?_ | refine blk_alloc ?_ _)); refine blk_far ?_ NB254_279.out _; (with_reducible repeat (first | refine blk_drewN ?_ _ | refine blk_drew ?_ | refine blk_alloc ?_ _)); refine blk_far ?_ NB254_279.out _; (with_reducible repeat (first | refine blk_drewN ?_ _ | refine blk_drew ?_ | refine blk_alloc ?_ _)); refine blk_far ?_ NB254_279.out _; (with_reducible repeat (first | refine blk_drewN ?_ _ | refine blk_drew ?_ | refine blk_alloc ?_ _)); exact BK254.out) hb); have n6_ := Aside0.mk (blk_below (g := gb262) (o := .cells #[.int .i64 t256, .int .i64 t257, .int .i64 t258, .slice Ao67 x263003_1.length co67] 35 (0, 0)) (by (with_reducible repeat (first | refine blk_drewN ?_ _ | refine blk_drew ?_ | refine blk_alloc ?_ _)); refine blk_far ?_ NB262_279.out _; (with_reducible repeat (first | refine blk_drewN ?_ _ | refine blk_drew ?_ | refine blk_alloc ?_ _)); refine blk_far ?_ NB262_279.out _; (with_reducible repeat (first | refine blk_drewN ?_ _ | refine blk_drew ?_ | refine blk_alloc ?_ _)); refine blk_far ?_ NB262_279.out _; (with_reducible repeat (first | refine blk_drewN ?_ _ | refine blk_drew ?_ | refine blk_alloc ?_ _)); refine blk_far ?_ NB262_279.out _; (with_reducible repeat (first | refine blk_drewN ?_ _ | refine blk_drew ?_ | refine blk_alloc ?_ _)); exact BK262.out) hb); have n7_ := Aside0.mk (IsS54.below (show IsS54 w ((((w57.setCell ⟨gb279, 0, none⟩ (.int .i64 t272)).setCell ⟨gb279, 1, none⟩ (.int .i64 t273)).setCell ⟨gb279, 2, none⟩ (.int .i64 t274)).setCell ⟨gb279, 3, none⟩ (.slice Ao63 t275.length co63)) g246 t244 t270 from by repeat (first | (with_reducible first | exact HI246.out | apply IsS54.alloc | apply IsS54.drewN | apply IsS54.drew | apply IsS54.set_1 | refine IsS54.far ?_ NB246_254.out _ | refine IsS54.far ?_ NB246_262.out _ | refine IsS54.far ?_ NB246_271.out _ | refine IsS54.far ?_ NB246_279.out _) | exact HI246.out)) hb); have n8_ := Aside0.mk (blk_below (g := gb271) (o := .cells #[.int .i64 0, .int .i64 0, .int .i64 t247, .int .i64 t248] 33 (0, 0)) (by (with_reducible repeat (first | refine blk_drewN ?_ _ | refine blk_drew ?_ | refine blk_alloc ?_ _)); refine blk_far ?_ NB271_279.out _; (with_reducible repeat (first | refine blk_drewN ?_ _ | refine blk_drew ?_ | refine blk_alloc ?_ _)); refine blk_far ?_ NB271_279.out _; (with_reducible repeat (first | refine blk_drewN ?_ _ | refine blk_drew ?_ | refine blk_alloc ?_ _)); refine blk_far ?_ NB271_279.out _; (with_reducible repeat (first | refine blk_drewN ?_ _ | refine blk_drew ?_ | refine blk_alloc ?_ _)); refine blk_far ?_ NB271_279.out _; (with_reducible repeat (first | refine blk_drewN ?_ _ | refine blk_drew ?_ | refine blk_alloc ?_ _)); exact BK271.out) hb); have n9_ := Aside0.mk (blk_below (g := gb279) (o := .cells #[.int .i64 t272, .int .i64 t273, .int .i64 t274, .slice Ao63 t275.length co63] 35 (0, 0)) (by (with_reducible repeat (first | refine blk_drewN ?_ _ | refine blk_drew ?_ | refine blk_alloc ?_ _)); refine blk_put (cs := #[.int .i64 t272, .int .i64 t273, .int .i64 t274, .slice none 0 0]) ?_ 3 _ rfl; (with_reducible repeat (first | refine blk_drewN ?_ _ | refine blk_drew ?_ | refine blk_alloc ?_ _)); refine blk_put (cs := #[.int .i64 t272, .int .i64 t273, .int .i64 0, .slice none 0 0]) ?_ 2 _ rfl; (with_reducible repeat (first | refine blk_drewN ?_ _ | refine blk_drew ?_ | refine blk_alloc ?_ _)); refine blk_put (cs := #[.int .i64 t272, .int .i64 0, .int .i64 0, .slice none 0 0]) ?_ 1 _ rfl; (with_reducible repeat (first | refine blk_drewN ?_ _ | refine blk_drew ?_ | refine blk_alloc ?_ _)); refine blk_put (cs := #[.int .i64 0, .int .i64 0, .int .i64 0, .slice none 0 0]) ?_ 0 _ rfl; (with_reducible repeat (first | refine blk_drewN ?_ _ | refine blk_drew ?_ | refine blk_alloc ?_ _)); exact BK279.out) hb); have n10_ := Aside0.mk (below_step q16_ hb); clear HO_255003; clear HO_263003; clear HO267; clear HO277; clear BK254; clear BK262; clear HI246; clear BK271; clear BK279; clear HB; have HO_255003 := n0_; have HO_263003 := n1_; have HO267 := n2_; have HO277 := n3_; have HO285 := n4_; have BK254 := n5_; have BK262 := n6_; have HI246 := n7_; have BK271 := n8_; have BK279 := n9_; have HB := n10_; clear n0_ n1_ n2_ n3_ n4_ n5_ n6_ n7_ n8_ n9_ n10_; (try clear hb); (try clear hb2); (try clear hk); (try clear hi); (try clear ho0)) | ((with_reducible refine gate_dst (N := 15) rfl ?_); (try (refine gate_guard (by rfl) ?_; dsimp only)); refine box_event ?hg (N := 15) ?hd (cs := #[.int .i64 0, .int .i64 0, .int .i64 0, .slice none 0 0]) (t := 35) ?hr ?_; (case hd => rfl); (case hg => rfl); (case hr => first | (go_simp; done) | (go_simp; rfl)); intro gb287 hg w69 hbox hb; have n0_ := Aside0.mk (Kd.R_below q126_ hb); have n1_ := Aside0.mk (Kd.R_below q127_ hb); have n2_ := Aside0.mk (Kd.R_below q135_ hb); have n3_ := Aside0.mk (Kd.R_below (by (with_reducible repeat (first | apply Kd.R_alloc | apply Kd.R_drewN | apply Kd.R_drew)); exact HO277.out) hb); have n4_ := Aside0.mk (Kd.R_below (by (with_reducible repeat (first | apply Kd.R_alloc | apply Kd.R_drewN | apply Kd.R_drew)); exact HO285.out) hb); have n5_ := Aside0.mk (blk_below (g := gb254) (o := .cells #[.int .i64 t247, .int .i64 t248, .int .i64 t249, .slice Ao40 x255003_1.length co40] 35 (0, 0)) q119_ hb); have n6_ := Aside0.mk (blk_below (g := gb262) (o := .cells #[.int .i64 t256, .int .i64 t257, .int .i64 t258, .slice Ao67 x263003_1.length co67] 35 (0, 0)) q120_ hb); have n7_ := Aside0.mk (IsS54.below (by repeat (first | (with_reducible first | exact HI246.out | apply IsS54.alloc | apply IsS54.drewN | apply IsS54.drew | apply IsS54.set_1 | refine IsS54.far ?_ NB246_254.out _ | refine IsS54.far ?_ NB246_262.out _ | refine IsS54.far ?_ NB246_271.out _ | refine IsS54.far ?_ NB246_279.out _) | exact HI246.out)) hb); have n8_ := Aside0.mk (blk_below (g := gb271) (o := .cells #[.int .i64 0, .int .i64 0, .int .i64 t247, .int .i64 t248] 33 (0, 0)) q121_ hb); have n9_ := Aside0.mk (blk_below (g := gb279) (o := .cells #[.int .i64 t272, .int .i64 t273, .int .i64 t274, .slice Ao63 t275.length co63] 35 (0, 0)) q122_ hb); have n10_ := Aside0.mk (below_step q16_ hb); have n11_ := Aside0.mk (hbox); have n12_ := Aside0.mk ((by rw [hg]; exact (below_size q16_) : w.heap.size ≤ gb287)); have n13_ := Aside0.mk ((by rw [hg]; exact (below_size q16_) : w.heap.size ≤ gb287)); have n14_ := Aside0.mk ((q19_ : gb254 ≠ gb287)); have n15_ := Aside0.mk ((q20_ : gb287 ≠ gb254)); have n16_ := Aside0.mk ((by rw [hg]; exact Nat.ne_of_lt (blk_lt (g := gb262) (o := .cells #[.int .i64 t256, .int .i64 t257, .int .i64 t258, .slice Ao67 x263003_1.length co67] 35 (0, 0)) q120_) : gb262 ≠ gb287)); have n17_ := Aside0.mk ((by rw [hg]; exact Nat.ne_of_gt (blk_lt (g := gb262) (o := .cells #[.int .i64 t256, .int .i64 t257, .int .i64 t258, .slice Ao67 x263003_1.length co67] 35 (0, 0)) q120_) : gb287 ≠ gb262)); have n18_ := Aside0.mk ((by rw [hg]; exact Nat.ne_of_lt (blk_lt (g := gb271) (o := .cells #[.int .i64 0, .int .i64 0, .int .i64 t247, .int .i64 t248] 33 (0, 0)) q121_) : gb271 ≠ gb287)); have n19_ := Aside0.mk ((by rw [hg]; exact Nat.ne_of_gt (blk_lt (g := gb271) (o := .cells #[.int .i64 0, .int .i64 0, .int .i64 t247, .int .i64 t248] 33 (0, 0)) q121_) : gb287 ≠ gb271)); have n20_ := Aside0.mk ((by rw [hg]; exact Nat.ne_of_lt (blk_lt (g := gb279) (o := .cells #[.int .i64 t272, .int .i64 t273, .int .i64 t274, .slice Ao63 t275.length co63] 35 (0, 0)) q122_) : gb279 ≠ gb287)); have n21_ := Aside0.mk ((by rw [hg]; exact Nat.ne_of_gt (blk_lt (g := gb279) (o := .cells #[.int .i64 t272, .int .i64 t273, .int .i64 t274, .slice Ao63 t275.length co63] 35 (0, 0)) q122_) : gb287 ≠ gb279)); have n22_ := Aside0.mk ((by rw [hg]; exact Nat.ne_of_lt (IsS54.lt (show IsS54 w _ g246 t244 t270 from by repeat (first | (with_reducible first | exact HI246.out | apply IsS54.alloc | apply IsS54.drewN | apply IsS54.drew | apply IsS54.set_1 | refine IsS54.far ?_ NB246_254.out _ | refine IsS54.far ?_ NB246_262.out _ | refine IsS54.far ?_ NB246_271.out _ | refine IsS54.far ?_ NB246_279.out _) | exact HI246.out))) : g246 ≠ gb287)); have n23_ := Aside0.mk ((by rw [hg]; exact Nat.ne_of_gt (IsS54.lt (show IsS54 w _ g246 t244 t270 from by repeat (first | (with_reducible first | exact HI246.out | apply IsS54.alloc | apply IsS54.drewN | apply IsS54.drew | apply IsS54.set_1 | refine IsS54.far ?_ NB246_254.out _ | refine IsS54.far ?_ NB246_262.out _ | refine IsS54.far ?_ NB246_271.out _ | refine IsS54.far ?_ NB246_279.out _) | exact HI246.out))) : gb287 ≠ g246)); clear HO_255003; clear HO_263003; clear HO267; clear HO277; clear HO285; clear BK254; clear BK262; clear HI246; clear BK271; clear BK279; clear HB; have HO_255003 := n0_; have HO_263003 := n1_; have HO267 := n2_; have HO277 := n3_; have HO285 := n4_; have BK254 := n5_; have BK262 := n6_; have HI246 := n7_; have BK271 := n8_; have BK279 := n9_; have HB := n10_; have BK287 := n11_; have GW287 := n12_; have GE287 := n13_; have NB254_287 := n14_; have NB287_254 := n15_; have NB262_287 := n16_; have NB287_262 := n17_; have NB271_287 := n18_; have NB287_271 := n19_; have NB279_287 := n20_; have NB287_279 := n21_; have NB246_287 := n22_; have NB287_246 := n23_; clear n0_ n1_ n2_ n3_ n4_ n5_ n6_ n7_ n8_ n9_ n10_ n11_ n12_ n13_ n14_ n15_ n16_ n17_ n18_ n19_ n20_ n21_ n22_ n23_; clear hb hbox hg; have hnb70 := NB287_254.out; have hnc70 := NB254_287.out; have hnb71 := NB287_262.out; have hnc71 := NB262_287.out; have hnb72 := NB287_271.out; have hnc72 := NB271_287.out; have hnb73 := NB287_279.out; have hnc73 := NB279_287.out; have hnb74 := NB287_246.out; have hnc74 := NB246_287.out; have hcz75_0 : w69.cell? ⟨gb287, 0, none⟩ = some (.int .i64 0) := (blk_cell BK287.out 0).trans rfl; have hcz75_1 : w69.cell? ⟨gb287, 1, none⟩ = some (.int .i64 0) := (blk_cell BK287.out 1).trans rfl; have hcz75_2 : w69.cell? ⟨gb287, 2, none⟩ = some (.int .i64 0) := (blk_cell BK287.out 2).trans rfl; have hcz75_3 : w69.cell? ⟨gb287, 3, none⟩ = some (.slice none 0 0) := (blk_cell BK287.out 3).trans rfl; have hfz75_0 := blk_frozen BK287.out 0; have hfz75_1 := blk_frozen BK287.out 1; have hfz75_2 := blk_frozen BK287.out 2; have hfz75_3 := blk_frozen BK287.out 3; obtain ⟨Ao76, co76, eo76⟩ := Kd.R_slice HO285.out; subst eo76))
        (try simp only [Act.put, List.setIfInBounds_toArray, List.set_cons_zero, List.set_cons_succ])
        go_cut [110] (fun v110 wc => ∃ (kq : Nat) (x110_35 : Bool), v110 = .bool x110_35 ∧ Aside0 (tilefarmlaw9_ConvolveMoves.j1 kq t255 x110_35 t247 t248 t249 x255003_1 t272 t273 t274 t275 t280 t281 t282 t283 = some r) ∧ Aside0 (kq ≤ k1) ∧ Aside0 (Kd.R (Kd.int .i64) 3 wc w.heap.size (fun k_ => some k_ ≠ ((.slice Ao67 x263003_1.length co67) : Value).ownBlock ∧ some k_ ≠ ((.slice Ao63 t275.length co63) : Value).ownBlock ∧ some k_ ≠ ((.slice Ao76 t283.length co76) : Value).ownBlock) (.slice Ao40 x255003_1.length co40) x255003_1) ∧ Aside0 (Kd.R (Kd.int .i64) 3 wc w.heap.size (fun k_ => some k_ ≠ ((.slice Ao40 x255003_1.length co40) : Value).ownBlock ∧ some k_ ≠ ((.slice Ao63 t275.length co63) : Value).ownBlock ∧ some k_ ≠ ((.slice Ao76 t283.length co76) : Value).ownBlock) (.slice Ao67 x263003_1.length co67) x263003_1) ∧ Aside0 (Kd.R (Kd.int .i64) 3 wc w.heap.size (fun k_ => some k_ ≠ ((.slice Ao40 x255003_1.length co40) : Value).ownBlock ∧ some k_ ≠ ((.slice Ao67 x263003_1.length co67) : Value).ownBlock ∧ some k_ ≠ ((.slice Ao76 t283.length co76) : Value).ownBlock) (.slice Ao63 t275.length co63) t275) ∧ Aside0 (Kd.R (Kd.int .i64) 3 wc w.heap.size (fun k_ => some k_ ≠ ((.slice Ao40 x255003_1.length co40) : Value).ownBlock ∧ some k_ ≠ ((.slice Ao67 x263003_1.length co67) : Value).ownBlock ∧ some k_ ≠ ((.slice Ao63 t275.length co63) : Value).ownBlock) (.slice Ao76 t283.length co76) t283) ∧ Aside0 (wc.heap[gb254]? = some (.cells #[.int .i64 t247, .int .i64 t248, .int .i64 t249, (.slice Ao40 x255003_1.length co40)] 35 (0, 0))) ∧ Aside0 (wc.heap[gb262]? = some (.cells #[.int .i64 t256, .int .i64 t257, .int .i64 t258, (.slice Ao67 x263003_1.length co67)] 35 (0, 0))) ∧ Aside0 (wc.heap[gb271]? = some (.cells #[.int .i64 0, .int .i64 0, .int .i64 t247, .int .i64 t248] 33 (0, 0))) ∧ Aside0 (wc.heap[gb279]? = some (.cells #[.int .i64 t272, .int .i64 t273, .int .i64 t274, (.slice Ao63 t275.length co63)] 35 (0, 0))) ∧ Aside0 (wc.heap[gb287]? = some (.cells #[.int .i64 t280, .int .i64 t281, .int .i64 t282, (.slice Ao76 t283.length co76)] 35 (0, 0))) ∧ Aside0 (Below w.heap.size w wc))
        case first =>
          have H := HC36.out
          clear HC36
          by_cases c77 : t278 = 0
          · rw [if_pos c77] at H
            have c77b0 : (t278 == 0) = true := beq_iff_eq.mpr c77
            have c77b1 : (t278 != 0) = false := bne_eq_false_iff_eq.mpr c77
            clear c77
            (first | rw [c77b0] | (simp only [i64_w, i32_w]; rw [c77b0]) | skip)
            by_cases c78 : t286 = 0
            · rw [if_pos c78] at H
              have c78b0 : (t286 == 0) = true := beq_iff_eq.mpr c78
              have c78b1 : (t286 != 0) = false := bne_eq_false_iff_eq.mpr c78
              clear c78
              by_cases c79 : (t275.length : Int) = (x255003_1.length : Int)
              · rw [if_pos c79] at H
                have c79b0 : ((t275.length : Int) == (x255003_1.length : Int)) = true := beq_iff_eq.mpr c79
                have c79b1 : ((t275.length : Int) != (x255003_1.length : Int)) = false := bne_eq_false_iff_eq.mpr c79
                have c79b2 : (t275.length == x255003_1.length) = true := by first | simpa using c79 | (simp at c79 ⊢; omega)
                clear c79
                have H' := Aside0.mk H
                clear H
                have hnb80 := NB279_254.out
                have hnc80 := NB254_279.out
                have hnb81 := NB279_262.out
                have hnc81 := NB262_279.out
                have hnb82 := NB279_271.out
                have hnc82 := NB271_279.out
                have hnb83 := NB279_287.out
                have hnc83 := NB287_279.out
                have hnb84 := NB279_246.out
                have hnc84 := NB246_279.out
                have hcz85_0 : w69.cell? ⟨gb279, 0, none⟩ = some (.int .i64 t272) := (blk_cell BK279.out 0).trans rfl
                have hcz85_1 : w69.cell? ⟨gb279, 1, none⟩ = some (.int .i64 t273) := (blk_cell BK279.out 1).trans rfl
                have hcz85_2 : w69.cell? ⟨gb279, 2, none⟩ = some (.int .i64 t274) := (blk_cell BK279.out 2).trans rfl
                have hcz85_3 : w69.cell? ⟨gb279, 3, none⟩ = some (.slice Ao63 t275.length co63) := (blk_cell BK279.out 3).trans rfl
                have hfz85_0 := blk_frozen BK279.out 0
                have hfz85_1 := blk_frozen BK279.out 1
                have hfz85_2 := blk_frozen BK279.out 2
                have hfz85_3 := blk_frozen BK279.out 3
                have hnb86 := NB254_262.out
                have hnc86 := NB262_254.out
                have hnb87 := NB254_271.out
                have hnc87 := NB271_254.out
                have hnb88 := NB254_287.out
                have hnc88 := NB287_254.out
                have hnb89 := NB254_246.out
                have hnc89 := NB246_254.out
                have hcz90_0 : w69.cell? ⟨gb254, 0, none⟩ = some (.int .i64 t247) := (blk_cell BK254.out 0).trans rfl
                have hcz90_1 : w69.cell? ⟨gb254, 1, none⟩ = some (.int .i64 t248) := (blk_cell BK254.out 1).trans rfl
                have hcz90_2 : w69.cell? ⟨gb254, 2, none⟩ = some (.int .i64 t249) := (blk_cell BK254.out 2).trans rfl
                have hcz90_3 : w69.cell? ⟨gb254, 3, none⟩ = some (.slice Ao40 x255003_1.length co40) := (blk_cell BK254.out 3).trans rfl
                have hfz90_0 := blk_frozen BK254.out 0
                have hfz90_1 := blk_frozen BK254.out 1
                have hfz90_2 := blk_frozen BK254.out 2
                have hfz90_3 := blk_frozen BK254.out 3
                have hnb91 := NB287_262.out
                have hnc91 := NB262_287.out
                have hnb92 := NB287_271.out
                have hnc92 := NB271_287.out
                have hnb93 := NB287_246.out
                have hnc93 := NB246_287.out
                have hcz94_0 : w69.cell? ⟨gb287, 0, none⟩ = some (.int .i64 0) := (blk_cell BK287.out 0).trans rfl
                have hcz94_1 : w69.cell? ⟨gb287, 1, none⟩ = some (.int .i64 0) := (blk_cell BK287.out 1).trans rfl
                have hcz94_2 : w69.cell? ⟨gb287, 2, none⟩ = some (.int .i64 0) := (blk_cell BK287.out 2).trans rfl
                have hcz94_3 : w69.cell? ⟨gb287, 3, none⟩ = some (.slice none 0 0) := (blk_cell BK287.out 3).trans rfl
                have hfz94_0 := blk_frozen BK287.out 0
                have hfz94_1 := blk_frozen BK287.out 1
                have hfz94_2 := blk_frozen BK287.out 2
                have hfz94_3 := blk_frozen BK287.out 3
                go_wp2
                go_meet
                case rel => exact ⟨_, (((t283.length : Int) != (x255003_1.length : Int))), q146_, q144_, ⟨q143_⟩, ⟨q6_⟩, ⟨q7_⟩, ⟨q8_⟩, ⟨q9_⟩, ⟨q2_⟩, ⟨q3_⟩, ⟨q4_⟩, ⟨q5_⟩, ⟨q0_⟩, ⟨q15_⟩⟩
              · rw [if_neg c79] at H
                have c79b0 : ((t275.length : Int) == (x255003_1.length : Int)) = false := beq_eq_false_iff_ne.mpr c79
                have c79b1 : ((t275.length : Int) != (x255003_1.length : Int)) = true := bne_iff_ne.mpr c79
                have c79b2 : (t275.length == x255003_1.length) = false := by first | simpa using c79 | (simp at c79 ⊢; omega)
                have H' := Aside0.mk H
                clear H
                have hnb95 := NB279_254.out
                have hnc95 := NB254_279.out
                have hnb96 := NB279_262.out
                have hnc96 := NB262_279.out
                have hnb97 := NB279_271.out
                have hnc97 := NB271_279.out
                have hnb98 := NB279_287.out
                have hnc98 := NB287_279.out
                have hnb99 := NB279_246.out
                have hnc99 := NB246_279.out
                have hcz100_0 : w69.cell? ⟨gb279, 0, none⟩ = some (.int .i64 t272) := (blk_cell BK279.out 0).trans rfl
                have hcz100_1 : w69.cell? ⟨gb279, 1, none⟩ = some (.int .i64 t273) := (blk_cell BK279.out 1).trans rfl
                have hcz100_2 : w69.cell? ⟨gb279, 2, none⟩ = some (.int .i64 t274) := (blk_cell BK279.out 2).trans rfl
                have hcz100_3 : w69.cell? ⟨gb279, 3, none⟩ = some (.slice Ao63 t275.length co63) := (blk_cell BK279.out 3).trans rfl
                have hfz100_0 := blk_frozen BK279.out 0
                have hfz100_1 := blk_frozen BK279.out 1
                have hfz100_2 := blk_frozen BK279.out 2
                have hfz100_3 := blk_frozen BK279.out 3
                have hnb101 := NB254_262.out
                have hnc101 := NB262_254.out
                have hnb102 := NB254_271.out
                have hnc102 := NB271_254.out
                have hnb103 := NB254_287.out
                have hnc103 := NB287_254.out
                have hnb104 := NB254_246.out
                have hnc104 := NB246_254.out
                have hcz105_0 : w69.cell? ⟨gb254, 0, none⟩ = some (.int .i64 t247) := (blk_cell BK254.out 0).trans rfl
                have hcz105_1 : w69.cell? ⟨gb254, 1, none⟩ = some (.int .i64 t248) := (blk_cell BK254.out 1).trans rfl
                have hcz105_2 : w69.cell? ⟨gb254, 2, none⟩ = some (.int .i64 t249) := (blk_cell BK254.out 2).trans rfl
                have hcz105_3 : w69.cell? ⟨gb254, 3, none⟩ = some (.slice Ao40 x255003_1.length co40) := (blk_cell BK254.out 3).trans rfl
                have hfz105_0 := blk_frozen BK254.out 0
                have hfz105_1 := blk_frozen BK254.out 1
                have hfz105_2 := blk_frozen BK254.out 2
                have hfz105_3 := blk_frozen BK254.out 3
                go_wp2
                go_meet
                case rel => exact ⟨_, (true), q146_, q144_, ⟨q143_⟩, ⟨q6_⟩, ⟨q7_⟩, ⟨q8_⟩, ⟨q9_⟩, ⟨q2_⟩, ⟨q3_⟩, ⟨q4_⟩, ⟨q5_⟩, ⟨q0_⟩, ⟨q15_⟩⟩
            · rw [if_neg c78] at H
              have c78b0 : (t286 == 0) = false := beq_eq_false_iff_ne.mpr c78
              have c78b1 : (t286 != 0) = true := bne_iff_ne.mpr c78
              have H' := Aside0.mk H
              clear H
              go_wp2
              go_meet
              case rel => exact ⟨_, (true), q146_, q144_, ⟨q143_⟩, ⟨q6_⟩, ⟨q7_⟩, ⟨q8_⟩, ⟨q9_⟩, ⟨q2_⟩, ⟨q3_⟩, ⟨q4_⟩, ⟨q5_⟩, ⟨q0_⟩, ⟨q15_⟩⟩
          · rw [if_neg c77] at H
            have c77b0 : (t278 == 0) = false := beq_eq_false_iff_ne.mpr c77
            have c77b1 : (t278 != 0) = true := bne_iff_ne.mpr c77
            (first | rw [c77b0] | (simp only [i64_w, i32_w]; rw [c77b0]) | skip)
            have H' := Aside0.mk H
            clear H
            go_wp2
            go_meet
            case rel => exact ⟨_, (true), q146_, q144_, ⟨q143_⟩, ⟨q6_⟩, ⟨q7_⟩, ⟨q8_⟩, ⟨q9_⟩, ⟨q2_⟩, ⟨q3_⟩, ⟨q4_⟩, ⟨q5_⟩, ⟨q0_⟩, ⟨q15_⟩⟩
        case rest =>
          clear HC36
          try clear c1
          try clear c2
          try clear p2
          try clear c5
          try clear c6
          try clear c7
          try clear c8
          try clear c9
          try clear c10
          try clear c20
          try clear c50
          try clear c52
          try clear c53
          try clear c58
          try clear c59
          try clear c60
          try clear c61
          try clear c64
          try clear c70
          try clear c71
          try clear c72
          try clear c73
          try clear c74
          try clear c77
          try clear c77b0
          try clear c77b1
          try clear c78
          try clear c78b0
          try clear c78b1
          try clear c79
          try clear c79b0
          try clear c79b1
          try clear c79b2
          try clear c80
          try clear c81
          try clear c82
          try clear c83
          try clear c84
          try clear c86
          try clear c87
          try clear c88
          try clear c89
          try clear c91
          try clear c92
          try clear c93
          try clear c95
          try clear c96
          try clear c97
          try clear c98
          try clear c99
          try clear c101
          try clear c102
          try clear c103
          try clear c104
          try clear hcz100_0
          try clear hcz100_1
          try clear hcz100_2
          try clear hcz100_3
          try clear hcz105_0
          try clear hcz105_1
          try clear hcz105_2
          try clear hcz105_3
          try clear hcz51_0
          try clear hcz51_1
          try clear hcz51_2
          try clear hcz51_3
          try clear hcz54_0
          try clear hcz54_1
          try clear hcz54_2
          try clear hcz54_3
          try clear hcz62_0
          try clear hcz62_1
          try clear hcz62_2
          try clear hcz62_3
          try clear hcz65_0
          try clear hcz65_1
          try clear hcz65_2
          try clear hcz65_3
          try clear hcz66_0
          try clear hcz66_1
          try clear hcz66_2
          try clear hcz66_3
          try clear hcz75_0
          try clear hcz75_1
          try clear hcz75_2
          try clear hcz75_3
          try clear hcz85_0
          try clear hcz85_1
          try clear hcz85_2
          try clear hcz85_3
          try clear hcz90_0
          try clear hcz90_1
          try clear hcz90_2
          try clear hcz90_3
          try clear hcz94_0
          try clear hcz94_1
          try clear hcz94_2
          try clear hcz94_3
          try clear hfz100_0
          try clear hfz100_1
          try clear hfz100_2
          try clear hfz100_3
          try clear hfz105_0
          try clear hfz105_1
          try clear hfz105_2
          try clear hfz105_3
          try clear hfz51_0
          try clear hfz51_1
          try clear hfz51_2
          try clear hfz51_3
          try clear hfz54_0
          try clear hfz54_1
          try clear hfz54_2
          try clear hfz54_3
          try clear hfz62_0
          try clear hfz62_1
          try clear hfz62_2
          try clear hfz62_3
          try clear hfz65_0
          try clear hfz65_1
          try clear hfz65_2
          try clear hfz65_3
          try clear hfz66_0
          try clear hfz66_1
          try clear hfz66_2
          try clear hfz66_3
          try clear hfz75_0
          try clear hfz75_1
          try clear hfz75_2
          try clear hfz75_3
          try clear hfz85_0
          try clear hfz85_1
          try clear hfz85_2
          try clear hfz85_3
          try clear hfz90_0
          try clear hfz90_1
          try clear hfz90_2
          try clear hfz90_3
          try clear hfz94_0
          try clear hfz94_1
          try clear hfz94_2
          try clear hfz94_3
          obtain ⟨kq, x110_35, rfl, HA, HJ35, HO_255003, HO_263003, HO_280003, HO_288003, BK254, BK262, BK271, BK279, BK287, HB⟩ := hcut
          cases kq with
          | zero => exact absurd HA.out (by simp [tilefarmlaw9_ConvolveMoves.j1])
          | succ kj35 =>
            have H := HA.out
            clear HA
            simp only [tilefarmlaw9_ConvolveMoves.j1] at H
            by_cases c106 : x110_35 = true
            · subst c106
              have H1 : (some false) = some r := by rw [if_pos rfl] at H; exact H
              clear H
              have H := H1
              clear H1
              exact absurd ((Option.some.inj H).trans HT.out) (by decide)
            · replace c106 := Bool.eq_false_iff.mpr c106
              subst c106
              have H1 : (tilefarmlaw9_ConvolveMoves.l1 kj35 t255 0 t247 t248 t249 x255003_1 t272 t273 t274 t275 t280 t281 t282 t283) = some r := by rw [if_neg (show ¬ (false = true) by decide)] at H; exact H
              clear H
              have H := H1
              clear H1
              have H' := Aside0.mk H
              clear H
              go_wp2
              go_loopg [17] kj35 (fun kq v17 w' => ∃ (x17_3 : Int), v17 = .int .i64 x17_3 ∧ Aside0 (tilefarmlaw9_ConvolveMoves.l1 kq t255 x17_3 t247 t248 t249 x255003_1 t272 t273 t274 t275 t280 t281 t282 t283 = some r) ∧ Aside0 (kq ≤ kj35) ∧ Aside0 (Kd.R (Kd.int .i64) 3 w' w.heap.size (fun k_ => some k_ ≠ ((.slice Ao67 x263003_1.length co67) : Value).ownBlock ∧ some k_ ≠ ((.slice Ao63 t275.length co63) : Value).ownBlock ∧ some k_ ≠ ((.slice Ao76 t283.length co76) : Value).ownBlock) (.slice Ao40 x255003_1.length co40) x255003_1) ∧ Aside0 (Kd.R (Kd.int .i64) 3 w' w.heap.size (fun k_ => some k_ ≠ ((.slice Ao40 x255003_1.length co40) : Value).ownBlock ∧ some k_ ≠ ((.slice Ao63 t275.length co63) : Value).ownBlock ∧ some k_ ≠ ((.slice Ao76 t283.length co76) : Value).ownBlock) (.slice Ao67 x263003_1.length co67) x263003_1) ∧ Aside0 (Kd.R (Kd.int .i64) 3 w' w.heap.size (fun k_ => some k_ ≠ ((.slice Ao40 x255003_1.length co40) : Value).ownBlock ∧ some k_ ≠ ((.slice Ao67 x263003_1.length co67) : Value).ownBlock ∧ some k_ ≠ ((.slice Ao76 t283.length co76) : Value).ownBlock) (.slice Ao63 t275.length co63) t275) ∧ Aside0 (Kd.R (Kd.int .i64) 3 w' w.heap.size (fun k_ => some k_ ≠ ((.slice Ao40 x255003_1.length co40) : Value).ownBlock ∧ some k_ ≠ ((.slice Ao67 x263003_1.length co67) : Value).ownBlock ∧ some k_ ≠ ((.slice Ao63 t275.length co63) : Value).ownBlock) (.slice Ao76 t283.length co76) t283) ∧ Aside0 (w'.heap[gb254]? = some (.cells #[.int .i64 t247, .int .i64 t248, .int .i64 t249, (.slice Ao40 x255003_1.length co40)] 35 (0, 0))) ∧ Aside0 (w'.heap[gb262]? = some (.cells #[.int .i64 t256, .int .i64 t257, .int .i64 t258, (.slice Ao67 x263003_1.length co67)] 35 (0, 0))) ∧ Aside0 (w'.heap[gb271]? = some (.cells #[.int .i64 0, .int .i64 0, .int .i64 t247, .int .i64 t248] 33 (0, 0))) ∧ Aside0 (w'.heap[gb279]? = some (.cells #[.int .i64 t272, .int .i64 t273, .int .i64 t274, (.slice Ao63 t275.length co63)] 35 (0, 0))) ∧ Aside0 (w'.heap[gb287]? = some (.cells #[.int .i64 t280, .int .i64 t281, .int .i64 t282, (.slice Ao76 t283.length co76)] 35 (0, 0))) ∧ Aside0 (Below w.heap.size w w'))
              case atStart => exact ⟨(0), q146_, H', ⟨Nat.le_refl _⟩, ⟨q126_⟩, ⟨q127_⟩, ⟨q128_⟩, ⟨q129_⟩, ⟨q119_⟩, ⟨q120_⟩, ⟨q121_⟩, ⟨q122_⟩, ⟨q123_⟩, ⟨q18_⟩⟩
              case round =>
                clear H'
                try clear c1
                try clear c2
                try clear p2
                try clear c5
                try clear c6
                try clear c7
                try clear c8
                try clear c9
                try clear c10
                try clear c20
                try clear c50
                try clear c52
                try clear c53
                try clear c58
                try clear c59
                try clear c60
                try clear c61
                try clear c64
                try clear c70
                try clear c71
                try clear c72
                try clear c73
                try clear c74
                try clear c77
                try clear c77b0
                try clear c77b1
                try clear c78
                try clear c78b0
                try clear c78b1
                try clear c79
                try clear c79b0
                try clear c79b1
                try clear c79b2
                try clear c80
                try clear c81
                try clear c82
                try clear c83
                try clear c84
                try clear c86
                try clear c87
                try clear c88
                try clear c89
                try clear c91
                try clear c92
                try clear c93
                try clear c95
                try clear c96
                try clear c97
                try clear c98
                try clear c99
                try clear c101
                try clear c102
                try clear c103
                try clear c104
                try clear c106
                try clear hcz100_0
                try clear hcz100_1
                try clear hcz100_2
                try clear hcz100_3
                try clear hcz105_0
                try clear hcz105_1
                try clear hcz105_2
                try clear hcz105_3
                try clear hcz51_0
                try clear hcz51_1
                try clear hcz51_2
                try clear hcz51_3
                try clear hcz54_0
                try clear hcz54_1
                try clear hcz54_2
                try clear hcz54_3
                try clear hcz62_0
                try clear hcz62_1
                try clear hcz62_2
                try clear hcz62_3
                try clear hcz65_0
                try clear hcz65_1
                try clear hcz65_2
                try clear hcz65_3
                try clear hcz66_0
                try clear hcz66_1
                try clear hcz66_2
                try clear hcz66_3
                try clear hcz75_0
                try clear hcz75_1
                try clear hcz75_2
                try clear hcz75_3
                try clear hcz85_0
                try clear hcz85_1
                try clear hcz85_2
                try clear hcz85_3
                try clear hcz90_0
                try clear hcz90_1
                try clear hcz90_2
                try clear hcz90_3
                try clear hcz94_0
                try clear hcz94_1
                try clear hcz94_2
                try clear hcz94_3
                try clear hfz100_0
                try clear hfz100_1
                try clear hfz100_2
                try clear hfz100_3
                try clear hfz105_0
                try clear hfz105_1
                try clear hfz105_2
                try clear hfz105_3
                try clear hfz51_0
                try clear hfz51_1
                try clear hfz51_2
                try clear hfz51_3
                try clear hfz54_0
                try clear hfz54_1
                try clear hfz54_2
                try clear hfz54_3
                try clear hfz62_0
                try clear hfz62_1
                try clear hfz62_2
                try clear hfz62_3
                try clear hfz65_0
                try clear hfz65_1
                try clear hfz65_2
                try clear hfz65_3
                try clear hfz66_0
                try clear hfz66_1
                try clear hfz66_2
                try clear hfz66_3
                try clear hfz75_0
                try clear hfz75_1
                try clear hfz75_2
                try clear hfz75_3
                try clear hfz85_0
                try clear hfz85_1
                try clear hfz85_2
                try clear hfz85_3
                try clear hfz90_0
                try clear hfz90_1
                try clear hfz90_2
                try clear hfz90_3
                try clear hfz94_0
                try clear hfz94_1
                try clear hfz94_2
                try clear hfz94_3
                try clear p2
                obtain ⟨x17_3, rfl, HA, HK3, HO_255003, HO_263003, HO_280003, HO_288003, BK254, BK262, BK271, BK279, BK287, HB⟩ := hrel
                cases gk with
                | zero => exact absurd HA.out (by simp [tilefarmlaw9_ConvolveMoves.l1])
                | succ k3 =>
                  have H := HA.out
                  clear HA
                  simp only [tilefarmlaw9_ConvolveMoves.l1] at H
                  by_cases c107 : x17_3 < (x255003_1.length : Int)
                  · rw [if_pos c107] at H
                    have c107b0 : decide (x17_3 < (x255003_1.length : Int)) = true := decide_eq_true c107
                    clear c107
                    by_cases c108 : t247 = 0
                    · rw [if_pos c108] at H
                      exact absurd H (by simp)
                    · rw [if_neg c108] at H
                      have c108b0 : (t247 == 0) = false := beq_eq_false_iff_ne.mpr c108
                      have c108b1 : (t247 != 0) = true := bne_iff_ne.mpr c108
                      obtain ⟨ji109, hji109⟩ : ∃ j_ : Int, (wrap64 ((wrap64 ((wrap64 (Int.tdiv x17_3 t247)) * t247)) + (Int.tmod (wrap64 ((Int.tmod x17_3 t247) + t255)) t247))) = j_ := ⟨_, rfl⟩
                      replace H : (if 0 ≤ (ji109) then (if (ji109) < (t283.length : Int) then (if 0 ≤ x17_3 then (if x17_3 < (t275.length : Int) then (if (rd t283 (ji109)) = (rd t275 x17_3) then (tilefarmlaw9_ConvolveMoves.l1 k3 t255 (wrap64 (x17_3 + 1)) t247 t248 t249 x255003_1 t272 t273 t274 t275 t280 t281 t282 t283) else (some false)) else (none)) else (none)) else (none)) else (none)) = some r := by first | (rw [hji109] at H; exact H) | (simp only [hji109] at H ⊢; exact H)
                      have hji109w : (IntKind.i64.wrap ((wrap64 ((wrap64 (Int.tdiv x17_3 t247)) * t247)) + (Int.tmod (wrap64 ((Int.tmod x17_3 t247) + t255)) t247))) = ji109 := (i64_w _).trans hji109
                      by_cases c110 : 0 ≤ (ji109)
                      · rw [if_pos c110] at H
                        have c110b0 : decide (0 ≤ (ji109)) = true := decide_eq_true c110
                        clear c110
                        by_cases c111 : (ji109) < (t283.length : Int)
                        · rw [if_pos c111] at H
                          have c111b0 : decide ((ji109) < (t283.length : Int)) = true := decide_eq_true c111
                          clear c111
                          by_cases c112 : 0 ≤ x17_3
                          · rw [if_pos c112] at H
                            have c112b0 : decide (0 ≤ x17_3) = true := decide_eq_true c112
                            clear c112
                            by_cases c113 : x17_3 < (t275.length : Int)
                            · rw [if_pos c113] at H
                              have c113b0 : decide (x17_3 < (t275.length : Int)) = true := decide_eq_true c113
                              clear c113
                              by_cases c114 : (rd t283 (ji109)) = (rd t275 x17_3)
                              · rw [if_pos c114] at H
                                have c114b0 : ((rd t283 (ji109)) == (rd t275 x17_3)) = true := beq_iff_eq.mpr c114
                                have c114b1 : ((rd t283 (ji109)) != (rd t275 x17_3)) = false := bne_eq_false_iff_eq.mpr c114
                                clear c114
                                have H' := Aside0.mk H
                                clear H
                                have hnb115 := NB254_262.out
                                have hnc115 := NB262_254.out
                                have hnb116 := NB254_271.out
                                have hnc116 := NB271_254.out
                                have hnb117 := NB254_279.out
                                have hnc117 := NB279_254.out
                                have hnb118 := NB254_287.out
                                have hnc118 := NB287_254.out
                                have hcz119_0 : wr.cell? ⟨gb254, 0, none⟩ = some (.int .i64 t247) := (blk_cell BK254.out 0).trans rfl
                                have hcz119_1 : wr.cell? ⟨gb254, 1, none⟩ = some (.int .i64 t248) := (blk_cell BK254.out 1).trans rfl
                                have hcz119_2 : wr.cell? ⟨gb254, 2, none⟩ = some (.int .i64 t249) := (blk_cell BK254.out 2).trans rfl
                                have hcz119_3 : wr.cell? ⟨gb254, 3, none⟩ = some (.slice Ao40 x255003_1.length co40) := (blk_cell BK254.out 3).trans rfl
                                have hfz119_0 := blk_frozen BK254.out 0
                                have hfz119_1 := blk_frozen BK254.out 1
                                have hfz119_2 := blk_frozen BK254.out 2
                                have hfz119_3 := blk_frozen BK254.out 3
                                try go_wp2
                                have n0_ := Aside0.mk (Kd.R_drew HO_255003.out)
                                have n1_ := Aside0.mk (Kd.R_drew HO_263003.out)
                                have n2_ := Aside0.mk (Kd.R_drew HO_280003.out)
                                have n3_ := Aside0.mk (Kd.R_drew HO_288003.out)
                                have n4_ := Aside0.mk (blk_drew BK254.out)
                                have n5_ := Aside0.mk (blk_drew BK262.out)
                                have n6_ := Aside0.mk (blk_drew BK271.out)
                                have n7_ := Aside0.mk (blk_drew BK279.out)
                                have n8_ := Aside0.mk (blk_drew BK287.out)
                                have n9_ := Aside0.mk (below_drew1 HB.out)
                                clear HO_255003
                                clear HO_263003
                                clear HO_280003
                                clear HO_288003
                                clear BK254
                                clear BK262
                                clear BK271
                                clear BK279
                                clear BK287
                                clear HB
                                have HO_255003 := n0_
                                have HO_263003 := n1_
                                have HO_280003 := n2_
                                have HO_288003 := n3_
                                have BK254 := n4_
                                have BK262 := n5_
                                have BK271 := n6_
                                have BK279 := n7_
                                have BK287 := n8_
                                have HB := n9_
                                clear n0_ n1_ n2_ n3_ n4_ n5_ n6_ n7_ n8_ n9_
                                have p288 : 0 ≤ ((ji109) : Int) := of_decide_eq_true q145_
                                have q288 : (ji109) < (t283.length : Int) := of_decide_eq_true q145_
                                obtain ⟨ad288, e288, hx288_0⟩ := Kd.at_int (Kd.R_reads' HO_288003.out).2.2 (ji109) p288 q288
                                cases e288
                                replace p288 := eq_true p288
                                replace q288 := eq_true q288
                                have p289 : 0 ≤ (x17_3 : Int) := of_decide_eq_true q145_
                                have q289 : x17_3 < (t275.length : Int) := of_decide_eq_true q145_
                                obtain ⟨ad289, e289, hx289_0⟩ := Kd.at_int (Kd.R_reads' HO_280003.out).2.2 x17_3 p289 q289
                                cases e289
                                replace p289 := eq_true p289
                                replace q289 := eq_true q289
                                refine start_ (n := 27) (S := fun w' => w'.cell? ⟨gb287, 0, none⟩ = some (.int .i64 t280) ∧ w'.cell? ⟨gb287, 1, none⟩ = some (.int .i64 t281) ∧ w'.cell? ⟨gb287, 2, none⟩ = some (.int .i64 t282) ∧ w'.cell? ⟨gb287, 3, none⟩ = some (.slice (some ad288) t283.length co76) ∧ w'.cell? ⟨gb254, 0, none⟩ = some (.int .i64 t247) ∧ w'.cell? ⟨gb254, 1, none⟩ = some (.int .i64 t248) ∧ w'.cell? ⟨gb254, 2, none⟩ = some (.int .i64 t249) ∧ w'.cell? ⟨gb254, 3, none⟩ = some (.slice Ao40 x255003_1.length co40) ∧ w'.cell? ⟨gb279, 0, none⟩ = some (.int .i64 t272) ∧ w'.cell? ⟨gb279, 1, none⟩ = some (.int .i64 t273) ∧ w'.cell? ⟨gb279, 2, none⟩ = some (.int .i64 t274) ∧ w'.cell? ⟨gb279, 3, none⟩ = some (.slice (some ad289) t275.length co63) ∧ w'.cell? (ad288.add ((ji109)).toNat) = some (.int .i64 (rd t283 (ji109))) ∧ w'.cell? (ad289.add (x17_3).toNat) = some (.int .i64 (rd t275 x17_3))) (ds := []) #[false, false, false, false, false, false, false, false, false, false, false, false, false, false, false, false, false, false, false, false, false, false, false, false, false, false, false] (by kernel_rfl) rfl rfl ⟨(blk_cell BK287.out 0).trans rfl, (blk_cell BK287.out 1).trans rfl, (blk_cell BK287.out 2).trans rfl, (blk_cell BK287.out 3).trans rfl, (blk_cell BK254.out 0).trans rfl, (blk_cell BK254.out 1).trans rfl, (blk_cell BK254.out 2).trans rfl, (blk_cell BK254.out 3).trans rfl, (blk_cell BK279.out 0).trans rfl, (blk_cell BK279.out 1).trans rfl, (blk_cell BK279.out 2).trans rfl, (blk_cell BK279.out 3).trans rfl, hx288_0, hx289_0⟩ (fun hHeld => ?_); refine with_tabW tilefarmlaw9_ConvolveMoves.tab17 tilefarmlaw9_ConvolveMoves.bits17 (fun HT_ HW_ => ?_)
                                generalize wr.drew = w120 at HO_255003 HO_263003 HO_280003 HO_288003 BK254 BK262 BK271 BK279 BK287 HB hx288_0 hx289_0 hHeld ⊢
                                refine pure_ (i := 0) (N := some 118) (v := ?_) (a' := ?_) #[true, false, false, false, false, false, false, false, false, false, false, false, false, false, false, false, false, false, false, false, false, false, false, false, false, false, false] rfl rfl (any_of HT_.out (by kernel_rfl)) (fun _ _ _ h => h) (Or.inl ⟨by rfl, ?_⟩) ?_ ?_
                                rotate_left
                                · intro w'
                                  go_simp
                                  with_reducible rfl
                                rotate_left
                                · simp only [Act.put, List.setIfInBounds_toArray, List.set_cons_zero, List.set_cons_succ, i64_w, i32_w]
                                  rfl
                                refine pure_ (i := 2) (N := some 120) (v := ?_) (a' := ?_) #[true, false, true, false, false, false, false, false, false, false, false, false, false, false, false, false, false, false, false, false, false, false, false, false, false, false, false] rfl rfl (any_of HT_.out (by kernel_rfl)) (fun _ _ _ h => h) (Or.inl ⟨by rfl, ?_⟩) ?_ ?_
                                rotate_left
                                · intro w'
                                  go_simp
                                  with_reducible rfl
                                rotate_left
                                · simp only [Act.put, List.setIfInBounds_toArray, List.set_cons_zero, List.set_cons_succ, i64_w, i32_w]
                                  rfl
                                refine pure_ (i := 3) (N := some 121) (v := ?_) (a' := ?_) #[true, false, true, true, false, false, false, false, false, false, false, false, false, false, false, false, false, false, false, false, false, false, false, false, false, false, false] rfl rfl (any_of HT_.out (by kernel_rfl)) (fun _ _ _ h => h) (Or.inl ⟨by rfl, ?_⟩) ?_ ?_
                                rotate_left
                                · intro w'
                                  go_simp
                                  with_reducible rfl
                                rotate_left
                                · simp only [Act.put, List.setIfInBounds_toArray, List.set_cons_zero, List.set_cons_succ, i64_w, i32_w]
                                  rfl
                                refine pure_ (i := 6) (N := some 124) (v := ?_) (a' := ?_) #[true, false, true, true, false, false, true, false, false, false, false, false, false, false, false, false, false, false, false, false, false, false, false, false, false, false, false] rfl rfl (any_of HT_.out (by kernel_rfl)) (fun _ _ _ h => h) (Or.inl ⟨by rfl, ?_⟩) ?_ ?_
                                rotate_left
                                · intro w'
                                  go_simp
                                  with_reducible rfl
                                rotate_left
                                · simp only [Act.put, List.setIfInBounds_toArray, List.set_cons_zero, List.set_cons_succ, i64_w, i32_w]
                                  rfl
                                refine pure_ (i := 9) (N := some 127) (v := ?_) (a' := ?_) #[true, false, true, true, false, false, true, false, false, true, false, false, false, false, false, false, false, false, false, false, false, false, false, false, false, false, false] rfl rfl (any_of HT_.out (by kernel_rfl)) (fun _ _ _ h => h) (Or.inl ⟨by rfl, ?_⟩) ?_ ?_
                                rotate_left
                                · intro w'
                                  go_simp
                                  with_reducible rfl
                                rotate_left
                                · simp only [Act.put, List.setIfInBounds_toArray, List.set_cons_zero, List.set_cons_succ, i64_w, i32_w]
                                  rfl
                                refine pure_ (i := 10) (N := some 128) (v := ?_) (a' := ?_) #[true, false, true, true, false, false, true, false, false, true, true, false, false, false, false, false, false, false, false, false, false, false, false, false, false, false, false] rfl rfl (any_of HT_.out (by kernel_rfl)) (fun _ _ _ h => h) (Or.inl ⟨by rfl, ?_⟩) ?_ ?_
                                rotate_left
                                · intro w'
                                  go_simp
                                  with_reducible rfl
                                rotate_left
                                · simp only [Act.put, List.setIfInBounds_toArray, List.set_cons_zero, List.set_cons_succ, i64_w, i32_w]
                                  rfl
                                refine pure_ (i := 13) (N := some 131) (v := ?_) (a' := ?_) #[true, false, true, true, false, false, true, false, false, true, true, false, false, true, false, false, false, false, false, false, false, false, false, false, false, false, false] rfl rfl (any_of HT_.out (by kernel_rfl)) (fun _ _ _ h => h) (Or.inl ⟨by rfl, ?_⟩) ?_ ?_
                                rotate_left
                                · intro w'
                                  go_simp
                                  with_reducible rfl
                                rotate_left
                                · simp only [Act.put, List.setIfInBounds_toArray, List.set_cons_zero, List.set_cons_succ, i64_w, i32_w]
                                  rfl
                                refine pure_ (i := 15) (N := some 133) (v := ?_) (a' := ?_) #[true, false, true, true, false, false, true, false, false, true, true, false, false, true, false, true, false, false, false, false, false, false, false, false, false, false, false] rfl rfl (any_of HT_.out (by kernel_rfl)) (fun _ _ _ h => h) (Or.inl ⟨by rfl, ?_⟩) ?_ ?_
                                rotate_left
                                · intro w'
                                  go_simp
                                  with_reducible rfl
                                rotate_left
                                · simp only [Act.put, List.setIfInBounds_toArray, List.set_cons_zero, List.set_cons_succ, i64_w, i32_w]
                                  rfl
                                refine pure_ (i := 21) (N := some 139) (v := ?_) (a' := ?_) #[true, false, true, true, false, false, true, false, false, true, true, false, false, true, false, true, false, false, false, false, false, true, false, false, false, false, false] rfl rfl (any_of HT_.out (by kernel_rfl)) (fun _ _ _ h => h) (Or.inl ⟨by rfl, ?_⟩) ?_ ?_
                                rotate_left
                                · intro w'
                                  go_simp
                                  with_reducible rfl
                                rotate_left
                                · simp only [Act.put, List.setIfInBounds_toArray, List.set_cons_zero, List.set_cons_succ, i64_w, i32_w]
                                  rfl
                                refine pure_ (i := 23) (N := some 141) (v := ?_) (a' := ?_) #[true, false, true, true, false, false, true, false, false, true, true, false, false, true, false, true, false, false, false, false, false, true, false, true, false, false, false] rfl rfl (any_of HT_.out (by kernel_rfl)) (fun _ _ _ h => h) (Or.inl ⟨by rfl, ?_⟩) ?_ ?_
                                rotate_left
                                · intro w'
                                  go_simp
                                  with_reducible rfl
                                rotate_left
                                · simp only [Act.put, List.setIfInBounds_toArray, List.set_cons_zero, List.set_cons_succ, i64_w, i32_w]
                                  rfl
                                refine take_ (i := 1) (N := some 119) (v := ?_) (a' := ?_) #[true, true, true, true, false, false, true, false, false, true, true, false, false, true, false, true, false, false, false, false, false, true, false, true, false, false, false] rfl rfl (take_ofW HT_.out HW_.out (by kernel_rfl)) (fun _ _ _ h => h) (Or.inl ⟨by rfl, ?_⟩) hHeld ?_ ?_
                                rotate_left
                                · rintro w' ⟨s0, s1, s2, s3, s4, s5, s6, s7, s8, s9, s10, s11, s12, s13⟩
                                  go_simp
                                  with_reducible rfl
                                rotate_left
                                · simp only [Act.put, List.setIfInBounds_toArray, List.set_cons_zero, List.set_cons_succ, i64_w, i32_w]
                                  rfl
                                refine take_ (i := 4) (N := some 122) (v := ?_) (a' := ?_) #[true, true, true, true, true, false, true, false, false, true, true, false, false, true, false, true, false, false, false, false, false, true, false, true, false, false, false] rfl rfl (take_ofW HT_.out HW_.out (by kernel_rfl)) (fun _ _ _ h => h) (Or.inl ⟨by rfl, ?_⟩) hHeld ?_ ?_
                                rotate_left
                                · rintro w' ⟨s0, s1, s2, s3, s4, s5, s6, s7, s8, s9, s10, s11, s12, s13⟩
                                  go_simp
                                  with_reducible rfl
                                rotate_left
                                · simp only [Act.put, List.setIfInBounds_toArray, List.set_cons_zero, List.set_cons_succ, i64_w, i32_w]
                                  rfl
                                refine pure_ (i := 5) (N := some 123) (v := ?_) (a' := ?_) #[true, true, true, true, true, true, true, false, false, true, true, false, false, true, false, true, false, false, false, false, false, true, false, true, false, false, false] rfl rfl (any_of HT_.out (by kernel_rfl)) (fun _ _ _ h => h) (Or.inl ⟨by rfl, ?_⟩) ?_ ?_
                                rotate_left
                                · intro w'
                                  go_simp
                                  with_reducible rfl
                                rotate_left
                                · simp only [Act.put, List.setIfInBounds_toArray, List.set_cons_zero, List.set_cons_succ, i64_w, i32_w]
                                  rfl
                                refine take_ (i := 7) (N := some 125) (v := ?_) (a' := ?_) #[true, true, true, true, true, true, true, true, false, true, true, false, false, true, false, true, false, false, false, false, false, true, false, true, false, false, false] rfl rfl (take_ofW HT_.out HW_.out (by kernel_rfl)) (fun _ _ _ h => h) (Or.inl ⟨by rfl, ?_⟩) hHeld ?_ ?_
                                rotate_left
                                · rintro w' ⟨s0, s1, s2, s3, s4, s5, s6, s7, s8, s9, s10, s11, s12, s13⟩
                                  go_simp
                                  with_reducible rfl
                                rotate_left
                                · simp only [Act.put, List.setIfInBounds_toArray, List.set_cons_zero, List.set_cons_succ, i64_w, i32_w]
                                  rfl
                                refine pure_ (i := 8) (N := some 126) (v := ?_) (a' := ?_) #[true, true, true, true, true, true, true, true, true, true, true, false, false, true, false, true, false, false, false, false, false, true, false, true, false, false, false] rfl rfl (any_of HT_.out (by kernel_rfl)) (fun _ _ _ h => h) (Or.inl ⟨by rfl, ?_⟩) ?_ ?_
                                rotate_left
                                · intro w'
                                  go_simp
                                  with_reducible rfl
                                rotate_left
                                · simp only [Act.put, List.setIfInBounds_toArray, List.set_cons_zero, List.set_cons_succ, i64_w, i32_w]
                                  rfl
                                refine take_ (i := 11) (N := some 129) (v := ?_) (a' := ?_) #[true, true, true, true, true, true, true, true, true, true, true, true, false, true, false, true, false, false, false, false, false, true, false, true, false, false, false] rfl rfl (take_ofW HT_.out HW_.out (by kernel_rfl)) (fun _ _ _ h => h) (Or.inl ⟨by rfl, ?_⟩) hHeld ?_ ?_
                                rotate_left
                                · rintro w' ⟨s0, s1, s2, s3, s4, s5, s6, s7, s8, s9, s10, s11, s12, s13⟩
                                  go_simp
                                  with_reducible rfl
                                rotate_left
                                · simp only [Act.put, List.setIfInBounds_toArray, List.set_cons_zero, List.set_cons_succ, i64_w, i32_w]
                                  rfl
                                refine pure_ (i := 12) (N := some 130) (v := ?_) (a' := ?_) #[true, true, true, true, true, true, true, true, true, true, true, true, true, true, false, true, false, false, false, false, false, true, false, true, false, false, false] rfl rfl (any_of HT_.out (by kernel_rfl)) (fun _ _ _ h => h) (Or.inl ⟨by rfl, ?_⟩) ?_ ?_
                                rotate_left
                                · intro w'
                                  go_simp
                                  with_reducible rfl
                                rotate_left
                                · simp only [Act.put, List.setIfInBounds_toArray, List.set_cons_zero, List.set_cons_succ, i64_w, i32_w]
                                  rfl
                                refine pure_ (i := 14) (N := some 132) (v := ?_) (a' := ?_) #[true, true, true, true, true, true, true, true, true, true, true, true, true, true, true, true, false, false, false, false, false, true, false, true, false, false, false] rfl rfl (any_of HT_.out (by kernel_rfl)) (fun _ _ _ h => h) (Or.inl ⟨by rfl, ?_⟩) ?_ ?_
                                rotate_left
                                · intro w'
                                  go_simp
                                  with_reducible rfl
                                rotate_left
                                · simp only [Act.put, List.setIfInBounds_toArray, List.set_cons_zero, List.set_cons_succ, i64_w, i32_w]
                                  rfl
                                refine take_ (i := 16) (N := some 134) (v := ?_) (a' := ?_) #[true, true, true, true, true, true, true, true, true, true, true, true, true, true, true, true, true, false, false, false, false, true, false, true, false, false, false] rfl rfl (take_ofW HT_.out HW_.out (by kernel_rfl)) (fun _ _ _ h => h) (Or.inl ⟨by rfl, ?_⟩) hHeld ?_ ?_
                                rotate_left
                                · rintro w' ⟨s0, s1, s2, s3, s4, s5, s6, s7, s8, s9, s10, s11, s12, s13⟩
                                  go_simp
                                  with_reducible rfl
                                rotate_left
                                · simp only [Act.put, List.setIfInBounds_toArray, List.set_cons_zero, List.set_cons_succ, i64_w, i32_w]
                                  rfl
                                refine pure_ (i := 17) (N := some 135) (v := ?_) (a' := ?_) #[true, true, true, true, true, true, true, true, true, true, true, true, true, true, true, true, true, true, false, false, false, true, false, true, false, false, false] rfl rfl (any_of HT_.out (by kernel_rfl)) (fun _ _ _ h => h) (Or.inl ⟨by rfl, ?_⟩) ?_ ?_
                                rotate_left
                                · intro w'
                                  go_simp
                                  with_reducible rfl
                                rotate_left
                                · simp only [Act.put, List.setIfInBounds_toArray, List.set_cons_zero, List.set_cons_succ, i64_w, i32_w]
                                  rfl
                                refine pure_ (i := 18) (N := some 136) (v := ?_) (a' := ?_) #[true, true, true, true, true, true, true, true, true, true, true, true, true, true, true, true, true, true, true, false, false, true, false, true, false, false, false] rfl rfl (any_of HT_.out (by kernel_rfl)) (fun _ _ _ h => h) (Or.inl ⟨by rfl, ?_⟩) ?_ ?_
                                rotate_left
                                · intro w'
                                  go_simp
                                  with_reducible rfl
                                rotate_left
                                · simp only [Act.put, List.setIfInBounds_toArray, List.set_cons_zero, List.set_cons_succ, i64_w, i32_w]
                                  rfl
                                refine pure_ (i := 19) (N := some 137) (v := ?_) (a' := ?_) #[true, true, true, true, true, true, true, true, true, true, true, true, true, true, true, true, true, true, true, true, false, true, false, true, false, false, false] rfl rfl (any_of HT_.out (by kernel_rfl)) (fun _ _ _ h => h) (Or.inl ⟨by rfl, ?_⟩) ?_ ?_
                                rotate_left
                                · intro w'
                                  go_simp
                                  with_reducible rfl
                                rotate_left
                                · simp only [Act.put, List.setIfInBounds_toArray, List.set_cons_zero, List.set_cons_succ, i64_w, i32_w]
                                  rfl
                                refine take_ (i := 20) (N := some 138) (v := ?_) (a' := ?_) #[true, true, true, true, true, true, true, true, true, true, true, true, true, true, true, true, true, true, true, true, true, true, false, true, false, false, false] rfl rfl (take_ofW HT_.out HW_.out (by kernel_rfl)) (fun _ _ _ h => h) (Or.inl ⟨by rfl, ?_⟩) hHeld ?_ ?_
                                rotate_left
                                · rintro w' ⟨s0, s1, s2, s3, s4, s5, s6, s7, s8, s9, s10, s11, s12, s13⟩
                                  go_simp
                                  with_reducible rfl
                                rotate_left
                                · simp only [Act.put, List.setIfInBounds_toArray, List.set_cons_zero, List.set_cons_succ, i64_w, i32_w]
                                  rfl
                                refine take_ (i := 22) (N := some 140) (v := ?_) (a' := ?_) #[true, true, true, true, true, true, true, true, true, true, true, true, true, true, true, true, true, true, true, true, true, true, true, true, false, false, false] rfl rfl (take_ofW HT_.out HW_.out (by kernel_rfl)) (fun _ _ _ h => h) (Or.inl ⟨by rfl, ?_⟩) hHeld ?_ ?_
                                rotate_left
                                · rintro w' ⟨s0, s1, s2, s3, s4, s5, s6, s7, s8, s9, s10, s11, s12, s13⟩
                                  go_simp
                                  with_reducible rfl
                                rotate_left
                                · simp only [Act.put, List.setIfInBounds_toArray, List.set_cons_zero, List.set_cons_succ, i64_w, i32_w]
                                  rfl
                                refine pure_ (i := 24) (N := some 142) (v := ?_) (a' := ?_) #[true, true, true, true, true, true, true, true, true, true, true, true, true, true, true, true, true, true, true, true, true, true, true, true, true, false, false] rfl rfl (any_of HT_.out (by kernel_rfl)) (fun _ _ _ h => h) (Or.inl ⟨by rfl, ?_⟩) ?_ ?_
                                rotate_left
                                · intro w'
                                  go_simp
                                  with_reducible rfl
                                rotate_left
                                · simp only [Act.put, List.setIfInBounds_toArray, List.set_cons_zero, List.set_cons_succ, i64_w, i32_w]
                                  rfl
                                refine take_ (i := 25) (N := some 143) (v := ?_) (a' := ?_) #[true, true, true, true, true, true, true, true, true, true, true, true, true, true, true, true, true, true, true, true, true, true, true, true, true, true, false] rfl rfl (take_ofW HT_.out HW_.out (by kernel_rfl)) (fun _ _ _ h => h) (Or.inl ⟨by rfl, ?_⟩) hHeld ?_ ?_
                                rotate_left
                                · rintro w' ⟨s0, s1, s2, s3, s4, s5, s6, s7, s8, s9, s10, s11, s12, s13⟩
                                  go_simp
                                  with_reducible rfl
                                rotate_left
                                · simp only [Act.put, List.setIfInBounds_toArray, List.set_cons_zero, List.set_cons_succ, i64_w, i32_w]
                                  rfl
                                refine pure_ (i := 26) (N := some 144) (v := ?_) (a' := ?_) #[true, true, true, true, true, true, true, true, true, true, true, true, true, true, true, true, true, true, true, true, true, true, true, true, true, true, true] rfl rfl (any_of HT_.out (by kernel_rfl)) (fun _ _ _ h => h) (Or.inl ⟨by rfl, ?_⟩) ?_ ?_
                                rotate_left
                                · intro w'
                                  go_simp
                                  with_reducible rfl
                                rotate_left
                                · simp only [Act.put, List.setIfInBounds_toArray, List.set_cons_zero, List.set_cons_succ, i64_w, i32_w]
                                  rfl
                                refine done_ (done_of HT_.out (by kernel_rfl)) ?_
                                try go_wp2
                                go_roundg k3
                                case measure => have := HK1.out; have := HJ35.out; have := HK3.out; omega
                                case rel => exact ⟨(wrap64 (x17_3 + 1)), q146_, (by first | exact H' | ((try (rw [hji22])); (try (rw [hji109])); exact H')), ⟨by have := HK1.out; have := HJ35.out; have := HK3.out; omega⟩, ⟨q126_⟩, ⟨q127_⟩, ⟨q128_⟩, ⟨q129_⟩, ⟨q119_⟩, ⟨q120_⟩, ⟨q121_⟩, ⟨q122_⟩, ⟨q123_⟩, ⟨q18_⟩⟩
                              · rw [if_neg c114] at H
                                have c114b0 : ((rd t283 (ji109)) == (rd t275 x17_3)) = false := beq_eq_false_iff_ne.mpr c114
                                have c114b1 : ((rd t283 (ji109)) != (rd t275 x17_3)) = true := bne_iff_ne.mpr c114
                                exact absurd ((Option.some.inj H).trans HT.out) (by decide)
                            · rw [if_neg c113] at H
                              exact absurd H (by simp)
                          · rw [if_neg c112] at H
                            exact absurd H (by simp)
                        · rw [if_neg c111] at H
                          exact absurd H (by simp)
                      · rw [if_neg c110] at H
                        exact absurd H (by simp)
                  · rw [if_neg c107] at H
                    have c107b0 : decide (x17_3 < (x255003_1.length : Int)) = false := decide_eq_false c107
                    clear c107
                    replace H := Option.bind_eq_some_iff.mp H
                    obtain ⟨t290, A1210, H⟩ := H
                    replace H : (some t290) = some r := H
                    have A121 := Aside0.mk A1210
                    clear A1210
                    obtain rfl := Option.some.inj H
                    have hnb122 := NB254_262.out
                    have hnc122 := NB262_254.out
                    have hnb123 := NB254_271.out
                    have hnc123 := NB271_254.out
                    have hnb124 := NB254_279.out
                    have hnc124 := NB279_254.out
                    have hnb125 := NB254_287.out
                    have hnc125 := NB287_254.out
                    have hcz126_0 : wr.cell? ⟨gb254, 0, none⟩ = some (.int .i64 t247) := (blk_cell BK254.out 0).trans rfl
                    have hcz126_1 : wr.cell? ⟨gb254, 1, none⟩ = some (.int .i64 t248) := (blk_cell BK254.out 1).trans rfl
                    have hcz126_2 : wr.cell? ⟨gb254, 2, none⟩ = some (.int .i64 t249) := (blk_cell BK254.out 2).trans rfl
                    have hcz126_3 : wr.cell? ⟨gb254, 3, none⟩ = some (.slice Ao40 x255003_1.length co40) := (blk_cell BK254.out 3).trans rfl
                    have hfz126_0 := blk_frozen BK254.out 0
                    have hfz126_1 := blk_frozen BK254.out 1
                    have hfz126_2 := blk_frozen BK254.out 2
                    have hfz126_3 := blk_frozen BK254.out 3
                    go_wp2_with (first | ((with_reducible refine gate_callee (f := 14) rfl ?_); refine goesL_ (some 145) rfl rfl Try.func14 (by kernel_rfl) rfl #[] rfl q93_ ?_; (with_reducible refine (tilefarmlaw9_sane.calls k3  t290 _ A121.out).mono ?_); rintro e w127 ⟨rfl, hb⟩; refine ⟨_, rfl, ?_⟩; have n0_ := Aside0.mk (Kd.R_below q126_ hb); have n1_ := Aside0.mk (Kd.R_below q127_ hb); have n2_ := Aside0.mk (Kd.R_below q128_ hb); have n3_ := Aside0.mk (Kd.R_below q129_ hb); have n4_ := Aside0.mk (blk_below (g := gb254) (o := .cells #[.int .i64 t247, .int .i64 t248, .int .i64 t249, .slice Ao40 x255003_1.length co40] 35 (0, 0)) q119_ hb); have n5_ := Aside0.mk (blk_below (g := gb262) (o := .cells #[.int .i64 t256, .int .i64 t257, .int .i64 t258, .slice Ao67 x263003_1.length co67] 35 (0, 0)) q120_ hb); have n6_ := Aside0.mk (blk_below (g := gb271) (o := .cells #[.int .i64 0, .int .i64 0, .int .i64 t247, .int .i64 t248] 33 (0, 0)) q121_ hb); have n7_ := Aside0.mk (blk_below (g := gb279) (o := .cells #[.int .i64 t272, .int .i64 t273, .int .i64 t274, .slice Ao63 t275.length co63] 35 (0, 0)) q122_ hb); have n8_ := Aside0.mk (blk_below (g := gb287) (o := .cells #[.int .i64 t280, .int .i64 t281, .int .i64 t282, .slice Ao76 t283.length co76] 35 (0, 0)) q123_ hb); have n9_ := Aside0.mk (below_step q18_ hb); clear HO_255003; clear HO_263003; clear HO_280003; clear HO_288003; clear BK254; clear BK262; clear BK271; clear BK279; clear BK287; clear HB; have HO_255003 := n0_; have HO_263003 := n1_; have HO_280003 := n2_; have HO_288003 := n3_; have BK254 := n4_; have BK262 := n5_; have BK271 := n6_; have BK279 := n7_; have BK287 := n8_; have HB := n9_; clear n0_ n1_ n2_ n3_ n4_ n5_ n6_ n7_ n8_ n9_; (try clear hb); (try clear hb2); (try clear hk); (try clear hi)))
                    go_ret
                    exact ⟨q138_, q18_⟩


def tilefarmlaw9_ConvolveMoves.Pure : Prop := ∀ (l0 : List Int) (a1 : Int), l0.length ≤ maxLen → l0.length * 8 ≤ 140737488351232 → (∀ x ∈ l0, (Lit.int .i64 x).wf = true) → (Lit.int .i64 a1).wf = true → ∃ k, tilefarmlaw9_ConvolveMoves.f k l0 a1 = some true
theorem tilefarmlaw9_ConvolveMoves.walk (P : tilefarmlaw9_ConvolveMoves.Pure) (a0 : Option Addr) (len0 cap0 : Nat) (z0 : List Int) (a1 : Int) (w : World) (w0 : (a0 = none ∧ len0 = 0 ∧ cap0 = 0 ∧ z0 = []) ∨ ∃ x, a0 = some x ∧ len0 ≤ cap0 ∧ cap0 ≤ maxLen ∧ z0.length = cap0 ∧ (∀ i, i < z0.length → w.cell? (x.add i) = some (.int .i64 (z0.getD i 0))) ∧ ∀ n ∈ z0, (Lit.int .i64 n).wf = true) (y0 : len0 * 8 ≤ 140737488351232) (w1 : (Lit.int .i64 a1).wf = true) :
    Calls Try.prog 7 #[.slice a0 len0 cap0, .int .i64 a1] w fun e w' => e = .returned (.bool true) ∧ Below w.heap.size w w' := by
  obtain ⟨l0, rfl, hr0, hm0, hw0, hc0⟩ := ReadsInt.ofRowC w0
  obtain ⟨k, h⟩ := P l0 a1 hm0 y0 hw0 w1
  refine (tilefarmlaw9_ConvolveMoves.calls k _ _ l0 a1 true w (Kd.C_of_reads (d := (0 : Int)) (h1 := fun _ => rfl) hr0) hc0 h).mono ?_
  rintro e w' ⟨rfl, hd⟩
  exact ⟨rfl, hd⟩

end Go.Proofs.Ythgmndomnibefaa.PConvolveMoves
