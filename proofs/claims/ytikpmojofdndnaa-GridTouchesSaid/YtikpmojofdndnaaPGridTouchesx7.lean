-- Written by a program of the session (wip/tools/myprint.py) over the kit's printer; checked by Lean.
import Derived.Test.YtikpmojofdndnaaPGridTouchesx0
import Derived.Test.YtikpmojofdndnaaPGridTouchesx2
import Derived.Test.YtikpmojofdndnaaPGridTouchesx3
import Derived.Test.YtikpmojofdndnaaPGridTouchesx4
import Derived.Test.YtikpmojofdndnaaPGridTouchesx5
import Derived.Test.YtikpmojofdndnaaPGridTouchesx6
namespace Go.Proofs.Ytikpmojofdndnaa.PGridTouches
open Go.RowKit Go.Proofs.YtikpmojofdndnaaW.PrintWords Go.Proofs.YtikpmojofdndnaaW.PrintLast Go.Proofs.YtikpmojofdndnaaW.PrintMore
attribute [local go_sem] max2_int min2_int max_two min_two max_three min_three max_four min_four   -- for this text's walks alone
set_option linter.unusedVariables false
set_option linter.unusedSimpArgs false

/-! ### tilefarmlaw5_GridTouches: function 6 -/
def tilefarmlaw5_GridTouches.l0 : Nat → Int → Int → Int → Int → List Int → Int → Int → Int → Bool → Bool → Int → Int → Int → Int → Int → Option (Bool)
  | 0, _, _, _, _, _, _, _, _, _, _, _, _, _, _, _ => none
  | k + 1, x8, x9, x10, x11, x13, x14, x15, x16, x17, x18, x19, x210000, x210001, x210002, x210003 => if x19 < (x13.length : Int) then (if 0 ≤ x19 then ((grid_Tile.f k x8 x9 x10 x11 (rd x13 x19)).bind fun bt221 => (if bt221.2.2.2.2 = true then ((tilefarmref2_Intersect.f bt221.1 bt221.2.1 bt221.2.2.1 bt221.2.2.2.1 x210000 x210001 x210002 x210003).bind fun bt227 => ((tilefarmref2_Empty.f bt227.1 bt227.2.1 bt227.2.2.1 bt227.2.2.2).bind fun t231 => (if t231 = true then (some false) else (if x19 > 0 then (if 0 ≤ (wrap64 (x19 - 1)) then (if (wrap64 (x19 - 1)) < (x13.length : Int) then (if (rd x13 x19) ≤ (rd x13 (wrap64 (x19 - 1))) then (some false) else (if x18 = true then (tilefarmlaw5_GridTouches.l0 k x8 x9 x10 x11 x13 x14 x15 x16 x17 true (wrap64 (x19 + 1)) x210000 x210001 x210002 x210003) else (tilefarmlaw5_GridTouches.l0 k x8 x9 x10 x11 x13 x14 x15 x16 x17 ((rd x13 x19) == x16) (wrap64 (x19 + 1)) x210000 x210001 x210002 x210003))) else (none)) else (none)) else (if x18 = true then (tilefarmlaw5_GridTouches.l0 k x8 x9 x10 x11 x13 x14 x15 x16 x17 true (wrap64 (x19 + 1)) x210000 x210001 x210002 x210003) else (tilefarmlaw5_GridTouches.l0 k x8 x9 x10 x11 x13 x14 x15 x16 x17 ((rd x13 x19) == x16) (wrap64 (x19 + 1)) x210000 x210001 x210002 x210003)))))) else (some false))) else (none)) else (if x17 = true then (if x18 = true then ((tilefarmlaw5_sane.f k).bind fun t217 => (some t217)) else ((tilefarmref2_Contains.f x210000 x210001 x210002 x210003 x14 x15).bind fun t218 => (if t218 = true then (some false) else ((tilefarmlaw5_sane.f k).bind fun t219 => (some t219))))) else (some false))
def tilefarmlaw5_GridTouches.f (k : Nat) (l0 : List Int) (a1 : Int) (a2 : Int) : Option (Bool) := (tilefarmgen_New.f l0).bind fun bt193 => ((tilefarmgen_Tape_Next.f bt193.1 bt193.2 9).bind fun bt196 => ((tilefarmgen_Tape_Next.f bt193.1 bt196.2 9).bind fun bt198 => ((tilefarmgen_Tape_Next.f bt193.1 bt198.2 4).bind fun bt200 => ((tilefarmgen_Tape_Next.f bt193.1 bt200.2 4).bind fun bt202 => ((tilefarmgen_Tape_Rect.f bt193.1 bt202.2).bind fun bt204 => ((grid_Touching.f k (wrap64 (1 + bt196.1)) (wrap64 (1 + bt198.1)) (wrap64 (1 + bt200.1)) (wrap64 (1 + bt202.1)) bt204.1 bt204.2.1 bt204.2.2.1 bt204.2.2.2.1).bind fun t210 => ((tilefarmgen_Mod.f a1 (wrap64 (1 + bt196.1))).bind fun t213 => ((tilefarmgen_Mod.f a2 (wrap64 (1 + bt198.1))).bind fun t214 => ((grid_Of.f k (wrap64 (1 + bt196.1)) (wrap64 (1 + bt198.1)) (wrap64 (1 + bt200.1)) (wrap64 (1 + bt202.1)) t213 t214).bind fun bt215 => (tilefarmlaw5_GridTouches.l0 k (wrap64 (1 + bt196.1)) (wrap64 (1 + bt198.1)) (wrap64 (1 + bt200.1)) (wrap64 (1 + bt202.1)) t210 t213 t214 bt215.1 bt215.2 false 0 bt204.1 bt204.2.1 bt204.2.2.1 bt204.2.2.2.1))))))))))
theorem tilefarmlaw5_GridTouches.mono_l : ∀ k, (∀ y0 y1 y2 y3 y4 y5 y6 y7 y8 y9 y10 y11 y12 y13 y14, LeO (tilefarmlaw5_GridTouches.l0 k y0 y1 y2 y3 y4 y5 y6 y7 y8 y9 y10 y11 y12 y13 y14) (tilefarmlaw5_GridTouches.l0 (k + 1) y0 y1 y2 y3 y4 y5 y6 y7 y8 y9 y10 y11 y12 y13 y14))
  | 0 => fun _ _ _ _ _ _ _ _ _ _ _ _ _ _ _ r h => by simp [tilefarmlaw5_GridTouches.l0] at h
  | k + 1 => by
    have ih0 := tilefarmlaw5_GridTouches.mono_l k
    · intro y0 y1 y2 y3 y4 y5 y6 y7 y8 y9 y10 y11 y12 y13 y14
      unfold tilefarmlaw5_GridTouches.l0
      repeat' first
      | (with_reducible exact ih0 _ _ _ _ _ _ _ _ _ _ _ _ _ _ _)
      | (with_reducible exact grid_Of.mono _ _ _ _ _ _ _)
      | (with_reducible exact grid_Tile.mono _ _ _ _ _ _)
      | (with_reducible exact grid_Touching.mono _ _ _ _ _ _ _ _ _)
      | (with_reducible exact tilefarmlaw5_sane.mono _)
      | (with_reducible exact LeO.refl _)
      | (with_reducible exact LeO.none _)
      | (with_reducible refine LeO.ite ?_ ?_)
      | (with_reducible refine LeO.bind ?_ (fun _ => ?_))
      | exact ih0 _ _ _ _ _ _ _ _ _ _ _ _ _ _ _
      | exact grid_Of.mono _ _ _ _ _ _ _
      | exact grid_Tile.mono _ _ _ _ _ _
      | exact grid_Touching.mono _ _ _ _ _ _ _ _ _
      | exact tilefarmlaw5_sane.mono _
      | exact LeO.none _
      | refine LeO.ite ?_ ?_
      | refine LeO.bind ?_ (fun _ => ?_)
theorem tilefarmlaw5_GridTouches.mono : ∀ a0 a1 a2 k, LeO (tilefarmlaw5_GridTouches.f k a0 a1 a2) (tilefarmlaw5_GridTouches.f (k + 1) a0 a1 a2) := by
  intro a0 a1 a2 k
  have ih0 := tilefarmlaw5_GridTouches.mono_l k
  unfold tilefarmlaw5_GridTouches.f
  repeat' first
      | (with_reducible exact ih0 _ _ _ _ _ _ _ _ _ _ _ _ _ _ _)
      | (with_reducible exact grid_Of.mono _ _ _ _ _ _ _)
      | (with_reducible exact grid_Tile.mono _ _ _ _ _ _)
      | (with_reducible exact grid_Touching.mono _ _ _ _ _ _ _ _ _)
      | (with_reducible exact tilefarmlaw5_sane.mono _)
      | (with_reducible exact LeO.refl _)
      | (with_reducible exact LeO.none _)
      | (with_reducible refine LeO.ite ?_ ?_)
      | (with_reducible refine LeO.bind ?_ (fun _ => ?_))
      | exact ih0 _ _ _ _ _ _ _ _ _ _ _ _ _ _ _
      | exact grid_Of.mono _ _ _ _ _ _ _
      | exact grid_Tile.mono _ _ _ _ _ _
      | exact grid_Touching.mono _ _ _ _ _ _ _ _ _
      | exact tilefarmlaw5_sane.mono _
      | exact LeO.none _
      | refine LeO.ite ?_ ?_
      | refine LeO.bind ?_ (fun _ => ?_)
def tilefarmlaw5_GridTouches.T12 : Bool × List (List Nat × List Nat) := (true, [([], []), ([0], [0]), ([1], [1]), ([2], [2]), ([2], [2]), ([3, 4, 2, 2], [2, 3, 4]), ([5, 5, 2], [2, 5]), ([2, 6], [2, 6]), ([7, 6], [7]), ([8], [8]), ([9, 8], [8, 9]), ([10, 8, 8], [8, 10]), ([11], [11]), ([11], [11]), ([12, 13, 11], [11, 12, 13]), ([14, 11], [11, 14]), ([11], [11]), ([11], [11]), ([17, 11], [11, 17]), ([16, 18, 11], [11, 16, 18]), ([19, 11], [11, 19]), ([15, 20, 11], [11, 15, 20]), ([11, 21, 8], [8, 11, 21]), ([8, 22], [8, 22])])
def tilefarmlaw5_GridTouches.B12 : List Nat := [0, 1, 3, 7, 7, 31, 63, 127, 255, 511, 1023, 2047, 4095, 4095, 16383, 32767, 4095, 4095, 135167, 462847, 987135, 2097151, 4194303, 8388607]
theorem tilefarmlaw5_GridTouches.tab12 : rtab .any (opsOf Try.f6 12) = tilefarmlaw5_GridTouches.T12 := by kernel_rfl
theorem tilefarmlaw5_GridTouches.bits12 : waitsOk tilefarmlaw5_GridTouches.T12.2 tilefarmlaw5_GridTouches.B12 = true := by kernel_rfl
set_option maxHeartbeats 8000000 in
set_option maxRecDepth 100000 in
theorem tilefarmlaw5_GridTouches.calls (k : Nat) (A0 : Option Addr) (c0 : Nat) (l0 : List Int) (a1 : Int) (a2 : Int) (r : Bool) (w : World) (hr0 : Kd.C (Kd.int .i64) w A0 l0.length l0) (hc0 : l0.length ≤ c0) (h : tilefarmlaw5_GridTouches.f k l0 a1 a2 = some r) (hT : r = true := by first | rfl | assumption) :
    Calls Try.prog 6 #[.slice A0 l0.length c0, .int .i64 a1, .int .i64 a2] w fun e w' => e = .returned (.bool r) ∧ Below w.heap.size w w' := by
  have HT := Aside0.mk hT
  clear hT
  have hu31 := Try.underlying31
  have HR0 := Aside0.mk hr0
  have HC0 := Aside0.mk hc0
  clear hr0 hc0
  have HB := Aside0.mk (Below.refl w.heap.size w)
  have H : ((tilefarmgen_New.f l0).bind fun bt193 => ((tilefarmgen_Tape_Next.f bt193.1 bt193.2 9).bind fun bt196 => ((tilefarmgen_Tape_Next.f bt193.1 bt196.2 9).bind fun bt198 => ((tilefarmgen_Tape_Next.f bt193.1 bt198.2 4).bind fun bt200 => ((tilefarmgen_Tape_Next.f bt193.1 bt200.2 4).bind fun bt202 => ((tilefarmgen_Tape_Rect.f bt193.1 bt202.2).bind fun bt204 => ((grid_Touching.f k (wrap64 (1 + bt196.1)) (wrap64 (1 + bt198.1)) (wrap64 (1 + bt200.1)) (wrap64 (1 + bt202.1)) bt204.1 bt204.2.1 bt204.2.2.1 bt204.2.2.2.1).bind fun t210 => ((tilefarmgen_Mod.f a1 (wrap64 (1 + bt196.1))).bind fun t213 => ((tilefarmgen_Mod.f a2 (wrap64 (1 + bt198.1))).bind fun t214 => ((grid_Of.f k (wrap64 (1 + bt196.1)) (wrap64 (1 + bt198.1)) (wrap64 (1 + bt200.1)) (wrap64 (1 + bt202.1)) t213 t214).bind fun bt215 => (tilefarmlaw5_GridTouches.l0 k (wrap64 (1 + bt196.1)) (wrap64 (1 + bt198.1)) (wrap64 (1 + bt200.1)) (wrap64 (1 + bt202.1)) t210 t213 t214 bt215.1 bt215.2 false 0 bt204.1 bt204.2.1 bt204.2.2.1 bt204.2.2.2.1))))))))))) = some r := h
  clear h
  replace H := Option.bind_eq_some_iff.mp H
  obtain ⟨⟨t193, t194⟩, A40, H⟩ := H
  replace H : ((tilefarmgen_Tape_Next.f t193 t194 9).bind fun bt196 => ((tilefarmgen_Tape_Next.f t193 bt196.2 9).bind fun bt198 => ((tilefarmgen_Tape_Next.f t193 bt198.2 4).bind fun bt200 => ((tilefarmgen_Tape_Next.f t193 bt200.2 4).bind fun bt202 => ((tilefarmgen_Tape_Rect.f t193 bt202.2).bind fun bt204 => ((grid_Touching.f k (wrap64 (1 + bt196.1)) (wrap64 (1 + bt198.1)) (wrap64 (1 + bt200.1)) (wrap64 (1 + bt202.1)) bt204.1 bt204.2.1 bt204.2.2.1 bt204.2.2.2.1).bind fun t210 => ((tilefarmgen_Mod.f a1 (wrap64 (1 + bt196.1))).bind fun t213 => ((tilefarmgen_Mod.f a2 (wrap64 (1 + bt198.1))).bind fun t214 => ((grid_Of.f k (wrap64 (1 + bt196.1)) (wrap64 (1 + bt198.1)) (wrap64 (1 + bt200.1)) (wrap64 (1 + bt202.1)) t213 t214).bind fun bt215 => (tilefarmlaw5_GridTouches.l0 k (wrap64 (1 + bt196.1)) (wrap64 (1 + bt198.1)) (wrap64 (1 + bt200.1)) (wrap64 (1 + bt202.1)) t210 t213 t214 bt215.1 bt215.2 false 0 bt204.1 bt204.2.1 bt204.2.2.1 bt204.2.2.2.1)))))))))) = some r := H
  have A4 := Aside0.mk A40
  clear A40
  replace H := Option.bind_eq_some_iff.mp H
  obtain ⟨⟨t196, t197⟩, A50, H⟩ := H
  replace H : ((tilefarmgen_Tape_Next.f t193 t197 9).bind fun bt198 => ((tilefarmgen_Tape_Next.f t193 bt198.2 4).bind fun bt200 => ((tilefarmgen_Tape_Next.f t193 bt200.2 4).bind fun bt202 => ((tilefarmgen_Tape_Rect.f t193 bt202.2).bind fun bt204 => ((grid_Touching.f k (wrap64 (1 + t196)) (wrap64 (1 + bt198.1)) (wrap64 (1 + bt200.1)) (wrap64 (1 + bt202.1)) bt204.1 bt204.2.1 bt204.2.2.1 bt204.2.2.2.1).bind fun t210 => ((tilefarmgen_Mod.f a1 (wrap64 (1 + t196))).bind fun t213 => ((tilefarmgen_Mod.f a2 (wrap64 (1 + bt198.1))).bind fun t214 => ((grid_Of.f k (wrap64 (1 + t196)) (wrap64 (1 + bt198.1)) (wrap64 (1 + bt200.1)) (wrap64 (1 + bt202.1)) t213 t214).bind fun bt215 => (tilefarmlaw5_GridTouches.l0 k (wrap64 (1 + t196)) (wrap64 (1 + bt198.1)) (wrap64 (1 + bt200.1)) (wrap64 (1 + bt202.1)) t210 t213 t214 bt215.1 bt215.2 false 0 bt204.1 bt204.2.1 bt204.2.2.1 bt204.2.2.2.1))))))))) = some r := H
  have A5 := Aside0.mk A50
  clear A50
  replace H := Option.bind_eq_some_iff.mp H
  obtain ⟨⟨t198, t199⟩, A60, H⟩ := H
  replace H : ((tilefarmgen_Tape_Next.f t193 t199 4).bind fun bt200 => ((tilefarmgen_Tape_Next.f t193 bt200.2 4).bind fun bt202 => ((tilefarmgen_Tape_Rect.f t193 bt202.2).bind fun bt204 => ((grid_Touching.f k (wrap64 (1 + t196)) (wrap64 (1 + t198)) (wrap64 (1 + bt200.1)) (wrap64 (1 + bt202.1)) bt204.1 bt204.2.1 bt204.2.2.1 bt204.2.2.2.1).bind fun t210 => ((tilefarmgen_Mod.f a1 (wrap64 (1 + t196))).bind fun t213 => ((tilefarmgen_Mod.f a2 (wrap64 (1 + t198))).bind fun t214 => ((grid_Of.f k (wrap64 (1 + t196)) (wrap64 (1 + t198)) (wrap64 (1 + bt200.1)) (wrap64 (1 + bt202.1)) t213 t214).bind fun bt215 => (tilefarmlaw5_GridTouches.l0 k (wrap64 (1 + t196)) (wrap64 (1 + t198)) (wrap64 (1 + bt200.1)) (wrap64 (1 + bt202.1)) t210 t213 t214 bt215.1 bt215.2 false 0 bt204.1 bt204.2.1 bt204.2.2.1 bt204.2.2.2.1)))))))) = some r := H
  have A6 := Aside0.mk A60
  clear A60
  replace H := Option.bind_eq_some_iff.mp H
  obtain ⟨⟨t200, t201⟩, A70, H⟩ := H
  replace H : ((tilefarmgen_Tape_Next.f t193 t201 4).bind fun bt202 => ((tilefarmgen_Tape_Rect.f t193 bt202.2).bind fun bt204 => ((grid_Touching.f k (wrap64 (1 + t196)) (wrap64 (1 + t198)) (wrap64 (1 + t200)) (wrap64 (1 + bt202.1)) bt204.1 bt204.2.1 bt204.2.2.1 bt204.2.2.2.1).bind fun t210 => ((tilefarmgen_Mod.f a1 (wrap64 (1 + t196))).bind fun t213 => ((tilefarmgen_Mod.f a2 (wrap64 (1 + t198))).bind fun t214 => ((grid_Of.f k (wrap64 (1 + t196)) (wrap64 (1 + t198)) (wrap64 (1 + t200)) (wrap64 (1 + bt202.1)) t213 t214).bind fun bt215 => (tilefarmlaw5_GridTouches.l0 k (wrap64 (1 + t196)) (wrap64 (1 + t198)) (wrap64 (1 + t200)) (wrap64 (1 + bt202.1)) t210 t213 t214 bt215.1 bt215.2 false 0 bt204.1 bt204.2.1 bt204.2.2.1 bt204.2.2.2.1))))))) = some r := H
  have A7 := Aside0.mk A70
  clear A70
  replace H := Option.bind_eq_some_iff.mp H
  obtain ⟨⟨t202, t203⟩, A80, H⟩ := H
  replace H : ((tilefarmgen_Tape_Rect.f t193 t203).bind fun bt204 => ((grid_Touching.f k (wrap64 (1 + t196)) (wrap64 (1 + t198)) (wrap64 (1 + t200)) (wrap64 (1 + t202)) bt204.1 bt204.2.1 bt204.2.2.1 bt204.2.2.2.1).bind fun t210 => ((tilefarmgen_Mod.f a1 (wrap64 (1 + t196))).bind fun t213 => ((tilefarmgen_Mod.f a2 (wrap64 (1 + t198))).bind fun t214 => ((grid_Of.f k (wrap64 (1 + t196)) (wrap64 (1 + t198)) (wrap64 (1 + t200)) (wrap64 (1 + t202)) t213 t214).bind fun bt215 => (tilefarmlaw5_GridTouches.l0 k (wrap64 (1 + t196)) (wrap64 (1 + t198)) (wrap64 (1 + t200)) (wrap64 (1 + t202)) t210 t213 t214 bt215.1 bt215.2 false 0 bt204.1 bt204.2.1 bt204.2.2.1 bt204.2.2.2.1)))))) = some r := H
  have A8 := Aside0.mk A80
  clear A80
  replace H := Option.bind_eq_some_iff.mp H
  obtain ⟨⟨t204, t205, t206, t207, t208⟩, A90, H⟩ := H
  replace H : ((grid_Touching.f k (wrap64 (1 + t196)) (wrap64 (1 + t198)) (wrap64 (1 + t200)) (wrap64 (1 + t202)) t204 t205 t206 t207).bind fun t210 => ((tilefarmgen_Mod.f a1 (wrap64 (1 + t196))).bind fun t213 => ((tilefarmgen_Mod.f a2 (wrap64 (1 + t198))).bind fun t214 => ((grid_Of.f k (wrap64 (1 + t196)) (wrap64 (1 + t198)) (wrap64 (1 + t200)) (wrap64 (1 + t202)) t213 t214).bind fun bt215 => (tilefarmlaw5_GridTouches.l0 k (wrap64 (1 + t196)) (wrap64 (1 + t198)) (wrap64 (1 + t200)) (wrap64 (1 + t202)) t210 t213 t214 bt215.1 bt215.2 false 0 t204 t205 t206 t207))))) = some r := H
  have A9 := Aside0.mk A90
  clear A90
  replace H := Option.bind_eq_some_iff.mp H
  obtain ⟨t210, A100, H⟩ := H
  replace H : ((tilefarmgen_Mod.f a1 (wrap64 (1 + t196))).bind fun t213 => ((tilefarmgen_Mod.f a2 (wrap64 (1 + t198))).bind fun t214 => ((grid_Of.f k (wrap64 (1 + t196)) (wrap64 (1 + t198)) (wrap64 (1 + t200)) (wrap64 (1 + t202)) t213 t214).bind fun bt215 => (tilefarmlaw5_GridTouches.l0 k (wrap64 (1 + t196)) (wrap64 (1 + t198)) (wrap64 (1 + t200)) (wrap64 (1 + t202)) t210 t213 t214 bt215.1 bt215.2 false 0 t204 t205 t206 t207)))) = some r := H
  have A10 := Aside0.mk A100
  clear A100
  replace H := Option.bind_eq_some_iff.mp H
  obtain ⟨t213, A110, H⟩ := H
  replace H : ((tilefarmgen_Mod.f a2 (wrap64 (1 + t198))).bind fun t214 => ((grid_Of.f k (wrap64 (1 + t196)) (wrap64 (1 + t198)) (wrap64 (1 + t200)) (wrap64 (1 + t202)) t213 t214).bind fun bt215 => (tilefarmlaw5_GridTouches.l0 k (wrap64 (1 + t196)) (wrap64 (1 + t198)) (wrap64 (1 + t200)) (wrap64 (1 + t202)) t210 t213 t214 bt215.1 bt215.2 false 0 t204 t205 t206 t207))) = some r := H
  have A11 := Aside0.mk A110
  clear A110
  replace H := Option.bind_eq_some_iff.mp H
  obtain ⟨t214, A120, H⟩ := H
  replace H : ((grid_Of.f k (wrap64 (1 + t196)) (wrap64 (1 + t198)) (wrap64 (1 + t200)) (wrap64 (1 + t202)) t213 t214).bind fun bt215 => (tilefarmlaw5_GridTouches.l0 k (wrap64 (1 + t196)) (wrap64 (1 + t198)) (wrap64 (1 + t200)) (wrap64 (1 + t202)) t210 t213 t214 bt215.1 bt215.2 false 0 t204 t205 t206 t207)) = some r := H
  have A12 := Aside0.mk A120
  clear A120
  replace H := Option.bind_eq_some_iff.mp H
  obtain ⟨⟨t215, t216⟩, A130, H⟩ := H
  replace H : (tilefarmlaw5_GridTouches.l0 k (wrap64 (1 + t196)) (wrap64 (1 + t198)) (wrap64 (1 + t200)) (wrap64 (1 + t202)) t210 t213 t214 t215 t216 false 0 t204 t205 t206 t207) = some r := H
  have A13 := Aside0.mk A130
  clear A130
  have H' := Aside0.mk H
  clear H
  go_enter Try.func6, Try.ntmps6
  go_wp2_with (first | ((with_reducible refine gate_callee (f := 11) rfl ?_); refine goesL_ (some 23) rfl rfl Try.func11 (by kernel_rfl) rfl #[.slice A0 l0.length c0] rfl (by (try simp only [List.map_toArray, List.map_cons, List.map_nil]); first | done | rfl | (simp only [List.length_drop, List.length_take]; rfl)) ?_; (with_reducible refine (tilefarmgen_New.calls _ _ l0 t193 t194 w _ ?side1 ?side2 ?side3 A4.out).mono ?_); (case side1 => repeat (first | (with_reducible first | exact HB.out | apply below_alloc | apply pw_below_drewN | apply below_drew1) | exact HB.out)); (case side2 => exact HR0.out); (case side3 => exact HC0.out); rintro e w14 ⟨g195, rfl, hi, hb, hb2⟩; refine ⟨_, rfl, ?_⟩; have n0_ := Aside0.mk (hb); have n1_ := Aside0.mk (hi); clear HB; have HB := n0_; have HI195 := n1_; clear n0_ n1_; (try clear hb); (try clear hb2); (try clear hk); (try clear hi)) | ((with_reducible refine gate_callee (f := 13) rfl ?_); refine goesL_ (some 25) rfl rfl Try.func13 (by kernel_rfl) rfl #[.pointer (some ⟨g195, 0, none⟩), .int .i64 9] rfl (by (try simp only [List.map_toArray, List.map_cons, List.map_nil]); first | done | rfl | (simp only [List.length_drop, List.length_take]; rfl)) ?_; (with_reducible refine (tilefarmgen_Tape_Next.calls g195 t193 t194 9 t196 t197 w _ ?side1 ?side2 A5.out).mono ?_); (case side1 => repeat (first | (with_reducible first | exact HI195.out | apply IsS50.alloc | apply IsS50.drewN | apply IsS50.drew | apply IsS50.set_1) | exact HI195.out)); (case side2 => repeat (first | (with_reducible first | exact HB.out | apply below_alloc | apply pw_below_drewN | apply below_drew1 | refine below_set ?_ (IsS50.ge HI195.out)) | exact HB.out)); rintro e w15 ⟨rfl, hi, hb, hk⟩; refine ⟨_, rfl, ?_⟩; have n0_ := Aside0.mk (hb); have n1_ := Aside0.mk (hi); clear HB; clear HI195; have HB := n0_; have HI195 := n1_; clear n0_ n1_; (try clear hb); (try clear hb2); (try clear hk); (try clear hi)) | ((with_reducible refine gate_callee (f := 13) rfl ?_); refine goesL_ (some 28) rfl rfl Try.func13 (by kernel_rfl) rfl #[.pointer (some ⟨g195, 0, none⟩), .int .i64 9] rfl (by (try simp only [List.map_toArray, List.map_cons, List.map_nil]); first | done | rfl | (simp only [List.length_drop, List.length_take]; rfl)) ?_; (with_reducible refine (tilefarmgen_Tape_Next.calls g195 t193 t197 9 t198 t199 w _ ?side1 ?side2 A6.out).mono ?_); (case side1 => repeat (first | (with_reducible first | exact HI195.out | apply IsS50.alloc | apply IsS50.drewN | apply IsS50.drew | apply IsS50.set_1) | exact HI195.out)); (case side2 => repeat (first | (with_reducible first | exact HB.out | apply below_alloc | apply pw_below_drewN | apply below_drew1 | refine below_set ?_ (IsS50.ge HI195.out)) | exact HB.out)); rintro e w16 ⟨rfl, hi, hb, hk⟩; refine ⟨_, rfl, ?_⟩; have n0_ := Aside0.mk (hb); have n1_ := Aside0.mk (hi); clear HB; clear HI195; have HB := n0_; have HI195 := n1_; clear n0_ n1_; (try clear hb); (try clear hb2); (try clear hk); (try clear hi)) | ((with_reducible refine gate_callee (f := 13) rfl ?_); refine goesL_ (some 31) rfl rfl Try.func13 (by kernel_rfl) rfl #[.pointer (some ⟨g195, 0, none⟩), .int .i64 4] rfl (by (try simp only [List.map_toArray, List.map_cons, List.map_nil]); first | done | rfl | (simp only [List.length_drop, List.length_take]; rfl)) ?_; (with_reducible refine (tilefarmgen_Tape_Next.calls g195 t193 t199 4 t200 t201 w _ ?side1 ?side2 A7.out).mono ?_); (case side1 => repeat (first | (with_reducible first | exact HI195.out | apply IsS50.alloc | apply IsS50.drewN | apply IsS50.drew | apply IsS50.set_1) | exact HI195.out)); (case side2 => repeat (first | (with_reducible first | exact HB.out | apply below_alloc | apply pw_below_drewN | apply below_drew1 | refine below_set ?_ (IsS50.ge HI195.out)) | exact HB.out)); rintro e w17 ⟨rfl, hi, hb, hk⟩; refine ⟨_, rfl, ?_⟩; have n0_ := Aside0.mk (hb); have n1_ := Aside0.mk (hi); clear HB; clear HI195; have HB := n0_; have HI195 := n1_; clear n0_ n1_; (try clear hb); (try clear hb2); (try clear hk); (try clear hi)) | ((with_reducible refine gate_callee (f := 13) rfl ?_); refine goesL_ (some 34) rfl rfl Try.func13 (by kernel_rfl) rfl #[.pointer (some ⟨g195, 0, none⟩), .int .i64 4] rfl (by (try simp only [List.map_toArray, List.map_cons, List.map_nil]); first | done | rfl | (simp only [List.length_drop, List.length_take]; rfl)) ?_; (with_reducible refine (tilefarmgen_Tape_Next.calls g195 t193 t201 4 t202 t203 w _ ?side1 ?side2 A8.out).mono ?_); (case side1 => repeat (first | (with_reducible first | exact HI195.out | apply IsS50.alloc | apply IsS50.drewN | apply IsS50.drew | apply IsS50.set_1) | exact HI195.out)); (case side2 => repeat (first | (with_reducible first | exact HB.out | apply below_alloc | apply pw_below_drewN | apply below_drew1 | refine below_set ?_ (IsS50.ge HI195.out)) | exact HB.out)); rintro e w18 ⟨rfl, hi, hb, hk⟩; refine ⟨_, rfl, ?_⟩; have n0_ := Aside0.mk (hb); have n1_ := Aside0.mk (hi); clear HB; clear HI195; have HB := n0_; have HI195 := n1_; clear n0_ n1_; (try clear hb); (try clear hb2); (try clear hk); (try clear hi)) | ((with_reducible refine gate_callee (f := 14) rfl ?_); refine goesL_ (some 37) rfl rfl Try.func14 (by kernel_rfl) rfl #[.pointer (some ⟨g195, 0, none⟩)] rfl (by (try simp only [List.map_toArray, List.map_cons, List.map_nil]); first | done | rfl | (simp only [List.length_drop, List.length_take]; rfl)) ?_; (with_reducible refine (tilefarmgen_Tape_Rect.calls g195 t193 t203 t204 t205 t206 t207 t208 w _ ?side1 ?side2 A9.out).mono ?_); (case side1 => repeat (first | (with_reducible first | exact HI195.out | apply IsS50.alloc | apply IsS50.drewN | apply IsS50.drew | apply IsS50.set_1) | exact HI195.out)); (case side2 => repeat (first | (with_reducible first | exact HB.out | apply below_alloc | apply pw_below_drewN | apply below_drew1 | refine below_set ?_ (IsS50.ge HI195.out)) | exact HB.out)); rintro e w19 ⟨rfl, hi, hb, hk⟩; refine ⟨_, rfl, ?_⟩; have n0_ := Aside0.mk (hb); have n1_ := Aside0.mk (hi); clear HB; clear HI195; have HB := n0_; have HI195 := n1_; clear n0_ n1_; (try clear hb); (try clear hb2); (try clear hk); (try clear hi)) | ((with_reducible refine gate_dst (N := 12) rfl ?_); refine box_event ?hg (N := 12) ?hd (cs := #[.int .i64 0, .int .i64 0, .int .i64 0, .int .i64 0]) (t := 31) ?hr ?_; (case hd => rfl); (case hg => rfl); (case hr => first | (go_simp; done) | (go_simp; rfl)); intro gb209 hg w20 hbox hb; have n0_ := Aside0.mk (IsS50.below (by repeat (first | (with_reducible first | exact HI195.out | apply IsS50.alloc | apply IsS50.drewN | apply IsS50.drew | apply IsS50.set_1) | exact HI195.out)) hb); have n1_ := Aside0.mk (below_step (by repeat (first | (with_reducible first | exact HB.out | apply below_alloc | apply pw_below_drewN | apply below_drew1 | refine below_set ?_ (IsS50.ge HI195.out)) | exact HB.out)) hb); have n2_ := Aside0.mk (hbox); have n3_ := Aside0.mk ((by rw [hg]; exact (below_size (by repeat (first | (with_reducible first | exact HB.out | apply below_alloc | apply pw_below_drewN | apply below_drew1 | refine below_set ?_ (IsS50.ge HI195.out)) | exact HB.out))) : w.heap.size ≤ gb209)); have n4_ := Aside0.mk ((by rw [hg]; exact (below_size (by repeat (first | (with_reducible first | exact HB.out | apply below_alloc | apply pw_below_drewN | apply below_drew1 | refine below_set ?_ (IsS50.ge HI195.out)) | exact HB.out))) : w.heap.size ≤ gb209)); have n5_ := Aside0.mk ((by rw [hg]; exact Nat.ne_of_lt (IsS50.lt (show IsS50 w _ g195 t193 t208 from by repeat (first | (with_reducible first | exact HI195.out | apply IsS50.alloc | apply IsS50.drewN | apply IsS50.drew | apply IsS50.set_1) | exact HI195.out))) : g195 ≠ gb209)); have n6_ := Aside0.mk ((by rw [hg]; exact Nat.ne_of_gt (IsS50.lt (show IsS50 w _ g195 t193 t208 from by repeat (first | (with_reducible first | exact HI195.out | apply IsS50.alloc | apply IsS50.drewN | apply IsS50.drew | apply IsS50.set_1) | exact HI195.out))) : gb209 ≠ g195)); clear HI195; clear HB; have HI195 := n0_; have HB := n1_; have BK209 := n2_; have GW209 := n3_; have GE209 := n4_; have NB195_209 := n5_; have NB209_195 := n6_; clear n0_ n1_ n2_ n3_ n4_ n5_ n6_; clear hb hbox hg; have hnb21 := NB209_195.out; have hnc21 := NB195_209.out; have hcz22_0 : w20.cell? ⟨gb209, 0, none⟩ = some (.int .i64 0) := (blk_cell BK209.out 0).trans rfl; have hcz22_1 : w20.cell? ⟨gb209, 1, none⟩ = some (.int .i64 0) := (blk_cell BK209.out 1).trans rfl; have hcz22_2 : w20.cell? ⟨gb209, 2, none⟩ = some (.int .i64 0) := (blk_cell BK209.out 2).trans rfl; have hcz22_3 : w20.cell? ⟨gb209, 3, none⟩ = some (.int .i64 0) := (blk_cell BK209.out 3).trans rfl; have hfz22_0 := blk_frozen BK209.out 0; have hfz22_1 := blk_frozen BK209.out 1; have hfz22_2 := blk_frozen BK209.out 2; have hfz22_3 := blk_frozen BK209.out 3) | ((with_reducible refine gate_callee (f := 19) rfl ?_); refine goesL_ (some 43) rfl rfl Try.func19 (by kernel_rfl) rfl #[.int .i64 (wrap64 (1 + t196)), .int .i64 (wrap64 (1 + t198)), .int .i64 (wrap64 (1 + t200)), .int .i64 (wrap64 (1 + t202)), .agg #[.int .i64 t204, .int .i64 t205, .int .i64 t206, .int .i64 t207]] rfl (by (try simp only [List.map_toArray, List.map_cons, List.map_nil]); first | done | rfl | (simp only [List.length_drop, List.length_take]; rfl)) ?_; (with_reducible refine (grid_Touching.calls k (wrap64 (1 + t196)) (wrap64 (1 + t198)) (wrap64 (1 + t200)) (wrap64 (1 + t202)) t204 t205 t206 t207 t210 _ A10.out).mono ?_); rintro e w23 ⟨v211, rfl, ho0, hb⟩; refine ⟨_, rfl, ?_⟩; have n0_ := Aside0.mk (Kd.R_lower ho0 (below_size (by repeat (first | (with_reducible first | exact HB.out | apply below_alloc | apply pw_below_drewN | apply below_drew1 | refine below_set ?_ (IsS50.ge HI195.out) | refine below_set ?_ GE209.out) | exact HB.out)))); have n1_ := Aside0.mk (IsS50.below (show IsS50 w ((((w20.setCell ⟨gb209, 0, none⟩ (.int .i64 t204)).setCell ⟨gb209, 1, none⟩ (.int .i64 t205)).setCell ⟨gb209, 2, none⟩ (.int .i64 t206)).setCell ⟨gb209, 3, none⟩ (.int .i64 t207)) g195 t193 t208 from by repeat (first | (with_reducible first | exact HI195.out | apply IsS50.alloc | apply IsS50.drewN | apply IsS50.drew | apply IsS50.set_1 | refine IsS50.far ?_ NB195_209.out _) | exact HI195.out)) hb); have n2_ := Aside0.mk (blk_below (g := gb209) (o := .cells #[.int .i64 t204, .int .i64 t205, .int .i64 t206, .int .i64 t207] 31 (0, 0)) (by (with_reducible repeat (first | refine blk_drewN ?_ _ | refine blk_drew ?_ | refine blk_alloc ?_ _)); refine blk_put (cs := #[.int .i64 t204, .int .i64 t205, .int .i64 t206, .int .i64 0]) ?_ 3 _ rfl; (with_reducible repeat (first | refine blk_drewN ?_ _ | refine blk_drew ?_ | refine blk_alloc ?_ _)); refine blk_put (cs := #[.int .i64 t204, .int .i64 t205, .int .i64 0, .int .i64 0]) ?_ 2 _ rfl; (with_reducible repeat (first | refine blk_drewN ?_ _ | refine blk_drew ?_ | refine blk_alloc ?_ _)); refine blk_put (cs := #[.int .i64 t204, .int .i64 0, .int .i64 0, .int .i64 0]) ?_ 1 _ rfl; (with_reducible repeat (first | refine blk_drewN ?_ _ | refine blk_drew ?_ | refine blk_alloc ?_ _)); refine blk_put (cs := #[.int .i64 0, .int .i64 0, .int .i64 0, .int .i64 0]) ?_ 0 _ rfl; (with_reducible repeat (first | refine blk_drewN ?_ _ | refine blk_drew ?_ | refine blk_alloc ?_ _)); exact BK209.out) hb); have n3_ := Aside0.mk (below_step (by repeat (first | (with_reducible first | exact HB.out | apply below_alloc | apply pw_below_drewN | apply below_drew1 | refine below_set ?_ (IsS50.ge HI195.out) | refine below_set ?_ GE209.out) | exact HB.out)) hb); clear HI195; clear BK209; clear HB; have HO212 := n0_; have HI195 := n1_; have BK209 := n2_; have HB := n3_; clear n0_ n1_ n2_ n3_; (try clear hb); (try clear hb2); (try clear hk); (try clear hi); (try clear ho0)) | ((with_reducible refine gate_callee (f := 7) rfl ?_); refine goesL_ (some 46) rfl rfl Try.func7 (by kernel_rfl) rfl #[.int .i64 a1, .int .i64 (wrap64 (1 + t196))] rfl (by (try simp only [List.map_toArray, List.map_cons, List.map_nil]); first | done | rfl | (simp only [List.length_drop, List.length_take]; rfl)) ?_; (with_reducible refine (tilefarmgen_Mod.calls a1 (wrap64 (1 + t196)) t213 _ A11.out).mono ?_); rintro e w' ⟨rfl, ⟨nd, rfl⟩⟩; refine ⟨_, rfl, ?_⟩) | ((with_reducible refine gate_callee (f := 7) rfl ?_); refine goesL_ (some 49) rfl rfl Try.func7 (by kernel_rfl) rfl #[.int .i64 a2, .int .i64 (wrap64 (1 + t198))] rfl (by (try simp only [List.map_toArray, List.map_cons, List.map_nil]); first | done | rfl | (simp only [List.length_drop, List.length_take]; rfl)) ?_; (with_reducible refine (tilefarmgen_Mod.calls a2 (wrap64 (1 + t198)) t214 _ A12.out).mono ?_); rintro e w' ⟨rfl, ⟨nd, rfl⟩⟩; refine ⟨_, rfl, ?_⟩) | ((with_reducible refine gate_callee (f := 8) rfl ?_); refine goesL_ (some 57) rfl rfl Try.func8 (by kernel_rfl) rfl #[.int .i64 (wrap64 (1 + t196)), .int .i64 (wrap64 (1 + t198)), .int .i64 (wrap64 (1 + t200)), .int .i64 (wrap64 (1 + t202)), .int .i64 t213, .int .i64 t214] rfl (by (try simp only [List.map_toArray, List.map_cons, List.map_nil]); first | done | rfl | (simp only [List.length_drop, List.length_take]; rfl)) ?_; (with_reducible refine (grid_Of.calls k (wrap64 (1 + t196)) (wrap64 (1 + t198)) (wrap64 (1 + t200)) (wrap64 (1 + t202)) t213 t214 t215 t216 _ A13.out).mono ?_); rintro e w' ⟨rfl, ⟨nd, rfl⟩⟩; refine ⟨_, rfl, ?_⟩))
  go_loopg [18, 19] k (fun kq v18 v19 w' => ∃ (x18_1 : Bool) (x19_1 : Int), v18 = .bool x18_1 ∧ v19 = .int .i64 x19_1 ∧ Aside0 (tilefarmlaw5_GridTouches.l0 kq (wrap64 (1 + t196)) (wrap64 (1 + t198)) (wrap64 (1 + t200)) (wrap64 (1 + t202)) t210 t213 t214 t215 t216 x18_1 x19_1 t204 t205 t206 t207 = some r) ∧ Aside0 (kq ≤ k) ∧ Aside0 (Kd.R (Kd.int .i64) 3 w' w.heap.size (fun _ => True) v211 t210) ∧ Aside0 (w'.heap[gb209]? = some (.cells #[.int .i64 t204, .int .i64 t205, .int .i64 t206, .int .i64 t207] 31 (0, 0))) ∧ Aside0 (Below w.heap.size w w'))
  case atStart => exact ⟨(false), (0), (by first | rfl | (simp; done) | (simp [*]; done)), (by first | rfl | (simp; done) | (simp [*]; done)), H', ⟨Nat.le_refl _⟩, ⟨by (with_reducible repeat (first | apply Kd.R_alloc | apply Kd.R_drewN | apply Kd.R_drew)); exact HO212.out⟩, ⟨by (with_reducible repeat (first | refine blk_drewN ?_ _ | refine blk_drew ?_ | refine blk_alloc ?_ _)); exact BK209.out⟩, ⟨by repeat (first | (with_reducible first | exact HB.out | apply below_alloc | apply pw_below_drewN | apply below_drew1 | refine below_set ?_ (IsS50.ge HI195.out) | refine below_set ?_ GE209.out) | exact HB.out)⟩⟩
  case round =>
    clear H'
    try clear c1
    try clear c2
    try clear p2
    try clear c6
    try clear p6
    try clear c7
    try clear c8
    try clear c11
    try clear c13
    try clear c14
    try clear c19
    try clear c21
    try clear hcz22_0
    try clear hcz22_1
    try clear hcz22_2
    try clear hcz22_3
    try clear hfz22_0
    try clear hfz22_1
    try clear hfz22_2
    try clear hfz22_3
    obtain ⟨x18_1, x19_1, rfl, rfl, HA, HK1, HO_13, BK209, HB⟩ := hrel
    cases gk with
    | zero => exact absurd HA.out (by simp [tilefarmlaw5_GridTouches.l0])
    | succ k1 =>
      have H := HA.out
      clear HA
      simp only [tilefarmlaw5_GridTouches.l0] at H
      by_cases c24 : x19_1 < (t210.length : Int)
      · rw [if_pos c24] at H
        have c24b0 : decide (x19_1 < (t210.length : Int)) = true := decide_eq_true c24
        clear c24
        by_cases c25 : 0 ≤ x19_1
        · rw [if_pos c25] at H
          have c25b0 : decide (0 ≤ x19_1) = true := decide_eq_true c25
          clear c25
          replace H := Option.bind_eq_some_iff.mp H
          obtain ⟨⟨t221, t222, t223, t224, t225⟩, A260, H⟩ := H
          replace H : (if t225 = true then ((tilefarmref2_Intersect.f t221 t222 t223 t224 t204 t205 t206 t207).bind fun bt227 => ((tilefarmref2_Empty.f bt227.1 bt227.2.1 bt227.2.2.1 bt227.2.2.2).bind fun t231 => (if t231 = true then (some false) else (if x19_1 > 0 then (if 0 ≤ (wrap64 (x19_1 - 1)) then (if (wrap64 (x19_1 - 1)) < (t210.length : Int) then (if (rd t210 x19_1) ≤ (rd t210 (wrap64 (x19_1 - 1))) then (some false) else (if x18_1 = true then (tilefarmlaw5_GridTouches.l0 k1 (wrap64 (1 + t196)) (wrap64 (1 + t198)) (wrap64 (1 + t200)) (wrap64 (1 + t202)) t210 t213 t214 t215 t216 true (wrap64 (x19_1 + 1)) t204 t205 t206 t207) else (tilefarmlaw5_GridTouches.l0 k1 (wrap64 (1 + t196)) (wrap64 (1 + t198)) (wrap64 (1 + t200)) (wrap64 (1 + t202)) t210 t213 t214 t215 t216 ((rd t210 x19_1) == t215) (wrap64 (x19_1 + 1)) t204 t205 t206 t207))) else (none)) else (none)) else (if x18_1 = true then (tilefarmlaw5_GridTouches.l0 k1 (wrap64 (1 + t196)) (wrap64 (1 + t198)) (wrap64 (1 + t200)) (wrap64 (1 + t202)) t210 t213 t214 t215 t216 true (wrap64 (x19_1 + 1)) t204 t205 t206 t207) else (tilefarmlaw5_GridTouches.l0 k1 (wrap64 (1 + t196)) (wrap64 (1 + t198)) (wrap64 (1 + t200)) (wrap64 (1 + t202)) t210 t213 t214 t215 t216 ((rd t210 x19_1) == t215) (wrap64 (x19_1 + 1)) t204 t205 t206 t207)))))) else (some false)) = some r := H
          have A26 := Aside0.mk A260
          clear A260
          by_cases c27 : t225 = true
          · subst c27
            have H1 : ((tilefarmref2_Intersect.f t221 t222 t223 t224 t204 t205 t206 t207).bind fun bt227 => ((tilefarmref2_Empty.f bt227.1 bt227.2.1 bt227.2.2.1 bt227.2.2.2).bind fun t231 => (if t231 = true then (some false) else (if x19_1 > 0 then (if 0 ≤ (wrap64 (x19_1 - 1)) then (if (wrap64 (x19_1 - 1)) < (t210.length : Int) then (if (rd t210 x19_1) ≤ (rd t210 (wrap64 (x19_1 - 1))) then (some false) else (if x18_1 = true then (tilefarmlaw5_GridTouches.l0 k1 (wrap64 (1 + t196)) (wrap64 (1 + t198)) (wrap64 (1 + t200)) (wrap64 (1 + t202)) t210 t213 t214 t215 t216 true (wrap64 (x19_1 + 1)) t204 t205 t206 t207) else (tilefarmlaw5_GridTouches.l0 k1 (wrap64 (1 + t196)) (wrap64 (1 + t198)) (wrap64 (1 + t200)) (wrap64 (1 + t202)) t210 t213 t214 t215 t216 ((rd t210 x19_1) == t215) (wrap64 (x19_1 + 1)) t204 t205 t206 t207))) else (none)) else (none)) else (if x18_1 = true then (tilefarmlaw5_GridTouches.l0 k1 (wrap64 (1 + t196)) (wrap64 (1 + t198)) (wrap64 (1 + t200)) (wrap64 (1 + t202)) t210 t213 t214 t215 t216 true (wrap64 (x19_1 + 1)) t204 t205 t206 t207) else (tilefarmlaw5_GridTouches.l0 k1 (wrap64 (1 + t196)) (wrap64 (1 + t198)) (wrap64 (1 + t200)) (wrap64 (1 + t202)) t210 t213 t214 t215 t216 ((rd t210 x19_1) == t215) (wrap64 (x19_1 + 1)) t204 t205 t206 t207)))))) = some r := by rw [if_pos rfl] at H; exact H
            clear H
            have H := H1
            clear H1
            replace H := Option.bind_eq_some_iff.mp H
            obtain ⟨⟨t227, t228, t229, t230⟩, A280, H⟩ := H
            replace H : ((tilefarmref2_Empty.f t227 t228 t229 t230).bind fun t231 => (if t231 = true then (some false) else (if x19_1 > 0 then (if 0 ≤ (wrap64 (x19_1 - 1)) then (if (wrap64 (x19_1 - 1)) < (t210.length : Int) then (if (rd t210 x19_1) ≤ (rd t210 (wrap64 (x19_1 - 1))) then (some false) else (if x18_1 = true then (tilefarmlaw5_GridTouches.l0 k1 (wrap64 (1 + t196)) (wrap64 (1 + t198)) (wrap64 (1 + t200)) (wrap64 (1 + t202)) t210 t213 t214 t215 t216 true (wrap64 (x19_1 + 1)) t204 t205 t206 t207) else (tilefarmlaw5_GridTouches.l0 k1 (wrap64 (1 + t196)) (wrap64 (1 + t198)) (wrap64 (1 + t200)) (wrap64 (1 + t202)) t210 t213 t214 t215 t216 ((rd t210 x19_1) == t215) (wrap64 (x19_1 + 1)) t204 t205 t206 t207))) else (none)) else (none)) else (if x18_1 = true then (tilefarmlaw5_GridTouches.l0 k1 (wrap64 (1 + t196)) (wrap64 (1 + t198)) (wrap64 (1 + t200)) (wrap64 (1 + t202)) t210 t213 t214 t215 t216 true (wrap64 (x19_1 + 1)) t204 t205 t206 t207) else (tilefarmlaw5_GridTouches.l0 k1 (wrap64 (1 + t196)) (wrap64 (1 + t198)) (wrap64 (1 + t200)) (wrap64 (1 + t202)) t210 t213 t214 t215 t216 ((rd t210 x19_1) == t215) (wrap64 (x19_1 + 1)) t204 t205 t206 t207))))) = some r := H
            have A28 := Aside0.mk A280
            clear A280
            replace H := Option.bind_eq_some_iff.mp H
            obtain ⟨t231, A290, H⟩ := H
            replace H : (if t231 = true then (some false) else (if x19_1 > 0 then (if 0 ≤ (wrap64 (x19_1 - 1)) then (if (wrap64 (x19_1 - 1)) < (t210.length : Int) then (if (rd t210 x19_1) ≤ (rd t210 (wrap64 (x19_1 - 1))) then (some false) else (if x18_1 = true then (tilefarmlaw5_GridTouches.l0 k1 (wrap64 (1 + t196)) (wrap64 (1 + t198)) (wrap64 (1 + t200)) (wrap64 (1 + t202)) t210 t213 t214 t215 t216 true (wrap64 (x19_1 + 1)) t204 t205 t206 t207) else (tilefarmlaw5_GridTouches.l0 k1 (wrap64 (1 + t196)) (wrap64 (1 + t198)) (wrap64 (1 + t200)) (wrap64 (1 + t202)) t210 t213 t214 t215 t216 ((rd t210 x19_1) == t215) (wrap64 (x19_1 + 1)) t204 t205 t206 t207))) else (none)) else (none)) else (if x18_1 = true then (tilefarmlaw5_GridTouches.l0 k1 (wrap64 (1 + t196)) (wrap64 (1 + t198)) (wrap64 (1 + t200)) (wrap64 (1 + t202)) t210 t213 t214 t215 t216 true (wrap64 (x19_1 + 1)) t204 t205 t206 t207) else (tilefarmlaw5_GridTouches.l0 k1 (wrap64 (1 + t196)) (wrap64 (1 + t198)) (wrap64 (1 + t200)) (wrap64 (1 + t202)) t210 t213 t214 t215 t216 ((rd t210 x19_1) == t215) (wrap64 (x19_1 + 1)) t204 t205 t206 t207)))) = some r := H
            have A29 := Aside0.mk A290
            clear A290
            by_cases c30 : t231 = true
            · subst c30
              have H1 : (some false) = some r := by rw [if_pos rfl] at H; exact H
              clear H
              have H := H1
              clear H1
              exact absurd ((Option.some.inj H).trans HT.out) (by decide)
            · replace c30 := Bool.eq_false_iff.mpr c30
              subst c30
              have H1 : (if x19_1 > 0 then (if 0 ≤ (wrap64 (x19_1 - 1)) then (if (wrap64 (x19_1 - 1)) < (t210.length : Int) then (if (rd t210 x19_1) ≤ (rd t210 (wrap64 (x19_1 - 1))) then (some false) else (if x18_1 = true then (tilefarmlaw5_GridTouches.l0 k1 (wrap64 (1 + t196)) (wrap64 (1 + t198)) (wrap64 (1 + t200)) (wrap64 (1 + t202)) t210 t213 t214 t215 t216 true (wrap64 (x19_1 + 1)) t204 t205 t206 t207) else (tilefarmlaw5_GridTouches.l0 k1 (wrap64 (1 + t196)) (wrap64 (1 + t198)) (wrap64 (1 + t200)) (wrap64 (1 + t202)) t210 t213 t214 t215 t216 ((rd t210 x19_1) == t215) (wrap64 (x19_1 + 1)) t204 t205 t206 t207))) else (none)) else (none)) else (if x18_1 = true then (tilefarmlaw5_GridTouches.l0 k1 (wrap64 (1 + t196)) (wrap64 (1 + t198)) (wrap64 (1 + t200)) (wrap64 (1 + t202)) t210 t213 t214 t215 t216 true (wrap64 (x19_1 + 1)) t204 t205 t206 t207) else (tilefarmlaw5_GridTouches.l0 k1 (wrap64 (1 + t196)) (wrap64 (1 + t198)) (wrap64 (1 + t200)) (wrap64 (1 + t202)) t210 t213 t214 t215 t216 ((rd t210 x19_1) == t215) (wrap64 (x19_1 + 1)) t204 t205 t206 t207))) = some r := by rw [if_neg (show ¬ (false = true) by decide)] at H; exact H
              clear H
              have H := H1
              clear H1
              by_cases c31 : x19_1 > 0
              · rw [if_pos c31] at H
                have c31b0 : decide (0 < x19_1) = true := decide_eq_true c31
                clear c31
                obtain ⟨ji32, hji32⟩ : ∃ j_ : Int, (wrap64 (x19_1 - 1)) = j_ := ⟨_, rfl⟩
                replace H : (if 0 ≤ (ji32) then (if (ji32) < (t210.length : Int) then (if (rd t210 x19_1) ≤ (rd t210 (ji32)) then (some false) else (if x18_1 = true then (tilefarmlaw5_GridTouches.l0 k1 (wrap64 (1 + t196)) (wrap64 (1 + t198)) (wrap64 (1 + t200)) (wrap64 (1 + t202)) t210 t213 t214 t215 t216 true (wrap64 (x19_1 + 1)) t204 t205 t206 t207) else (tilefarmlaw5_GridTouches.l0 k1 (wrap64 (1 + t196)) (wrap64 (1 + t198)) (wrap64 (1 + t200)) (wrap64 (1 + t202)) t210 t213 t214 t215 t216 ((rd t210 x19_1) == t215) (wrap64 (x19_1 + 1)) t204 t205 t206 t207))) else (none)) else (none)) = some r := by first | (rw [hji32] at H; exact H) | (simp only [hji32] at H ⊢; exact H)
                (try rw [hji32] at A26)
                (try rw [hji32] at A28)
                (try rw [hji32] at A29)
                have hji32w : (IntKind.i64.wrap (x19_1 - 1)) = ji32 := (i64_w _).trans hji32
                by_cases c33 : 0 ≤ (ji32)
                · rw [if_pos c33] at H
                  have c33b0 : decide (0 ≤ (ji32)) = true := decide_eq_true c33
                  clear c33
                  by_cases c34 : (ji32) < (t210.length : Int)
                  · rw [if_pos c34] at H
                    have c34b0 : decide ((ji32) < (t210.length : Int)) = true := decide_eq_true c34
                    clear c34
                    by_cases c35 : (rd t210 x19_1) ≤ (rd t210 (ji32))
                    · rw [if_pos c35] at H
                      have c35b0 : decide ((rd t210 x19_1) ≤ (rd t210 (ji32))) = true := decide_eq_true c35
                      clear c35
                      exact absurd ((Option.some.inj H).trans HT.out) (by decide)
                    · rw [if_neg c35] at H
                      have c35b0 : decide ((rd t210 x19_1) ≤ (rd t210 (ji32))) = false := decide_eq_false c35
                      clear c35
                      by_cases c36 : x18_1 = true
                      · subst c36
                        have H1 : (tilefarmlaw5_GridTouches.l0 k1 (wrap64 (1 + t196)) (wrap64 (1 + t198)) (wrap64 (1 + t200)) (wrap64 (1 + t202)) t210 t213 t214 t215 t216 true (wrap64 (x19_1 + 1)) t204 t205 t206 t207) = some r := by rw [if_pos rfl] at H; exact H
                        clear H
                        have H := H1
                        clear H1
                        have H' := Aside0.mk H
                        clear H
                        obtain ⟨Ao37, co37, eo37⟩ := Kd.R_slice HO_13.out
                        subst eo37
                        have p220 : 0 ≤ (x19_1 : Int) := of_decide_eq_true (by first | (with_reducible assumption) | assumption)
                        have q220 : x19_1 < (t210.length : Int) := of_decide_eq_true (by first | (with_reducible assumption) | assumption)
                        obtain ⟨ad220, e220, hx220_0⟩ := Kd.at_int (Kd.R_reads' HO_13.out).2.2 x19_1 p220 q220
                        cases e220
                        replace p220 := eq_true p220
                        replace q220 := eq_true q220
                        try go_wp2_with (first | ((with_reducible refine gate_callee (f := 15) rfl ?_); refine goesL_ (some 75) rfl rfl Try.func15 (by kernel_rfl) rfl #[.int .i64 (wrap64 (1 + t196)), .int .i64 (wrap64 (1 + t198)), .int .i64 (wrap64 (1 + t200)), .int .i64 (wrap64 (1 + t202)), .int .i64 (rd t210 x19_1)] rfl (by (try simp only [List.map_toArray, List.map_cons, List.map_nil]); first | done | rfl | (simp only [List.length_drop, List.length_take]; rfl)) ?_; (with_reducible refine (grid_Tile.calls k1 (wrap64 (1 + t196)) (wrap64 (1 + t198)) (wrap64 (1 + t200)) (wrap64 (1 + t202)) (rd t210 x19_1) t221 t222 t223 t224 true _ A26.out).mono ?_); rintro e w38 ⟨rfl, hb⟩; refine ⟨_, rfl, ?_⟩; have n0_ := Aside0.mk (Kd.R_below (by (with_reducible repeat (first | apply Kd.R_alloc | apply Kd.R_drewN | apply Kd.R_drew)); exact HO_13.out) hb); have n1_ := Aside0.mk (blk_below (g := gb209) (o := .cells #[.int .i64 t204, .int .i64 t205, .int .i64 t206, .int .i64 t207] 31 (0, 0)) (by (with_reducible repeat (first | refine blk_drewN ?_ _ | refine blk_drew ?_ | refine blk_alloc ?_ _)); exact BK209.out) hb); have n2_ := Aside0.mk (below_step (by repeat (first | (with_reducible first | exact HB.out | apply below_alloc | apply pw_below_drewN | apply below_drew1 | refine below_set ?_ GE209.out) | exact HB.out)) hb); clear HO_13; clear BK209; clear HB; have HO_13 := n0_; have BK209 := n1_; have HB := n2_; clear n0_ n1_ n2_; (try clear hb); (try clear hb2); (try clear hk); (try clear hi)) | ((with_reducible refine gate_dst (N := 20) rfl ?_); refine box_event ?hg (N := 20) ?hd (cs := #[.int .i64 0, .int .i64 0, .int .i64 0, .int .i64 0]) (t := 31) ?hr ?_; (case hd => rfl); (case hg => rfl); (case hr => first | (go_simp; done) | (go_simp; rfl)); intro gb226 hg w39 hbox hb; have n0_ := Aside0.mk (Kd.R_below (by (with_reducible repeat (first | apply Kd.R_alloc | apply Kd.R_drewN | apply Kd.R_drew)); exact HO_13.out) hb); have n1_ := Aside0.mk (blk_below (g := gb209) (o := .cells #[.int .i64 t204, .int .i64 t205, .int .i64 t206, .int .i64 t207] 31 (0, 0)) (by (with_reducible repeat (first | refine blk_drewN ?_ _ | refine blk_drew ?_ | refine blk_alloc ?_ _)); exact BK209.out) hb); have n2_ := Aside0.mk (below_step (by repeat (first | (with_reducible first | exact HB.out | apply below_alloc | apply pw_below_drewN | apply below_drew1 | refine below_set ?_ GE209.out) | exact HB.out)) hb); have n3_ := Aside0.mk (hbox); have n4_ := Aside0.mk ((by rw [hg]; exact (below_size (by repeat (first | (with_reducible first | exact HB.out | apply below_alloc | apply pw_below_drewN | apply below_drew1 | refine below_set ?_ GE209.out) | exact HB.out))) : w.heap.size ≤ gb226)); have n5_ := Aside0.mk ((by rw [hg]; exact (below_size (by repeat (first | (with_reducible first | exact HB.out | apply below_alloc | apply pw_below_drewN | apply below_drew1 | refine below_set ?_ GE209.out) | exact HB.out))) : w.heap.size ≤ gb226)); have n6_ := Aside0.mk ((by rw [hg]; exact Nat.ne_of_lt (blk_lt (g := gb209) (o := .cells #[.int .i64 t204, .int .i64 t205, .int .i64 t206, .int .i64 t207] 31 (0, 0)) (by (with_reducible repeat (first | refine blk_drewN ?_ _ | refine blk_drew ?_ | refine blk_alloc ?_ _)); exact BK209.out)) : gb209 ≠ gb226)); have n7_ := Aside0.mk ((by rw [hg]; exact Nat.ne_of_gt (blk_lt (g := gb209) (o := .cells #[.int .i64 t204, .int .i64 t205, .int .i64 t206, .int .i64 t207] 31 (0, 0)) (by (with_reducible repeat (first | refine blk_drewN ?_ _ | refine blk_drew ?_ | refine blk_alloc ?_ _)); exact BK209.out)) : gb226 ≠ gb209)); clear HO_13; clear BK209; clear HB; have HO_13 := n0_; have BK209 := n1_; have HB := n2_; have BK226 := n3_; have GW226 := n4_; have GE226 := n5_; have NB209_226 := n6_; have NB226_209 := n7_; clear n0_ n1_ n2_ n3_ n4_ n5_ n6_ n7_; clear hb hbox hg; have hnb40 := NB226_209.out; have hnc40 := NB209_226.out; have hcz41_0 : w39.cell? ⟨gb226, 0, none⟩ = some (.int .i64 0) := (blk_cell BK226.out 0).trans rfl; have hcz41_1 : w39.cell? ⟨gb226, 1, none⟩ = some (.int .i64 0) := (blk_cell BK226.out 1).trans rfl; have hcz41_2 : w39.cell? ⟨gb226, 2, none⟩ = some (.int .i64 0) := (blk_cell BK226.out 2).trans rfl; have hcz41_3 : w39.cell? ⟨gb226, 3, none⟩ = some (.int .i64 0) := (blk_cell BK226.out 3).trans rfl; have hfz41_0 := blk_frozen BK226.out 0; have hfz41_1 := blk_frozen BK226.out 1; have hfz41_2 := blk_frozen BK226.out 2; have hfz41_3 := blk_frozen BK226.out 3))
                        have n0_ : Aside0 (Kd.R (Kd.int .i64) 3 ((((w39.setCell ⟨gb226, 0, none⟩ (.int .i64 t221)).setCell ⟨gb226, 1, none⟩ (.int .i64 t222)).setCell ⟨gb226, 2, none⟩ (.int .i64 t223)).setCell ⟨gb226, 3, none⟩ (.int .i64 t224)) w.heap.size (fun _ => True) (.slice (some ad220) t210.length co37) t210) := ⟨by (with_reducible repeat (first | apply Kd.R_alloc | apply Kd.R_drewN | apply Kd.R_drew)); exact Kd.R_mono (Kd.R_far (p := ⟨gb226, 3, none⟩) (Kd.R_far (p := ⟨gb226, 2, none⟩) (Kd.R_far (p := ⟨gb226, 1, none⟩) (Kd.R_far (p := ⟨gb226, 0, none⟩) (Kd.R_types HO_13.out BK226.out (by decide)) (fun _ hk => hk.2) (.int .i64 t221)) (fun _ hk => hk.2) (.int .i64 t222)) (fun _ hk => hk.2) (.int .i64 t223)) (fun _ hk => hk.2) (.int .i64 t224)) (fun _ hk => trivial)⟩
                        have n1_ : Aside0 (((((w39.setCell ⟨gb226, 0, none⟩ (.int .i64 t221)).setCell ⟨gb226, 1, none⟩ (.int .i64 t222)).setCell ⟨gb226, 2, none⟩ (.int .i64 t223)).setCell ⟨gb226, 3, none⟩ (.int .i64 t224)).heap[gb209]? = some (.cells #[.int .i64 t204, .int .i64 t205, .int .i64 t206, .int .i64 t207] 31 (0, 0))) := ⟨by (with_reducible repeat (first | refine blk_drewN ?_ _ | refine blk_drew ?_ | refine blk_alloc ?_ _)); refine blk_far ?_ NB209_226.out _; (with_reducible repeat (first | refine blk_drewN ?_ _ | refine blk_drew ?_ | refine blk_alloc ?_ _)); refine blk_far ?_ NB209_226.out _; (with_reducible repeat (first | refine blk_drewN ?_ _ | refine blk_drew ?_ | refine blk_alloc ?_ _)); refine blk_far ?_ NB209_226.out _; (with_reducible repeat (first | refine blk_drewN ?_ _ | refine blk_drew ?_ | refine blk_alloc ?_ _)); refine blk_far ?_ NB209_226.out _; (with_reducible repeat (first | refine blk_drewN ?_ _ | refine blk_drew ?_ | refine blk_alloc ?_ _)); exact BK209.out⟩
                        have n2_ : Aside0 (((((w39.setCell ⟨gb226, 0, none⟩ (.int .i64 t221)).setCell ⟨gb226, 1, none⟩ (.int .i64 t222)).setCell ⟨gb226, 2, none⟩ (.int .i64 t223)).setCell ⟨gb226, 3, none⟩ (.int .i64 t224)).heap[gb226]? = some (.cells #[.int .i64 t221, .int .i64 t222, .int .i64 t223, .int .i64 t224] 31 (0, 0))) := ⟨by (with_reducible repeat (first | refine blk_drewN ?_ _ | refine blk_drew ?_ | refine blk_alloc ?_ _)); refine blk_put (cs := #[.int .i64 t221, .int .i64 t222, .int .i64 t223, .int .i64 0]) ?_ 3 _ rfl; (with_reducible repeat (first | refine blk_drewN ?_ _ | refine blk_drew ?_ | refine blk_alloc ?_ _)); refine blk_put (cs := #[.int .i64 t221, .int .i64 t222, .int .i64 0, .int .i64 0]) ?_ 2 _ rfl; (with_reducible repeat (first | refine blk_drewN ?_ _ | refine blk_drew ?_ | refine blk_alloc ?_ _)); refine blk_put (cs := #[.int .i64 t221, .int .i64 0, .int .i64 0, .int .i64 0]) ?_ 1 _ rfl; (with_reducible repeat (first | refine blk_drewN ?_ _ | refine blk_drew ?_ | refine blk_alloc ?_ _)); refine blk_put (cs := #[.int .i64 0, .int .i64 0, .int .i64 0, .int .i64 0]) ?_ 0 _ rfl; (with_reducible repeat (first | refine blk_drewN ?_ _ | refine blk_drew ?_ | refine blk_alloc ?_ _)); exact BK226.out⟩
                        have n3_ : Aside0 (Below w.heap.size w ((((w39.setCell ⟨gb226, 0, none⟩ (.int .i64 t221)).setCell ⟨gb226, 1, none⟩ (.int .i64 t222)).setCell ⟨gb226, 2, none⟩ (.int .i64 t223)).setCell ⟨gb226, 3, none⟩ (.int .i64 t224))) := ⟨by repeat (first | (with_reducible first | exact HB.out | apply below_alloc | apply pw_below_drewN | apply below_drew1 | refine below_set ?_ GE209.out | refine below_set ?_ GE226.out) | exact HB.out)⟩
                        (try clear HO_13)
                        (try clear BK209)
                        (try clear BK226)
                        (try clear HB)
                        generalize ((((w39.setCell ⟨gb226, 0, none⟩ (.int .i64 t221)).setCell ⟨gb226, 1, none⟩ (.int .i64 t222)).setCell ⟨gb226, 2, none⟩ (.int .i64 t223)).setCell ⟨gb226, 3, none⟩ (.int .i64 t224)) = w42 at n0_ n1_ n2_ n3_ ⊢
                        have HO_13 := n0_
                        have BK209 := n1_
                        have BK226 := n2_
                        have HB := n3_
                        clear n0_ n1_ n2_ n3_
                        have n0_ := Aside0.mk (Kd.R_drew HO_13.out)
                        have n1_ := Aside0.mk (blk_drew BK209.out)
                        have n2_ := Aside0.mk (blk_drew BK226.out)
                        have n3_ := Aside0.mk (below_drew1 HB.out)
                        clear HO_13
                        clear BK209
                        clear BK226
                        clear HB
                        have HO_13 := n0_
                        have BK209 := n1_
                        have BK226 := n2_
                        have HB := n3_
                        clear n0_ n1_ n2_ n3_
                        have p232 : 0 ≤ (x19_1 : Int) := of_decide_eq_true (by first | (with_reducible assumption) | assumption)
                        have q232 : x19_1 < (t210.length : Int) := of_decide_eq_true (by first | (with_reducible assumption) | assumption)
                        obtain ⟨ad232, e232, hx232_0⟩ := Kd.at_int (Kd.R_reads' HO_13.out).2.2 x19_1 p232 q232
                        obtain rfl : ad220 = ad232 := (by injection e232)
                        replace p232 := eq_true p232
                        replace q232 := eq_true q232
                        have p233 : 0 ≤ ((ji32) : Int) := of_decide_eq_true (by first | (with_reducible assumption) | assumption)
                        have q233 : (ji32) < (t210.length : Int) := of_decide_eq_true (by first | (with_reducible assumption) | assumption)
                        obtain ⟨ad233, e233, hx233_0⟩ := Kd.at_int (Kd.R_reads' HO_13.out).2.2 (ji32) p233 q233
                        obtain rfl : ad220 = ad233 := (by injection e233)
                        replace p233 := eq_true p233
                        replace q233 := eq_true q233
                        refine start_ (n := 24) (S := fun w' => w'.cell? ⟨gb226, 0, none⟩ = some (.int .i64 t221) ∧ w'.cell? ⟨gb226, 1, none⟩ = some (.int .i64 t222) ∧ w'.cell? ⟨gb226, 2, none⟩ = some (.int .i64 t223) ∧ w'.cell? ⟨gb226, 3, none⟩ = some (.int .i64 t224) ∧ w'.cell? ⟨gb209, 0, none⟩ = some (.int .i64 t204) ∧ w'.cell? ⟨gb209, 1, none⟩ = some (.int .i64 t205) ∧ w'.cell? ⟨gb209, 2, none⟩ = some (.int .i64 t206) ∧ w'.cell? ⟨gb209, 3, none⟩ = some (.int .i64 t207) ∧ w'.cell? (ad220.add (x19_1).toNat) = some (.int .i64 (rd t210 x19_1)) ∧ w'.cell? (ad220.add ((ji32)).toNat) = some (.int .i64 (rd t210 (ji32)))) (ds := []) #[false, false, false, false, false, false, false, false, false, false, false, false, false, false, false, false, false, false, false, false, false, false, false, false] (by kernel_rfl) rfl rfl ⟨(blk_cell BK226.out 0).trans rfl, (blk_cell BK226.out 1).trans rfl, (blk_cell BK226.out 2).trans rfl, (blk_cell BK226.out 3).trans rfl, (blk_cell BK209.out 0).trans rfl, (blk_cell BK209.out 1).trans rfl, (blk_cell BK209.out 2).trans rfl, (blk_cell BK209.out 3).trans rfl, hx232_0, hx233_0⟩ (fun hHeld => ?_); refine with_tabW tilefarmlaw5_GridTouches.tab12 tilefarmlaw5_GridTouches.bits12 (fun HT_ HW_ => ?_)
                        generalize w42.drew = w43 at HO_13 BK209 BK226 HB hx232_0 hx233_0 hHeld ⊢
                        refine pure_ (i := 0) (N := some 78) (v := ?_) (a' := ?_) #[true, false, false, false, false, false, false, false, false, false, false, false, false, false, false, false, false, false, false, false, false, false, false, false] rfl rfl (any_of HT_.out (by kernel_rfl)) (fun _ _ _ h => h) (Or.inl ⟨by rfl, ?_⟩) ?_ ?_
                        rotate_left
                        · intro w'
                          go_simp
                          with_reducible rfl
                        rotate_left
                        · simp only [Act.put, List.setIfInBounds_toArray, List.set_cons_zero, List.set_cons_succ, i64_w, i32_w]
                          rfl
                        refine pure_ (i := 1) (N := some 79) (v := ?_) (a' := ?_) #[true, true, false, false, false, false, false, false, false, false, false, false, false, false, false, false, false, false, false, false, false, false, false, false] rfl rfl (any_of HT_.out (by kernel_rfl)) (fun _ _ _ h => h) (Or.inl ⟨by rfl, ?_⟩) ?_ ?_
                        rotate_left
                        · intro w'
                          go_simp
                          with_reducible rfl
                        rotate_left
                        · simp only [Act.put, List.setIfInBounds_toArray, List.set_cons_zero, List.set_cons_succ, i64_w, i32_w]
                          rfl
                        refine pure_ (i := 2) (N := some 80) (v := ?_) (a' := ?_) #[true, true, true, false, false, false, false, false, false, false, false, false, false, false, false, false, false, false, false, false, false, false, false, false] rfl rfl (any_of HT_.out (by kernel_rfl)) (fun _ _ _ h => h) (Or.inl ⟨by rfl, ?_⟩) ?_ ?_
                        rotate_left
                        · intro w'
                          go_simp
                          with_reducible rfl
                        rotate_left
                        · simp only [Act.put, List.setIfInBounds_toArray, List.set_cons_zero, List.set_cons_succ, i64_w, i32_w]
                          rfl
                        refine take_ (i := 3) (N := some 81) (v := ?_) (a' := ?_) #[true, true, true, true, false, false, false, false, false, false, false, false, false, false, false, false, false, false, false, false, false, false, false, false] rfl rfl (take_ofW HT_.out HW_.out (by kernel_rfl)) (fun _ _ _ h => h) (Or.inl ⟨by rfl, ?_⟩) hHeld ?_ ?_
                        rotate_left
                        · rintro w' ⟨s0, s1, s2, s3, s4, s5, s6, s7, s8, s9⟩
                          go_simp
                          with_reducible rfl
                        rotate_left
                        · simp only [Act.put, List.setIfInBounds_toArray, List.set_cons_zero, List.set_cons_succ, i64_w, i32_w]
                          rfl
                        refine take_ (i := 4) (N := some 82) (v := ?_) (a' := ?_) #[true, true, true, true, true, false, false, false, false, false, false, false, false, false, false, false, false, false, false, false, false, false, false, false] rfl rfl (take_ofW HT_.out HW_.out (by kernel_rfl)) (fun _ _ _ h => h) (Or.inl ⟨by rfl, ?_⟩) hHeld ?_ ?_
                        rotate_left
                        · rintro w' ⟨s0, s1, s2, s3, s4, s5, s6, s7, s8, s9⟩
                          go_simp
                          with_reducible rfl
                        rotate_left
                        · simp only [Act.put, List.setIfInBounds_toArray, List.set_cons_zero, List.set_cons_succ, i64_w, i32_w]
                          rfl
                        refine one_ (i := 5) (N := some 83) #[true, true, true, true, true, true, false, false, false, false, false, false, false, false, false, false, false, false, false, false, false, false, false, false] rfl rfl (one_of HT_.out (by kernel_rfl)) (by decide) (fun K hK => ?_)
                        refine goes_ Try.func21 (by kernel_rfl) rfl #[.agg #[.int .i64 t221, .int .i64 t222, .int .i64 t223, .int .i64 t224], .agg #[.int .i64 t204, .int .i64 t205, .int .i64 t206, .int .i64 t207]] (by rfl) rfl rfl (by (try simp only [List.map_toArray, List.map_cons, List.map_nil]); first | done | rfl | (simp only [List.length_drop, List.length_take]; rfl)) ?_
                        with_reducible refine (tilefarmref2_Intersect.calls t221 t222 t223 t224 t204 t205 t206 t207 t227 t228 t229 t230 _ A28.out).mono ?_
                        rintro e w44 ⟨rfl, hb⟩
                        have HS8_ := (hb.cell (World.block_lt_of_cell? _ _ (hHeld.2.2.2.2.2.2.2.2.1))).trans (hHeld.2.2.2.2.2.2.2.2.1)
                        have HS9_ := (hb.cell (World.block_lt_of_cell? _ _ (hHeld.2.2.2.2.2.2.2.2.2))).trans (hHeld.2.2.2.2.2.2.2.2.2)
                        refine ⟨_, rfl, ?_⟩
                        have n0_ := Aside0.mk (Kd.R_below (by (with_reducible repeat (first | apply Kd.R_alloc | apply Kd.R_drewN | apply Kd.R_drew)); exact HO_13.out) hb)
                        have n1_ := Aside0.mk (blk_below (g := gb209) (o := .cells #[.int .i64 t204, .int .i64 t205, .int .i64 t206, .int .i64 t207] 31 (0, 0)) (by (with_reducible repeat (first | refine blk_drewN ?_ _ | refine blk_drew ?_ | refine blk_alloc ?_ _)); exact BK209.out) hb)
                        have n2_ := Aside0.mk (blk_below (g := gb226) (o := .cells #[.int .i64 t221, .int .i64 t222, .int .i64 t223, .int .i64 t224] 31 (0, 0)) (by (with_reducible repeat (first | refine blk_drewN ?_ _ | refine blk_drew ?_ | refine blk_alloc ?_ _)); exact BK226.out) hb)
                        have n3_ := Aside0.mk (below_step (by repeat (first | (with_reducible first | exact HB.out | apply below_alloc | apply pw_below_drewN | apply below_drew1 | refine below_set ?_ GE209.out | refine below_set ?_ GE226.out) | exact HB.out)) hb)
                        clear HO_13
                        clear BK209
                        clear BK226
                        clear HB
                        have HO_13 := n0_
                        have BK209 := n1_
                        have BK226 := n2_
                        have HB := n3_
                        clear n0_ n1_ n2_ n3_
                        (try clear hb)
                        (try clear hb2)
                        (try clear hk)
                        (try clear hi)
                        refine hK.out _ _ ⟨(blk_cell BK226.out 0).trans rfl, (blk_cell BK226.out 1).trans rfl, (blk_cell BK226.out 2).trans rfl, (blk_cell BK226.out 3).trans rfl, (blk_cell BK209.out 0).trans rfl, (blk_cell BK209.out 1).trans rfl, (blk_cell BK209.out 2).trans rfl, (blk_cell BK209.out 3).trans rfl, HS8_, HS9_⟩ (fun hHeld => ?_)
                        clear hK K
                        refine norm_ (a' := ?_) ?_ ?_
                        rotate_left
                        · show Act.put _ (some 83) _ = _
                          simp only [Act.put, List.setIfInBounds_toArray, List.set_cons_zero, List.set_cons_succ, i64_w, i32_w]
                          rfl
                        refine one_ (i := 6) (N := some 84) #[true, true, true, true, true, true, true, false, false, false, false, false, false, false, false, false, false, false, false, false, false, false, false, false] rfl rfl (one_of HT_.out (by kernel_rfl)) (by decide) (fun K hK => ?_)
                        refine goes_ Try.func20 (by kernel_rfl) rfl #[.agg #[.int .i64 t227, .int .i64 t228, .int .i64 t229, .int .i64 t230]] (by rfl) rfl rfl (by (try simp only [List.map_toArray, List.map_cons, List.map_nil]); first | done | rfl | (simp only [List.length_drop, List.length_take]; rfl)) ?_
                        with_reducible refine (tilefarmref2_Empty.calls t227 t228 t229 t230 false _ A29.out).mono ?_
                        rintro e w45 ⟨rfl, hb⟩
                        have HS8_ := (hb.cell (World.block_lt_of_cell? _ _ (hHeld.2.2.2.2.2.2.2.2.1))).trans (hHeld.2.2.2.2.2.2.2.2.1)
                        have HS9_ := (hb.cell (World.block_lt_of_cell? _ _ (hHeld.2.2.2.2.2.2.2.2.2))).trans (hHeld.2.2.2.2.2.2.2.2.2)
                        refine ⟨_, rfl, ?_⟩
                        have n0_ := Aside0.mk (Kd.R_below (by (with_reducible repeat (first | apply Kd.R_alloc | apply Kd.R_drewN | apply Kd.R_drew)); exact HO_13.out) hb)
                        have n1_ := Aside0.mk (blk_below (g := gb209) (o := .cells #[.int .i64 t204, .int .i64 t205, .int .i64 t206, .int .i64 t207] 31 (0, 0)) (by (with_reducible repeat (first | refine blk_drewN ?_ _ | refine blk_drew ?_ | refine blk_alloc ?_ _)); exact BK209.out) hb)
                        have n2_ := Aside0.mk (blk_below (g := gb226) (o := .cells #[.int .i64 t221, .int .i64 t222, .int .i64 t223, .int .i64 t224] 31 (0, 0)) (by (with_reducible repeat (first | refine blk_drewN ?_ _ | refine blk_drew ?_ | refine blk_alloc ?_ _)); exact BK226.out) hb)
                        have n3_ := Aside0.mk (below_step (by repeat (first | (with_reducible first | exact HB.out | apply below_alloc | apply pw_below_drewN | apply below_drew1 | refine below_set ?_ GE209.out | refine below_set ?_ GE226.out) | exact HB.out)) hb)
                        clear HO_13
                        clear BK209
                        clear BK226
                        clear HB
                        have HO_13 := n0_
                        have BK209 := n1_
                        have BK226 := n2_
                        have HB := n3_
                        clear n0_ n1_ n2_ n3_
                        (try clear hb)
                        (try clear hb2)
                        (try clear hk)
                        (try clear hi)
                        refine hK.out _ _ ⟨(blk_cell BK226.out 0).trans rfl, (blk_cell BK226.out 1).trans rfl, (blk_cell BK226.out 2).trans rfl, (blk_cell BK226.out 3).trans rfl, (blk_cell BK209.out 0).trans rfl, (blk_cell BK209.out 1).trans rfl, (blk_cell BK209.out 2).trans rfl, (blk_cell BK209.out 3).trans rfl, HS8_, HS9_⟩ (fun hHeld => ?_)
                        clear hK K
                        refine norm_ (a' := ?_) ?_ ?_
                        rotate_left
                        · show Act.put _ (some 84) _ = _
                          simp only [Act.put, List.setIfInBounds_toArray, List.set_cons_zero, List.set_cons_succ, i64_w, i32_w]
                          rfl
                        refine pure_ (i := 7) (N := some 85) (v := ?_) (a' := ?_) #[true, true, true, true, true, true, true, true, false, false, false, false, false, false, false, false, false, false, false, false, false, false, false, false] rfl rfl (any_of HT_.out (by kernel_rfl)) (fun _ _ _ h => h) (Or.inl ⟨by rfl, ?_⟩) ?_ ?_
                        rotate_left
                        · intro w'
                          go_simp
                          with_reducible rfl
                        rotate_left
                        · simp only [Act.put, List.setIfInBounds_toArray, List.set_cons_zero, List.set_cons_succ, i64_w, i32_w]
                          rfl
                        refine pure_ (i := 8) (N := some 86) (v := ?_) (a' := ?_) #[true, true, true, true, true, true, true, true, true, false, false, false, false, false, false, false, false, false, false, false, false, false, false, false] rfl rfl (any_of HT_.out (by kernel_rfl)) (fun _ _ _ h => h) (Or.inl ⟨by rfl, ?_⟩) ?_ ?_
                        rotate_left
                        · intro w'
                          go_simp
                          with_reducible rfl
                        rotate_left
                        · simp only [Act.put, List.setIfInBounds_toArray, List.set_cons_zero, List.set_cons_succ, i64_w, i32_w]
                          rfl
                        refine pure_ (i := 9) (N := some 87) (v := ?_) (a' := ?_) #[true, true, true, true, true, true, true, true, true, true, false, false, false, false, false, false, false, false, false, false, false, false, false, false] rfl rfl (any_of HT_.out (by kernel_rfl)) (fun _ _ _ h => h) (Or.inl ⟨by rfl, ?_⟩) ?_ ?_
                        rotate_left
                        · intro w'
                          go_simp
                          with_reducible rfl
                        rotate_left
                        · simp only [Act.put, List.setIfInBounds_toArray, List.set_cons_zero, List.set_cons_succ, i64_w, i32_w]
                          rfl
                        refine pure_ (i := 10) (N := some 88) (v := ?_) (a' := ?_) #[true, true, true, true, true, true, true, true, true, true, true, false, false, false, false, false, false, false, false, false, false, false, false, false] rfl rfl (any_of HT_.out (by kernel_rfl)) (fun _ _ _ h => h) (Or.inl ⟨by rfl, ?_⟩) ?_ ?_
                        rotate_left
                        · intro w'
                          go_simp
                          with_reducible rfl
                        rotate_left
                        · simp only [Act.put, List.setIfInBounds_toArray, List.set_cons_zero, List.set_cons_succ, i64_w, i32_w]
                          rfl
                        refine pure_ (i := 11) (N := some 89) (v := ?_) (a' := ?_) #[true, true, true, true, true, true, true, true, true, true, true, true, false, false, false, false, false, false, false, false, false, false, false, false] rfl rfl (any_of HT_.out (by kernel_rfl)) (fun _ _ _ h => h) (Or.inl ⟨by rfl, ?_⟩) ?_ ?_
                        rotate_left
                        · intro w'
                          go_simp
                          with_reducible rfl
                        rotate_left
                        · simp only [Act.put, List.setIfInBounds_toArray, List.set_cons_zero, List.set_cons_succ, i64_w, i32_w]
                          rfl
                        refine pure_ (i := 12) (N := some 90) (v := ?_) (a' := ?_) #[true, true, true, true, true, true, true, true, true, true, true, true, true, false, false, false, false, false, false, false, false, false, false, false] rfl rfl (any_of HT_.out (by kernel_rfl)) (fun _ _ _ h => h) (Or.inl ⟨by rfl, ?_⟩) ?_ ?_
                        rotate_left
                        · intro w'
                          go_simp
                          with_reducible rfl
                        rotate_left
                        · simp only [Act.put, List.setIfInBounds_toArray, List.set_cons_zero, List.set_cons_succ, i64_w, i32_w]
                          rfl
                        refine pure_ (i := 13) (N := some 91) (v := ?_) (a' := ?_) #[true, true, true, true, true, true, true, true, true, true, true, true, true, true, false, false, false, false, false, false, false, false, false, false] rfl rfl (any_of HT_.out (by kernel_rfl)) (fun _ _ _ h => h) (Or.inl ⟨by rfl, ?_⟩) ?_ ?_
                        rotate_left
                        · intro w'
                          go_simp
                          with_reducible rfl
                        rotate_left
                        · simp only [Act.put, List.setIfInBounds_toArray, List.set_cons_zero, List.set_cons_succ, i64_w, i32_w]
                          rfl
                        refine pure_ (i := 14) (N := some 92) (v := ?_) (a' := ?_) #[true, true, true, true, true, true, true, true, true, true, true, true, true, true, true, false, false, false, false, false, false, false, false, false] rfl rfl (any_of HT_.out (by kernel_rfl)) (fun _ _ _ h => h) (Or.inl ⟨by rfl, ?_⟩) ?_ ?_
                        rotate_left
                        · intro w'
                          go_simp
                          with_reducible rfl
                        rotate_left
                        · simp only [Act.put, List.setIfInBounds_toArray, List.set_cons_zero, List.set_cons_succ, i64_w, i32_w]
                          rfl
                        refine pure_ (i := 16) (N := some 94) (v := ?_) (a' := ?_) #[true, true, true, true, true, true, true, true, true, true, true, true, true, true, true, false, true, false, false, false, false, false, false, false] rfl rfl (any_of HT_.out (by kernel_rfl)) (fun _ _ _ h => h) (Or.inl ⟨by rfl, ?_⟩) ?_ ?_
                        rotate_left
                        · intro w'
                          go_simp
                          with_reducible rfl
                        rotate_left
                        · simp only [Act.put, List.setIfInBounds_toArray, List.set_cons_zero, List.set_cons_succ, i64_w, i32_w]
                          rfl
                        refine pure_ (i := 17) (N := some 95) (v := ?_) (a' := ?_) #[true, true, true, true, true, true, true, true, true, true, true, true, true, true, true, false, true, true, false, false, false, false, false, false] rfl rfl (any_of HT_.out (by kernel_rfl)) (fun _ _ _ h => h) (Or.inl ⟨by rfl, ?_⟩) ?_ ?_
                        rotate_left
                        · intro w'
                          go_simp
                          with_reducible rfl
                        rotate_left
                        · simp only [Act.put, List.setIfInBounds_toArray, List.set_cons_zero, List.set_cons_succ, i64_w, i32_w]
                          rfl
                        refine pure_ (i := 18) (N := some 96) (v := ?_) (a' := ?_) #[true, true, true, true, true, true, true, true, true, true, true, true, true, true, true, false, true, true, true, false, false, false, false, false] rfl rfl (any_of HT_.out (by kernel_rfl)) (fun _ _ _ h => h) (Or.inl ⟨by rfl, ?_⟩) ?_ ?_
                        rotate_left
                        · intro w'
                          go_simp
                          with_reducible rfl
                        rotate_left
                        · simp only [Act.put, List.setIfInBounds_toArray, List.set_cons_zero, List.set_cons_succ, i64_w, i32_w]
                          rfl
                        refine pure_ (i := 19) (N := some 97) (v := ?_) (a' := ?_) #[true, true, true, true, true, true, true, true, true, true, true, true, true, true, true, false, true, true, true, true, false, false, false, false] rfl rfl (any_of HT_.out (by kernel_rfl)) (fun _ _ _ h => h) (Or.inl ⟨by rfl, ?_⟩) ?_ ?_
                        rotate_left
                        · intro w'
                          go_simp
                          with_reducible rfl
                        rotate_left
                        · simp only [Act.put, List.setIfInBounds_toArray, List.set_cons_zero, List.set_cons_succ, i64_w, i32_w]
                          rfl
                        refine take_ (i := 15) (N := some 93) (v := ?_) (a' := ?_) #[true, true, true, true, true, true, true, true, true, true, true, true, true, true, true, true, true, true, true, true, false, false, false, false] rfl rfl (take_ofW HT_.out HW_.out (by kernel_rfl)) (fun _ _ _ h => h) (Or.inl ⟨by rfl, ?_⟩) hHeld ?_ ?_
                        rotate_left
                        · rintro w' ⟨s0, s1, s2, s3, s4, s5, s6, s7, s8, s9⟩
                          go_simp
                          with_reducible rfl
                        rotate_left
                        · simp only [Act.put, List.setIfInBounds_toArray, List.set_cons_zero, List.set_cons_succ, i64_w, i32_w]
                          rfl
                        refine take_ (i := 20) (N := some 98) (v := ?_) (a' := ?_) #[true, true, true, true, true, true, true, true, true, true, true, true, true, true, true, true, true, true, true, true, true, false, false, false] rfl rfl (take_ofW HT_.out HW_.out (by kernel_rfl)) (fun _ _ _ h => h) (Or.inl ⟨by rfl, ?_⟩) hHeld ?_ ?_
                        rotate_left
                        · rintro w' ⟨s0, s1, s2, s3, s4, s5, s6, s7, s8, s9⟩
                          go_simp
                          with_reducible rfl
                        rotate_left
                        · simp only [Act.put, List.setIfInBounds_toArray, List.set_cons_zero, List.set_cons_succ, i64_w, i32_w]
                          rfl
                        refine pure_ (i := 21) (N := some 99) (v := ?_) (a' := ?_) #[true, true, true, true, true, true, true, true, true, true, true, true, true, true, true, true, true, true, true, true, true, true, false, false] rfl rfl (any_of HT_.out (by kernel_rfl)) (fun _ _ _ h => h) (Or.inl ⟨by rfl, ?_⟩) ?_ ?_
                        rotate_left
                        · intro w'
                          go_simp
                          with_reducible rfl
                        rotate_left
                        · simp only [Act.put, List.setIfInBounds_toArray, List.set_cons_zero, List.set_cons_succ, i64_w, i32_w]
                          rfl
                        refine pure_ (i := 22) (N := some 100) (v := ?_) (a' := ?_) #[true, true, true, true, true, true, true, true, true, true, true, true, true, true, true, true, true, true, true, true, true, true, true, false] rfl rfl (any_of HT_.out (by kernel_rfl)) (fun _ _ _ h => h) (Or.inl ⟨by rfl, ?_⟩) ?_ ?_
                        rotate_left
                        · intro w'
                          go_simp
                          with_reducible rfl
                        rotate_left
                        · simp only [Act.put, List.setIfInBounds_toArray, List.set_cons_zero, List.set_cons_succ, i64_w, i32_w]
                          rfl
                        refine pure_ (i := 23) (N := some 101) (v := ?_) (a' := ?_) #[true, true, true, true, true, true, true, true, true, true, true, true, true, true, true, true, true, true, true, true, true, true, true, true] rfl rfl (any_of HT_.out (by kernel_rfl)) (fun _ _ _ h => h) (Or.inl ⟨by rfl, ?_⟩) ?_ ?_
                        rotate_left
                        · intro w'
                          go_simp
                          with_reducible rfl
                        rotate_left
                        · simp only [Act.put, List.setIfInBounds_toArray, List.set_cons_zero, List.set_cons_succ, i64_w, i32_w]
                          rfl
                        refine done_ (done_of HT_.out (by kernel_rfl)) ?_
                        try go_wp2
                        go_roundg k1
                        case measure => have := HK1.out; omega
                        case rel => exact ⟨(true), (wrap64 (x19_1 + 1)), (by first | rfl | (simp; done) | (simp [*]; done)), (by first | rfl | (simp; done) | (simp [*]; done)), H', ⟨by have := HK1.out; omega⟩, ⟨by (with_reducible repeat (first | apply Kd.R_alloc | apply Kd.R_drewN | apply Kd.R_drew)); exact HO_13.out⟩, ⟨by (with_reducible repeat (first | refine blk_drewN ?_ _ | refine blk_drew ?_ | refine blk_alloc ?_ _)); exact BK209.out⟩, ⟨by repeat (first | (with_reducible first | exact HB.out | apply below_alloc | apply pw_below_drewN | apply below_drew1 | refine below_set ?_ GE209.out | refine below_set ?_ GE226.out) | exact HB.out)⟩⟩
                      · replace c36 := Bool.eq_false_iff.mpr c36
                        subst c36
                        have H1 : (tilefarmlaw5_GridTouches.l0 k1 (wrap64 (1 + t196)) (wrap64 (1 + t198)) (wrap64 (1 + t200)) (wrap64 (1 + t202)) t210 t213 t214 t215 t216 ((rd t210 x19_1) == t215) (wrap64 (x19_1 + 1)) t204 t205 t206 t207) = some r := by rw [if_neg (show ¬ (false = true) by decide)] at H; exact H
                        clear H
                        have H := H1
                        clear H1
                        have H' := Aside0.mk H
                        clear H
                        obtain ⟨Ao46, co46, eo46⟩ := Kd.R_slice HO_13.out
                        subst eo46
                        have p220 : 0 ≤ (x19_1 : Int) := of_decide_eq_true (by first | (with_reducible assumption) | assumption)
                        have q220 : x19_1 < (t210.length : Int) := of_decide_eq_true (by first | (with_reducible assumption) | assumption)
                        obtain ⟨ad220, e220, hx220_0⟩ := Kd.at_int (Kd.R_reads' HO_13.out).2.2 x19_1 p220 q220
                        cases e220
                        replace p220 := eq_true p220
                        replace q220 := eq_true q220
                        try go_wp2_with (first | ((with_reducible refine gate_callee (f := 15) rfl ?_); refine goesL_ (some 75) rfl rfl Try.func15 (by kernel_rfl) rfl #[.int .i64 (wrap64 (1 + t196)), .int .i64 (wrap64 (1 + t198)), .int .i64 (wrap64 (1 + t200)), .int .i64 (wrap64 (1 + t202)), .int .i64 (rd t210 x19_1)] rfl (by (try simp only [List.map_toArray, List.map_cons, List.map_nil]); first | done | rfl | (simp only [List.length_drop, List.length_take]; rfl)) ?_; (with_reducible refine (grid_Tile.calls k1 (wrap64 (1 + t196)) (wrap64 (1 + t198)) (wrap64 (1 + t200)) (wrap64 (1 + t202)) (rd t210 x19_1) t221 t222 t223 t224 true _ A26.out).mono ?_); rintro e w47 ⟨rfl, hb⟩; refine ⟨_, rfl, ?_⟩; have n0_ := Aside0.mk (Kd.R_below (by (with_reducible repeat (first | apply Kd.R_alloc | apply Kd.R_drewN | apply Kd.R_drew)); exact HO_13.out) hb); have n1_ := Aside0.mk (blk_below (g := gb209) (o := .cells #[.int .i64 t204, .int .i64 t205, .int .i64 t206, .int .i64 t207] 31 (0, 0)) (by (with_reducible repeat (first | refine blk_drewN ?_ _ | refine blk_drew ?_ | refine blk_alloc ?_ _)); exact BK209.out) hb); have n2_ := Aside0.mk (below_step (by repeat (first | (with_reducible first | exact HB.out | apply below_alloc | apply pw_below_drewN | apply below_drew1 | refine below_set ?_ GE209.out) | exact HB.out)) hb); clear HO_13; clear BK209; clear HB; have HO_13 := n0_; have BK209 := n1_; have HB := n2_; clear n0_ n1_ n2_; (try clear hb); (try clear hb2); (try clear hk); (try clear hi)) | ((with_reducible refine gate_dst (N := 20) rfl ?_); refine box_event ?hg (N := 20) ?hd (cs := #[.int .i64 0, .int .i64 0, .int .i64 0, .int .i64 0]) (t := 31) ?hr ?_; (case hd => rfl); (case hg => rfl); (case hr => first | (go_simp; done) | (go_simp; rfl)); intro gb226 hg w48 hbox hb; have n0_ := Aside0.mk (Kd.R_below (by (with_reducible repeat (first | apply Kd.R_alloc | apply Kd.R_drewN | apply Kd.R_drew)); exact HO_13.out) hb); have n1_ := Aside0.mk (blk_below (g := gb209) (o := .cells #[.int .i64 t204, .int .i64 t205, .int .i64 t206, .int .i64 t207] 31 (0, 0)) (by (with_reducible repeat (first | refine blk_drewN ?_ _ | refine blk_drew ?_ | refine blk_alloc ?_ _)); exact BK209.out) hb); have n2_ := Aside0.mk (below_step (by repeat (first | (with_reducible first | exact HB.out | apply below_alloc | apply pw_below_drewN | apply below_drew1 | refine below_set ?_ GE209.out) | exact HB.out)) hb); have n3_ := Aside0.mk (hbox); have n4_ := Aside0.mk ((by rw [hg]; exact (below_size (by repeat (first | (with_reducible first | exact HB.out | apply below_alloc | apply pw_below_drewN | apply below_drew1 | refine below_set ?_ GE209.out) | exact HB.out))) : w.heap.size ≤ gb226)); have n5_ := Aside0.mk ((by rw [hg]; exact (below_size (by repeat (first | (with_reducible first | exact HB.out | apply below_alloc | apply pw_below_drewN | apply below_drew1 | refine below_set ?_ GE209.out) | exact HB.out))) : w.heap.size ≤ gb226)); have n6_ := Aside0.mk ((by rw [hg]; exact Nat.ne_of_lt (blk_lt (g := gb209) (o := .cells #[.int .i64 t204, .int .i64 t205, .int .i64 t206, .int .i64 t207] 31 (0, 0)) (by (with_reducible repeat (first | refine blk_drewN ?_ _ | refine blk_drew ?_ | refine blk_alloc ?_ _)); exact BK209.out)) : gb209 ≠ gb226)); have n7_ := Aside0.mk ((by rw [hg]; exact Nat.ne_of_gt (blk_lt (g := gb209) (o := .cells #[.int .i64 t204, .int .i64 t205, .int .i64 t206, .int .i64 t207] 31 (0, 0)) (by (with_reducible repeat (first | refine blk_drewN ?_ _ | refine blk_drew ?_ | refine blk_alloc ?_ _)); exact BK209.out)) : gb226 ≠ gb209)); clear HO_13; clear BK209; clear HB; have HO_13 := n0_; have BK209 := n1_; have HB := n2_; have BK226 := n3_; have GW226 := n4_; have GE226 := n5_; have NB209_226 := n6_; have NB226_209 := n7_; clear n0_ n1_ n2_ n3_ n4_ n5_ n6_ n7_; clear hb hbox hg; have hnb49 := NB226_209.out; have hnc49 := NB209_226.out; have hcz50_0 : w48.cell? ⟨gb226, 0, none⟩ = some (.int .i64 0) := (blk_cell BK226.out 0).trans rfl; have hcz50_1 : w48.cell? ⟨gb226, 1, none⟩ = some (.int .i64 0) := (blk_cell BK226.out 1).trans rfl; have hcz50_2 : w48.cell? ⟨gb226, 2, none⟩ = some (.int .i64 0) := (blk_cell BK226.out 2).trans rfl; have hcz50_3 : w48.cell? ⟨gb226, 3, none⟩ = some (.int .i64 0) := (blk_cell BK226.out 3).trans rfl; have hfz50_0 := blk_frozen BK226.out 0; have hfz50_1 := blk_frozen BK226.out 1; have hfz50_2 := blk_frozen BK226.out 2; have hfz50_3 := blk_frozen BK226.out 3))
                        have n0_ : Aside0 (Kd.R (Kd.int .i64) 3 ((((w48.setCell ⟨gb226, 0, none⟩ (.int .i64 t221)).setCell ⟨gb226, 1, none⟩ (.int .i64 t222)).setCell ⟨gb226, 2, none⟩ (.int .i64 t223)).setCell ⟨gb226, 3, none⟩ (.int .i64 t224)) w.heap.size (fun _ => True) (.slice (some ad220) t210.length co46) t210) := ⟨by (with_reducible repeat (first | apply Kd.R_alloc | apply Kd.R_drewN | apply Kd.R_drew)); exact Kd.R_mono (Kd.R_far (p := ⟨gb226, 3, none⟩) (Kd.R_far (p := ⟨gb226, 2, none⟩) (Kd.R_far (p := ⟨gb226, 1, none⟩) (Kd.R_far (p := ⟨gb226, 0, none⟩) (Kd.R_types HO_13.out BK226.out (by decide)) (fun _ hk => hk.2) (.int .i64 t221)) (fun _ hk => hk.2) (.int .i64 t222)) (fun _ hk => hk.2) (.int .i64 t223)) (fun _ hk => hk.2) (.int .i64 t224)) (fun _ hk => trivial)⟩
                        have n1_ : Aside0 (((((w48.setCell ⟨gb226, 0, none⟩ (.int .i64 t221)).setCell ⟨gb226, 1, none⟩ (.int .i64 t222)).setCell ⟨gb226, 2, none⟩ (.int .i64 t223)).setCell ⟨gb226, 3, none⟩ (.int .i64 t224)).heap[gb209]? = some (.cells #[.int .i64 t204, .int .i64 t205, .int .i64 t206, .int .i64 t207] 31 (0, 0))) := ⟨by (with_reducible repeat (first | refine blk_drewN ?_ _ | refine blk_drew ?_ | refine blk_alloc ?_ _)); refine blk_far ?_ NB209_226.out _; (with_reducible repeat (first | refine blk_drewN ?_ _ | refine blk_drew ?_ | refine blk_alloc ?_ _)); refine blk_far ?_ NB209_226.out _; (with_reducible repeat (first | refine blk_drewN ?_ _ | refine blk_drew ?_ | refine blk_alloc ?_ _)); refine blk_far ?_ NB209_226.out _; (with_reducible repeat (first | refine blk_drewN ?_ _ | refine blk_drew ?_ | refine blk_alloc ?_ _)); refine blk_far ?_ NB209_226.out _; (with_reducible repeat (first | refine blk_drewN ?_ _ | refine blk_drew ?_ | refine blk_alloc ?_ _)); exact BK209.out⟩
                        have n2_ : Aside0 (((((w48.setCell ⟨gb226, 0, none⟩ (.int .i64 t221)).setCell ⟨gb226, 1, none⟩ (.int .i64 t222)).setCell ⟨gb226, 2, none⟩ (.int .i64 t223)).setCell ⟨gb226, 3, none⟩ (.int .i64 t224)).heap[gb226]? = some (.cells #[.int .i64 t221, .int .i64 t222, .int .i64 t223, .int .i64 t224] 31 (0, 0))) := ⟨by (with_reducible repeat (first | refine blk_drewN ?_ _ | refine blk_drew ?_ | refine blk_alloc ?_ _)); refine blk_put (cs := #[.int .i64 t221, .int .i64 t222, .int .i64 t223, .int .i64 0]) ?_ 3 _ rfl; (with_reducible repeat (first | refine blk_drewN ?_ _ | refine blk_drew ?_ | refine blk_alloc ?_ _)); refine blk_put (cs := #[.int .i64 t221, .int .i64 t222, .int .i64 0, .int .i64 0]) ?_ 2 _ rfl; (with_reducible repeat (first | refine blk_drewN ?_ _ | refine blk_drew ?_ | refine blk_alloc ?_ _)); refine blk_put (cs := #[.int .i64 t221, .int .i64 0, .int .i64 0, .int .i64 0]) ?_ 1 _ rfl; (with_reducible repeat (first | refine blk_drewN ?_ _ | refine blk_drew ?_ | refine blk_alloc ?_ _)); refine blk_put (cs := #[.int .i64 0, .int .i64 0, .int .i64 0, .int .i64 0]) ?_ 0 _ rfl; (with_reducible repeat (first | refine blk_drewN ?_ _ | refine blk_drew ?_ | refine blk_alloc ?_ _)); exact BK226.out⟩
                        have n3_ : Aside0 (Below w.heap.size w ((((w48.setCell ⟨gb226, 0, none⟩ (.int .i64 t221)).setCell ⟨gb226, 1, none⟩ (.int .i64 t222)).setCell ⟨gb226, 2, none⟩ (.int .i64 t223)).setCell ⟨gb226, 3, none⟩ (.int .i64 t224))) := ⟨by repeat (first | (with_reducible first | exact HB.out | apply below_alloc | apply pw_below_drewN | apply below_drew1 | refine below_set ?_ GE209.out | refine below_set ?_ GE226.out) | exact HB.out)⟩
                        (try clear HO_13)
                        (try clear BK209)
                        (try clear BK226)
                        (try clear HB)
                        generalize ((((w48.setCell ⟨gb226, 0, none⟩ (.int .i64 t221)).setCell ⟨gb226, 1, none⟩ (.int .i64 t222)).setCell ⟨gb226, 2, none⟩ (.int .i64 t223)).setCell ⟨gb226, 3, none⟩ (.int .i64 t224)) = w51 at n0_ n1_ n2_ n3_ ⊢
                        have HO_13 := n0_
                        have BK209 := n1_
                        have BK226 := n2_
                        have HB := n3_
                        clear n0_ n1_ n2_ n3_
                        have n0_ := Aside0.mk (Kd.R_drew HO_13.out)
                        have n1_ := Aside0.mk (blk_drew BK209.out)
                        have n2_ := Aside0.mk (blk_drew BK226.out)
                        have n3_ := Aside0.mk (below_drew1 HB.out)
                        clear HO_13
                        clear BK209
                        clear BK226
                        clear HB
                        have HO_13 := n0_
                        have BK209 := n1_
                        have BK226 := n2_
                        have HB := n3_
                        clear n0_ n1_ n2_ n3_
                        have p232 : 0 ≤ (x19_1 : Int) := of_decide_eq_true (by first | (with_reducible assumption) | assumption)
                        have q232 : x19_1 < (t210.length : Int) := of_decide_eq_true (by first | (with_reducible assumption) | assumption)
                        obtain ⟨ad232, e232, hx232_0⟩ := Kd.at_int (Kd.R_reads' HO_13.out).2.2 x19_1 p232 q232
                        obtain rfl : ad220 = ad232 := (by injection e232)
                        replace p232 := eq_true p232
                        replace q232 := eq_true q232
                        have p233 : 0 ≤ ((ji32) : Int) := of_decide_eq_true (by first | (with_reducible assumption) | assumption)
                        have q233 : (ji32) < (t210.length : Int) := of_decide_eq_true (by first | (with_reducible assumption) | assumption)
                        obtain ⟨ad233, e233, hx233_0⟩ := Kd.at_int (Kd.R_reads' HO_13.out).2.2 (ji32) p233 q233
                        obtain rfl : ad220 = ad233 := (by injection e233)
                        replace p233 := eq_true p233
                        replace q233 := eq_true q233
                        refine start_ (n := 24) (S := fun w' => w'.cell? ⟨gb226, 0, none⟩ = some (.int .i64 t221) ∧ w'.cell? ⟨gb226, 1, none⟩ = some (.int .i64 t222) ∧ w'.cell? ⟨gb226, 2, none⟩ = some (.int .i64 t223) ∧ w'.cell? ⟨gb226, 3, none⟩ = some (.int .i64 t224) ∧ w'.cell? ⟨gb209, 0, none⟩ = some (.int .i64 t204) ∧ w'.cell? ⟨gb209, 1, none⟩ = some (.int .i64 t205) ∧ w'.cell? ⟨gb209, 2, none⟩ = some (.int .i64 t206) ∧ w'.cell? ⟨gb209, 3, none⟩ = some (.int .i64 t207) ∧ w'.cell? (ad220.add (x19_1).toNat) = some (.int .i64 (rd t210 x19_1)) ∧ w'.cell? (ad220.add ((ji32)).toNat) = some (.int .i64 (rd t210 (ji32)))) (ds := []) #[false, false, false, false, false, false, false, false, false, false, false, false, false, false, false, false, false, false, false, false, false, false, false, false] (by kernel_rfl) rfl rfl ⟨(blk_cell BK226.out 0).trans rfl, (blk_cell BK226.out 1).trans rfl, (blk_cell BK226.out 2).trans rfl, (blk_cell BK226.out 3).trans rfl, (blk_cell BK209.out 0).trans rfl, (blk_cell BK209.out 1).trans rfl, (blk_cell BK209.out 2).trans rfl, (blk_cell BK209.out 3).trans rfl, hx232_0, hx233_0⟩ (fun hHeld => ?_); refine with_tabW tilefarmlaw5_GridTouches.tab12 tilefarmlaw5_GridTouches.bits12 (fun HT_ HW_ => ?_)
                        generalize w51.drew = w52 at HO_13 BK209 BK226 HB hx232_0 hx233_0 hHeld ⊢
                        refine pure_ (i := 0) (N := some 78) (v := ?_) (a' := ?_) #[true, false, false, false, false, false, false, false, false, false, false, false, false, false, false, false, false, false, false, false, false, false, false, false] rfl rfl (any_of HT_.out (by kernel_rfl)) (fun _ _ _ h => h) (Or.inl ⟨by rfl, ?_⟩) ?_ ?_
                        rotate_left
                        · intro w'
                          go_simp
                          with_reducible rfl
                        rotate_left
                        · simp only [Act.put, List.setIfInBounds_toArray, List.set_cons_zero, List.set_cons_succ, i64_w, i32_w]
                          rfl
                        refine pure_ (i := 1) (N := some 79) (v := ?_) (a' := ?_) #[true, true, false, false, false, false, false, false, false, false, false, false, false, false, false, false, false, false, false, false, false, false, false, false] rfl rfl (any_of HT_.out (by kernel_rfl)) (fun _ _ _ h => h) (Or.inl ⟨by rfl, ?_⟩) ?_ ?_
                        rotate_left
                        · intro w'
                          go_simp
                          with_reducible rfl
                        rotate_left
                        · simp only [Act.put, List.setIfInBounds_toArray, List.set_cons_zero, List.set_cons_succ, i64_w, i32_w]
                          rfl
                        refine pure_ (i := 2) (N := some 80) (v := ?_) (a' := ?_) #[true, true, true, false, false, false, false, false, false, false, false, false, false, false, false, false, false, false, false, false, false, false, false, false] rfl rfl (any_of HT_.out (by kernel_rfl)) (fun _ _ _ h => h) (Or.inl ⟨by rfl, ?_⟩) ?_ ?_
                        rotate_left
                        · intro w'
                          go_simp
                          with_reducible rfl
                        rotate_left
                        · simp only [Act.put, List.setIfInBounds_toArray, List.set_cons_zero, List.set_cons_succ, i64_w, i32_w]
                          rfl
                        refine take_ (i := 3) (N := some 81) (v := ?_) (a' := ?_) #[true, true, true, true, false, false, false, false, false, false, false, false, false, false, false, false, false, false, false, false, false, false, false, false] rfl rfl (take_ofW HT_.out HW_.out (by kernel_rfl)) (fun _ _ _ h => h) (Or.inl ⟨by rfl, ?_⟩) hHeld ?_ ?_
                        rotate_left
                        · rintro w' ⟨s0, s1, s2, s3, s4, s5, s6, s7, s8, s9⟩
                          go_simp
                          with_reducible rfl
                        rotate_left
                        · simp only [Act.put, List.setIfInBounds_toArray, List.set_cons_zero, List.set_cons_succ, i64_w, i32_w]
                          rfl
                        refine take_ (i := 4) (N := some 82) (v := ?_) (a' := ?_) #[true, true, true, true, true, false, false, false, false, false, false, false, false, false, false, false, false, false, false, false, false, false, false, false] rfl rfl (take_ofW HT_.out HW_.out (by kernel_rfl)) (fun _ _ _ h => h) (Or.inl ⟨by rfl, ?_⟩) hHeld ?_ ?_
                        rotate_left
                        · rintro w' ⟨s0, s1, s2, s3, s4, s5, s6, s7, s8, s9⟩
                          go_simp
                          with_reducible rfl
                        rotate_left
                        · simp only [Act.put, List.setIfInBounds_toArray, List.set_cons_zero, List.set_cons_succ, i64_w, i32_w]
                          rfl
                        refine one_ (i := 5) (N := some 83) #[true, true, true, true, true, true, false, false, false, false, false, false, false, false, false, false, false, false, false, false, false, false, false, false] rfl rfl (one_of HT_.out (by kernel_rfl)) (by decide) (fun K hK => ?_)
                        refine goes_ Try.func21 (by kernel_rfl) rfl #[.agg #[.int .i64 t221, .int .i64 t222, .int .i64 t223, .int .i64 t224], .agg #[.int .i64 t204, .int .i64 t205, .int .i64 t206, .int .i64 t207]] (by rfl) rfl rfl (by (try simp only [List.map_toArray, List.map_cons, List.map_nil]); first | done | rfl | (simp only [List.length_drop, List.length_take]; rfl)) ?_
                        with_reducible refine (tilefarmref2_Intersect.calls t221 t222 t223 t224 t204 t205 t206 t207 t227 t228 t229 t230 _ A28.out).mono ?_
                        rintro e w53 ⟨rfl, hb⟩
                        have HS8_ := (hb.cell (World.block_lt_of_cell? _ _ (hHeld.2.2.2.2.2.2.2.2.1))).trans (hHeld.2.2.2.2.2.2.2.2.1)
                        have HS9_ := (hb.cell (World.block_lt_of_cell? _ _ (hHeld.2.2.2.2.2.2.2.2.2))).trans (hHeld.2.2.2.2.2.2.2.2.2)
                        refine ⟨_, rfl, ?_⟩
                        have n0_ := Aside0.mk (Kd.R_below (by (with_reducible repeat (first | apply Kd.R_alloc | apply Kd.R_drewN | apply Kd.R_drew)); exact HO_13.out) hb)
                        have n1_ := Aside0.mk (blk_below (g := gb209) (o := .cells #[.int .i64 t204, .int .i64 t205, .int .i64 t206, .int .i64 t207] 31 (0, 0)) (by (with_reducible repeat (first | refine blk_drewN ?_ _ | refine blk_drew ?_ | refine blk_alloc ?_ _)); exact BK209.out) hb)
                        have n2_ := Aside0.mk (blk_below (g := gb226) (o := .cells #[.int .i64 t221, .int .i64 t222, .int .i64 t223, .int .i64 t224] 31 (0, 0)) (by (with_reducible repeat (first | refine blk_drewN ?_ _ | refine blk_drew ?_ | refine blk_alloc ?_ _)); exact BK226.out) hb)
                        have n3_ := Aside0.mk (below_step (by repeat (first | (with_reducible first | exact HB.out | apply below_alloc | apply pw_below_drewN | apply below_drew1 | refine below_set ?_ GE209.out | refine below_set ?_ GE226.out) | exact HB.out)) hb)
                        clear HO_13
                        clear BK209
                        clear BK226
                        clear HB
                        have HO_13 := n0_
                        have BK209 := n1_
                        have BK226 := n2_
                        have HB := n3_
                        clear n0_ n1_ n2_ n3_
                        (try clear hb)
                        (try clear hb2)
                        (try clear hk)
                        (try clear hi)
                        refine hK.out _ _ ⟨(blk_cell BK226.out 0).trans rfl, (blk_cell BK226.out 1).trans rfl, (blk_cell BK226.out 2).trans rfl, (blk_cell BK226.out 3).trans rfl, (blk_cell BK209.out 0).trans rfl, (blk_cell BK209.out 1).trans rfl, (blk_cell BK209.out 2).trans rfl, (blk_cell BK209.out 3).trans rfl, HS8_, HS9_⟩ (fun hHeld => ?_)
                        clear hK K
                        refine norm_ (a' := ?_) ?_ ?_
                        rotate_left
                        · show Act.put _ (some 83) _ = _
                          simp only [Act.put, List.setIfInBounds_toArray, List.set_cons_zero, List.set_cons_succ, i64_w, i32_w]
                          rfl
                        refine one_ (i := 6) (N := some 84) #[true, true, true, true, true, true, true, false, false, false, false, false, false, false, false, false, false, false, false, false, false, false, false, false] rfl rfl (one_of HT_.out (by kernel_rfl)) (by decide) (fun K hK => ?_)
                        refine goes_ Try.func20 (by kernel_rfl) rfl #[.agg #[.int .i64 t227, .int .i64 t228, .int .i64 t229, .int .i64 t230]] (by rfl) rfl rfl (by (try simp only [List.map_toArray, List.map_cons, List.map_nil]); first | done | rfl | (simp only [List.length_drop, List.length_take]; rfl)) ?_
                        with_reducible refine (tilefarmref2_Empty.calls t227 t228 t229 t230 false _ A29.out).mono ?_
                        rintro e w54 ⟨rfl, hb⟩
                        have HS8_ := (hb.cell (World.block_lt_of_cell? _ _ (hHeld.2.2.2.2.2.2.2.2.1))).trans (hHeld.2.2.2.2.2.2.2.2.1)
                        have HS9_ := (hb.cell (World.block_lt_of_cell? _ _ (hHeld.2.2.2.2.2.2.2.2.2))).trans (hHeld.2.2.2.2.2.2.2.2.2)
                        refine ⟨_, rfl, ?_⟩
                        have n0_ := Aside0.mk (Kd.R_below (by (with_reducible repeat (first | apply Kd.R_alloc | apply Kd.R_drewN | apply Kd.R_drew)); exact HO_13.out) hb)
                        have n1_ := Aside0.mk (blk_below (g := gb209) (o := .cells #[.int .i64 t204, .int .i64 t205, .int .i64 t206, .int .i64 t207] 31 (0, 0)) (by (with_reducible repeat (first | refine blk_drewN ?_ _ | refine blk_drew ?_ | refine blk_alloc ?_ _)); exact BK209.out) hb)
                        have n2_ := Aside0.mk (blk_below (g := gb226) (o := .cells #[.int .i64 t221, .int .i64 t222, .int .i64 t223, .int .i64 t224] 31 (0, 0)) (by (with_reducible repeat (first | refine blk_drewN ?_ _ | refine blk_drew ?_ | refine blk_alloc ?_ _)); exact BK226.out) hb)
                        have n3_ := Aside0.mk (below_step (by repeat (first | (with_reducible first | exact HB.out | apply below_alloc | apply pw_below_drewN | apply below_drew1 | refine below_set ?_ GE209.out | refine below_set ?_ GE226.out) | exact HB.out)) hb)
                        clear HO_13
                        clear BK209
                        clear BK226
                        clear HB
                        have HO_13 := n0_
                        have BK209 := n1_
                        have BK226 := n2_
                        have HB := n3_
                        clear n0_ n1_ n2_ n3_
                        (try clear hb)
                        (try clear hb2)
                        (try clear hk)
                        (try clear hi)
                        refine hK.out _ _ ⟨(blk_cell BK226.out 0).trans rfl, (blk_cell BK226.out 1).trans rfl, (blk_cell BK226.out 2).trans rfl, (blk_cell BK226.out 3).trans rfl, (blk_cell BK209.out 0).trans rfl, (blk_cell BK209.out 1).trans rfl, (blk_cell BK209.out 2).trans rfl, (blk_cell BK209.out 3).trans rfl, HS8_, HS9_⟩ (fun hHeld => ?_)
                        clear hK K
                        refine norm_ (a' := ?_) ?_ ?_
                        rotate_left
                        · show Act.put _ (some 84) _ = _
                          simp only [Act.put, List.setIfInBounds_toArray, List.set_cons_zero, List.set_cons_succ, i64_w, i32_w]
                          rfl
                        refine pure_ (i := 7) (N := some 85) (v := ?_) (a' := ?_) #[true, true, true, true, true, true, true, true, false, false, false, false, false, false, false, false, false, false, false, false, false, false, false, false] rfl rfl (any_of HT_.out (by kernel_rfl)) (fun _ _ _ h => h) (Or.inl ⟨by rfl, ?_⟩) ?_ ?_
                        rotate_left
                        · intro w'
                          go_simp
                          with_reducible rfl
                        rotate_left
                        · simp only [Act.put, List.setIfInBounds_toArray, List.set_cons_zero, List.set_cons_succ, i64_w, i32_w]
                          rfl
                        refine pure_ (i := 8) (N := some 86) (v := ?_) (a' := ?_) #[true, true, true, true, true, true, true, true, true, false, false, false, false, false, false, false, false, false, false, false, false, false, false, false] rfl rfl (any_of HT_.out (by kernel_rfl)) (fun _ _ _ h => h) (Or.inl ⟨by rfl, ?_⟩) ?_ ?_
                        rotate_left
                        · intro w'
                          go_simp
                          with_reducible rfl
                        rotate_left
                        · simp only [Act.put, List.setIfInBounds_toArray, List.set_cons_zero, List.set_cons_succ, i64_w, i32_w]
                          rfl
                        refine pure_ (i := 9) (N := some 87) (v := ?_) (a' := ?_) #[true, true, true, true, true, true, true, true, true, true, false, false, false, false, false, false, false, false, false, false, false, false, false, false] rfl rfl (any_of HT_.out (by kernel_rfl)) (fun _ _ _ h => h) (Or.inl ⟨by rfl, ?_⟩) ?_ ?_
                        rotate_left
                        · intro w'
                          go_simp
                          with_reducible rfl
                        rotate_left
                        · simp only [Act.put, List.setIfInBounds_toArray, List.set_cons_zero, List.set_cons_succ, i64_w, i32_w]
                          rfl
                        refine pure_ (i := 10) (N := some 88) (v := ?_) (a' := ?_) #[true, true, true, true, true, true, true, true, true, true, true, false, false, false, false, false, false, false, false, false, false, false, false, false] rfl rfl (any_of HT_.out (by kernel_rfl)) (fun _ _ _ h => h) (Or.inl ⟨by rfl, ?_⟩) ?_ ?_
                        rotate_left
                        · intro w'
                          go_simp
                          with_reducible rfl
                        rotate_left
                        · simp only [Act.put, List.setIfInBounds_toArray, List.set_cons_zero, List.set_cons_succ, i64_w, i32_w]
                          rfl
                        refine pure_ (i := 11) (N := some 89) (v := ?_) (a' := ?_) #[true, true, true, true, true, true, true, true, true, true, true, true, false, false, false, false, false, false, false, false, false, false, false, false] rfl rfl (any_of HT_.out (by kernel_rfl)) (fun _ _ _ h => h) (Or.inl ⟨by rfl, ?_⟩) ?_ ?_
                        rotate_left
                        · intro w'
                          go_simp
                          with_reducible rfl
                        rotate_left
                        · simp only [Act.put, List.setIfInBounds_toArray, List.set_cons_zero, List.set_cons_succ, i64_w, i32_w]
                          rfl
                        refine pure_ (i := 12) (N := some 90) (v := ?_) (a' := ?_) #[true, true, true, true, true, true, true, true, true, true, true, true, true, false, false, false, false, false, false, false, false, false, false, false] rfl rfl (any_of HT_.out (by kernel_rfl)) (fun _ _ _ h => h) (Or.inl ⟨by rfl, ?_⟩) ?_ ?_
                        rotate_left
                        · intro w'
                          go_simp
                          with_reducible rfl
                        rotate_left
                        · simp only [Act.put, List.setIfInBounds_toArray, List.set_cons_zero, List.set_cons_succ, i64_w, i32_w]
                          rfl
                        refine pure_ (i := 13) (N := some 91) (v := ?_) (a' := ?_) #[true, true, true, true, true, true, true, true, true, true, true, true, true, true, false, false, false, false, false, false, false, false, false, false] rfl rfl (any_of HT_.out (by kernel_rfl)) (fun _ _ _ h => h) (Or.inl ⟨by rfl, ?_⟩) ?_ ?_
                        rotate_left
                        · intro w'
                          go_simp
                          with_reducible rfl
                        rotate_left
                        · simp only [Act.put, List.setIfInBounds_toArray, List.set_cons_zero, List.set_cons_succ, i64_w, i32_w]
                          rfl
                        refine pure_ (i := 14) (N := some 92) (v := ?_) (a' := ?_) #[true, true, true, true, true, true, true, true, true, true, true, true, true, true, true, false, false, false, false, false, false, false, false, false] rfl rfl (any_of HT_.out (by kernel_rfl)) (fun _ _ _ h => h) (Or.inl ⟨by rfl, ?_⟩) ?_ ?_
                        rotate_left
                        · intro w'
                          go_simp
                          with_reducible rfl
                        rotate_left
                        · simp only [Act.put, List.setIfInBounds_toArray, List.set_cons_zero, List.set_cons_succ, i64_w, i32_w]
                          rfl
                        refine pure_ (i := 16) (N := some 94) (v := ?_) (a' := ?_) #[true, true, true, true, true, true, true, true, true, true, true, true, true, true, true, false, true, false, false, false, false, false, false, false] rfl rfl (any_of HT_.out (by kernel_rfl)) (fun _ _ _ h => h) (Or.inl ⟨by rfl, ?_⟩) ?_ ?_
                        rotate_left
                        · intro w'
                          go_simp
                          with_reducible rfl
                        rotate_left
                        · simp only [Act.put, List.setIfInBounds_toArray, List.set_cons_zero, List.set_cons_succ, i64_w, i32_w]
                          rfl
                        refine pure_ (i := 17) (N := some 95) (v := ?_) (a' := ?_) #[true, true, true, true, true, true, true, true, true, true, true, true, true, true, true, false, true, true, false, false, false, false, false, false] rfl rfl (any_of HT_.out (by kernel_rfl)) (fun _ _ _ h => h) (Or.inl ⟨by rfl, ?_⟩) ?_ ?_
                        rotate_left
                        · intro w'
                          go_simp
                          with_reducible rfl
                        rotate_left
                        · simp only [Act.put, List.setIfInBounds_toArray, List.set_cons_zero, List.set_cons_succ, i64_w, i32_w]
                          rfl
                        refine pure_ (i := 18) (N := some 96) (v := ?_) (a' := ?_) #[true, true, true, true, true, true, true, true, true, true, true, true, true, true, true, false, true, true, true, false, false, false, false, false] rfl rfl (any_of HT_.out (by kernel_rfl)) (fun _ _ _ h => h) (Or.inl ⟨by rfl, ?_⟩) ?_ ?_
                        rotate_left
                        · intro w'
                          go_simp
                          with_reducible rfl
                        rotate_left
                        · simp only [Act.put, List.setIfInBounds_toArray, List.set_cons_zero, List.set_cons_succ, i64_w, i32_w]
                          rfl
                        refine pure_ (i := 19) (N := some 97) (v := ?_) (a' := ?_) #[true, true, true, true, true, true, true, true, true, true, true, true, true, true, true, false, true, true, true, true, false, false, false, false] rfl rfl (any_of HT_.out (by kernel_rfl)) (fun _ _ _ h => h) (Or.inl ⟨by rfl, ?_⟩) ?_ ?_
                        rotate_left
                        · intro w'
                          go_simp
                          with_reducible rfl
                        rotate_left
                        · simp only [Act.put, List.setIfInBounds_toArray, List.set_cons_zero, List.set_cons_succ, i64_w, i32_w]
                          rfl
                        refine take_ (i := 15) (N := some 93) (v := ?_) (a' := ?_) #[true, true, true, true, true, true, true, true, true, true, true, true, true, true, true, true, true, true, true, true, false, false, false, false] rfl rfl (take_ofW HT_.out HW_.out (by kernel_rfl)) (fun _ _ _ h => h) (Or.inl ⟨by rfl, ?_⟩) hHeld ?_ ?_
                        rotate_left
                        · rintro w' ⟨s0, s1, s2, s3, s4, s5, s6, s7, s8, s9⟩
                          go_simp
                          with_reducible rfl
                        rotate_left
                        · simp only [Act.put, List.setIfInBounds_toArray, List.set_cons_zero, List.set_cons_succ, i64_w, i32_w]
                          rfl
                        refine take_ (i := 20) (N := some 98) (v := ?_) (a' := ?_) #[true, true, true, true, true, true, true, true, true, true, true, true, true, true, true, true, true, true, true, true, true, false, false, false] rfl rfl (take_ofW HT_.out HW_.out (by kernel_rfl)) (fun _ _ _ h => h) (Or.inl ⟨by rfl, ?_⟩) hHeld ?_ ?_
                        rotate_left
                        · rintro w' ⟨s0, s1, s2, s3, s4, s5, s6, s7, s8, s9⟩
                          go_simp
                          with_reducible rfl
                        rotate_left
                        · simp only [Act.put, List.setIfInBounds_toArray, List.set_cons_zero, List.set_cons_succ, i64_w, i32_w]
                          rfl
                        refine pure_ (i := 21) (N := some 99) (v := ?_) (a' := ?_) #[true, true, true, true, true, true, true, true, true, true, true, true, true, true, true, true, true, true, true, true, true, true, false, false] rfl rfl (any_of HT_.out (by kernel_rfl)) (fun _ _ _ h => h) (Or.inl ⟨by rfl, ?_⟩) ?_ ?_
                        rotate_left
                        · intro w'
                          go_simp
                          with_reducible rfl
                        rotate_left
                        · simp only [Act.put, List.setIfInBounds_toArray, List.set_cons_zero, List.set_cons_succ, i64_w, i32_w]
                          rfl
                        refine pure_ (i := 22) (N := some 100) (v := ?_) (a' := ?_) #[true, true, true, true, true, true, true, true, true, true, true, true, true, true, true, true, true, true, true, true, true, true, true, false] rfl rfl (any_of HT_.out (by kernel_rfl)) (fun _ _ _ h => h) (Or.inl ⟨by rfl, ?_⟩) ?_ ?_
                        rotate_left
                        · intro w'
                          go_simp
                          with_reducible rfl
                        rotate_left
                        · simp only [Act.put, List.setIfInBounds_toArray, List.set_cons_zero, List.set_cons_succ, i64_w, i32_w]
                          rfl
                        refine pure_ (i := 23) (N := some 101) (v := ?_) (a' := ?_) #[true, true, true, true, true, true, true, true, true, true, true, true, true, true, true, true, true, true, true, true, true, true, true, true] rfl rfl (any_of HT_.out (by kernel_rfl)) (fun _ _ _ h => h) (Or.inl ⟨by rfl, ?_⟩) ?_ ?_
                        rotate_left
                        · intro w'
                          go_simp
                          with_reducible rfl
                        rotate_left
                        · simp only [Act.put, List.setIfInBounds_toArray, List.set_cons_zero, List.set_cons_succ, i64_w, i32_w]
                          rfl
                        refine done_ (done_of HT_.out (by kernel_rfl)) ?_
                        have p234 : 0 ≤ (x19_1 : Int) := of_decide_eq_true (by first | (with_reducible assumption) | assumption)
                        have q234 : x19_1 < (t210.length : Int) := of_decide_eq_true (by first | (with_reducible assumption) | assumption)
                        obtain ⟨ad234, e234, hx234_0⟩ := Kd.at_int (Kd.R_reads' HO_13.out).2.2 x19_1 p234 q234
                        obtain rfl : ad220 = ad234 := (by injection e234)
                        replace p234 := eq_true p234
                        replace q234 := eq_true q234
                        try go_wp2
                        go_roundg k1
                        case measure => have := HK1.out; omega
                        case rel => exact ⟨(((rd t210 x19_1) == t215)), (wrap64 (x19_1 + 1)), (by first | rfl | (simp; done) | (simp [*]; done)), (by first | rfl | (simp; done) | (simp [*]; done)), H', ⟨by have := HK1.out; omega⟩, ⟨by (with_reducible repeat (first | apply Kd.R_alloc | apply Kd.R_drewN | apply Kd.R_drew)); exact HO_13.out⟩, ⟨by (with_reducible repeat (first | refine blk_drewN ?_ _ | refine blk_drew ?_ | refine blk_alloc ?_ _)); exact BK209.out⟩, ⟨by repeat (first | (with_reducible first | exact HB.out | apply below_alloc | apply pw_below_drewN | apply below_drew1 | refine below_set ?_ GE209.out | refine below_set ?_ GE226.out) | exact HB.out)⟩⟩
                  · rw [if_neg c34] at H
                    exact absurd H (by simp)
                · rw [if_neg c33] at H
                  exact absurd H (by simp)
              · rw [if_neg c31] at H
                have c31b0 : decide (0 < x19_1) = false := decide_eq_false c31
                clear c31
                by_cases c55 : x18_1 = true
                · subst c55
                  have H1 : (tilefarmlaw5_GridTouches.l0 k1 (wrap64 (1 + t196)) (wrap64 (1 + t198)) (wrap64 (1 + t200)) (wrap64 (1 + t202)) t210 t213 t214 t215 t216 true (wrap64 (x19_1 + 1)) t204 t205 t206 t207) = some r := by rw [if_pos rfl] at H; exact H
                  clear H
                  have H := H1
                  clear H1
                  have H' := Aside0.mk H
                  clear H
                  obtain ⟨Ao56, co56, eo56⟩ := Kd.R_slice HO_13.out
                  subst eo56
                  have p220 : 0 ≤ (x19_1 : Int) := of_decide_eq_true (by first | (with_reducible assumption) | assumption)
                  have q220 : x19_1 < (t210.length : Int) := of_decide_eq_true (by first | (with_reducible assumption) | assumption)
                  obtain ⟨ad220, e220, hx220_0⟩ := Kd.at_int (Kd.R_reads' HO_13.out).2.2 x19_1 p220 q220
                  cases e220
                  replace p220 := eq_true p220
                  replace q220 := eq_true q220
                  try go_wp2_with (first | ((with_reducible refine gate_callee (f := 15) rfl ?_); refine goesL_ (some 75) rfl rfl Try.func15 (by kernel_rfl) rfl #[.int .i64 (wrap64 (1 + t196)), .int .i64 (wrap64 (1 + t198)), .int .i64 (wrap64 (1 + t200)), .int .i64 (wrap64 (1 + t202)), .int .i64 (rd t210 x19_1)] rfl (by (try simp only [List.map_toArray, List.map_cons, List.map_nil]); first | done | rfl | (simp only [List.length_drop, List.length_take]; rfl)) ?_; (with_reducible refine (grid_Tile.calls k1 (wrap64 (1 + t196)) (wrap64 (1 + t198)) (wrap64 (1 + t200)) (wrap64 (1 + t202)) (rd t210 x19_1) t221 t222 t223 t224 true _ A26.out).mono ?_); rintro e w57 ⟨rfl, hb⟩; refine ⟨_, rfl, ?_⟩; have n0_ := Aside0.mk (Kd.R_below (by (with_reducible repeat (first | apply Kd.R_alloc | apply Kd.R_drewN | apply Kd.R_drew)); exact HO_13.out) hb); have n1_ := Aside0.mk (blk_below (g := gb209) (o := .cells #[.int .i64 t204, .int .i64 t205, .int .i64 t206, .int .i64 t207] 31 (0, 0)) (by (with_reducible repeat (first | refine blk_drewN ?_ _ | refine blk_drew ?_ | refine blk_alloc ?_ _)); exact BK209.out) hb); have n2_ := Aside0.mk (below_step (by repeat (first | (with_reducible first | exact HB.out | apply below_alloc | apply pw_below_drewN | apply below_drew1 | refine below_set ?_ GE209.out) | exact HB.out)) hb); clear HO_13; clear BK209; clear HB; have HO_13 := n0_; have BK209 := n1_; have HB := n2_; clear n0_ n1_ n2_; (try clear hb); (try clear hb2); (try clear hk); (try clear hi)) | ((with_reducible refine gate_dst (N := 20) rfl ?_); refine box_event ?hg (N := 20) ?hd (cs := #[.int .i64 0, .int .i64 0, .int .i64 0, .int .i64 0]) (t := 31) ?hr ?_; (case hd => rfl); (case hg => rfl); (case hr => first | (go_simp; done) | (go_simp; rfl)); intro gb226 hg w58 hbox hb; have n0_ := Aside0.mk (Kd.R_below (by (with_reducible repeat (first | apply Kd.R_alloc | apply Kd.R_drewN | apply Kd.R_drew)); exact HO_13.out) hb); have n1_ := Aside0.mk (blk_below (g := gb209) (o := .cells #[.int .i64 t204, .int .i64 t205, .int .i64 t206, .int .i64 t207] 31 (0, 0)) (by (with_reducible repeat (first | refine blk_drewN ?_ _ | refine blk_drew ?_ | refine blk_alloc ?_ _)); exact BK209.out) hb); have n2_ := Aside0.mk (below_step (by repeat (first | (with_reducible first | exact HB.out | apply below_alloc | apply pw_below_drewN | apply below_drew1 | refine below_set ?_ GE209.out) | exact HB.out)) hb); have n3_ := Aside0.mk (hbox); have n4_ := Aside0.mk ((by rw [hg]; exact (below_size (by repeat (first | (with_reducible first | exact HB.out | apply below_alloc | apply pw_below_drewN | apply below_drew1 | refine below_set ?_ GE209.out) | exact HB.out))) : w.heap.size ≤ gb226)); have n5_ := Aside0.mk ((by rw [hg]; exact (below_size (by repeat (first | (with_reducible first | exact HB.out | apply below_alloc | apply pw_below_drewN | apply below_drew1 | refine below_set ?_ GE209.out) | exact HB.out))) : w.heap.size ≤ gb226)); have n6_ := Aside0.mk ((by rw [hg]; exact Nat.ne_of_lt (blk_lt (g := gb209) (o := .cells #[.int .i64 t204, .int .i64 t205, .int .i64 t206, .int .i64 t207] 31 (0, 0)) (by (with_reducible repeat (first | refine blk_drewN ?_ _ | refine blk_drew ?_ | refine blk_alloc ?_ _)); exact BK209.out)) : gb209 ≠ gb226)); have n7_ := Aside0.mk ((by rw [hg]; exact Nat.ne_of_gt (blk_lt (g := gb209) (o := .cells #[.int .i64 t204, .int .i64 t205, .int .i64 t206, .int .i64 t207] 31 (0, 0)) (by (with_reducible repeat (first | refine blk_drewN ?_ _ | refine blk_drew ?_ | refine blk_alloc ?_ _)); exact BK209.out)) : gb226 ≠ gb209)); clear HO_13; clear BK209; clear HB; have HO_13 := n0_; have BK209 := n1_; have HB := n2_; have BK226 := n3_; have GW226 := n4_; have GE226 := n5_; have NB209_226 := n6_; have NB226_209 := n7_; clear n0_ n1_ n2_ n3_ n4_ n5_ n6_ n7_; clear hb hbox hg; have hnb59 := NB226_209.out; have hnc59 := NB209_226.out; have hcz60_0 : w58.cell? ⟨gb226, 0, none⟩ = some (.int .i64 0) := (blk_cell BK226.out 0).trans rfl; have hcz60_1 : w58.cell? ⟨gb226, 1, none⟩ = some (.int .i64 0) := (blk_cell BK226.out 1).trans rfl; have hcz60_2 : w58.cell? ⟨gb226, 2, none⟩ = some (.int .i64 0) := (blk_cell BK226.out 2).trans rfl; have hcz60_3 : w58.cell? ⟨gb226, 3, none⟩ = some (.int .i64 0) := (blk_cell BK226.out 3).trans rfl; have hfz60_0 := blk_frozen BK226.out 0; have hfz60_1 := blk_frozen BK226.out 1; have hfz60_2 := blk_frozen BK226.out 2; have hfz60_3 := blk_frozen BK226.out 3))
                  have n0_ : Aside0 (Kd.R (Kd.int .i64) 3 ((((w58.setCell ⟨gb226, 0, none⟩ (.int .i64 t221)).setCell ⟨gb226, 1, none⟩ (.int .i64 t222)).setCell ⟨gb226, 2, none⟩ (.int .i64 t223)).setCell ⟨gb226, 3, none⟩ (.int .i64 t224)) w.heap.size (fun _ => True) (.slice (some ad220) t210.length co56) t210) := ⟨by (with_reducible repeat (first | apply Kd.R_alloc | apply Kd.R_drewN | apply Kd.R_drew)); exact Kd.R_mono (Kd.R_far (p := ⟨gb226, 3, none⟩) (Kd.R_far (p := ⟨gb226, 2, none⟩) (Kd.R_far (p := ⟨gb226, 1, none⟩) (Kd.R_far (p := ⟨gb226, 0, none⟩) (Kd.R_types HO_13.out BK226.out (by decide)) (fun _ hk => hk.2) (.int .i64 t221)) (fun _ hk => hk.2) (.int .i64 t222)) (fun _ hk => hk.2) (.int .i64 t223)) (fun _ hk => hk.2) (.int .i64 t224)) (fun _ hk => trivial)⟩
                  have n1_ : Aside0 (((((w58.setCell ⟨gb226, 0, none⟩ (.int .i64 t221)).setCell ⟨gb226, 1, none⟩ (.int .i64 t222)).setCell ⟨gb226, 2, none⟩ (.int .i64 t223)).setCell ⟨gb226, 3, none⟩ (.int .i64 t224)).heap[gb209]? = some (.cells #[.int .i64 t204, .int .i64 t205, .int .i64 t206, .int .i64 t207] 31 (0, 0))) := ⟨by (with_reducible repeat (first | refine blk_drewN ?_ _ | refine blk_drew ?_ | refine blk_alloc ?_ _)); refine blk_far ?_ NB209_226.out _; (with_reducible repeat (first | refine blk_drewN ?_ _ | refine blk_drew ?_ | refine blk_alloc ?_ _)); refine blk_far ?_ NB209_226.out _; (with_reducible repeat (first | refine blk_drewN ?_ _ | refine blk_drew ?_ | refine blk_alloc ?_ _)); refine blk_far ?_ NB209_226.out _; (with_reducible repeat (first | refine blk_drewN ?_ _ | refine blk_drew ?_ | refine blk_alloc ?_ _)); refine blk_far ?_ NB209_226.out _; (with_reducible repeat (first | refine blk_drewN ?_ _ | refine blk_drew ?_ | refine blk_alloc ?_ _)); exact BK209.out⟩
                  have n2_ : Aside0 (((((w58.setCell ⟨gb226, 0, none⟩ (.int .i64 t221)).setCell ⟨gb226, 1, none⟩ (.int .i64 t222)).setCell ⟨gb226, 2, none⟩ (.int .i64 t223)).setCell ⟨gb226, 3, none⟩ (.int .i64 t224)).heap[gb226]? = some (.cells #[.int .i64 t221, .int .i64 t222, .int .i64 t223, .int .i64 t224] 31 (0, 0))) := ⟨by (with_reducible repeat (first | refine blk_drewN ?_ _ | refine blk_drew ?_ | refine blk_alloc ?_ _)); refine blk_put (cs := #[.int .i64 t221, .int .i64 t222, .int .i64 t223, .int .i64 0]) ?_ 3 _ rfl; (with_reducible repeat (first | refine blk_drewN ?_ _ | refine blk_drew ?_ | refine blk_alloc ?_ _)); refine blk_put (cs := #[.int .i64 t221, .int .i64 t222, .int .i64 0, .int .i64 0]) ?_ 2 _ rfl; (with_reducible repeat (first | refine blk_drewN ?_ _ | refine blk_drew ?_ | refine blk_alloc ?_ _)); refine blk_put (cs := #[.int .i64 t221, .int .i64 0, .int .i64 0, .int .i64 0]) ?_ 1 _ rfl; (with_reducible repeat (first | refine blk_drewN ?_ _ | refine blk_drew ?_ | refine blk_alloc ?_ _)); refine blk_put (cs := #[.int .i64 0, .int .i64 0, .int .i64 0, .int .i64 0]) ?_ 0 _ rfl; (with_reducible repeat (first | refine blk_drewN ?_ _ | refine blk_drew ?_ | refine blk_alloc ?_ _)); exact BK226.out⟩
                  have n3_ : Aside0 (Below w.heap.size w ((((w58.setCell ⟨gb226, 0, none⟩ (.int .i64 t221)).setCell ⟨gb226, 1, none⟩ (.int .i64 t222)).setCell ⟨gb226, 2, none⟩ (.int .i64 t223)).setCell ⟨gb226, 3, none⟩ (.int .i64 t224))) := ⟨by repeat (first | (with_reducible first | exact HB.out | apply below_alloc | apply pw_below_drewN | apply below_drew1 | refine below_set ?_ GE209.out | refine below_set ?_ GE226.out) | exact HB.out)⟩
                  (try clear HO_13)
                  (try clear BK209)
                  (try clear BK226)
                  (try clear HB)
                  generalize ((((w58.setCell ⟨gb226, 0, none⟩ (.int .i64 t221)).setCell ⟨gb226, 1, none⟩ (.int .i64 t222)).setCell ⟨gb226, 2, none⟩ (.int .i64 t223)).setCell ⟨gb226, 3, none⟩ (.int .i64 t224)) = w61 at n0_ n1_ n2_ n3_ ⊢
                  have HO_13 := n0_
                  have BK209 := n1_
                  have BK226 := n2_
                  have HB := n3_
                  clear n0_ n1_ n2_ n3_
                  have n0_ := Aside0.mk (Kd.R_drew HO_13.out)
                  have n1_ := Aside0.mk (blk_drew BK209.out)
                  have n2_ := Aside0.mk (blk_drew BK226.out)
                  have n3_ := Aside0.mk (below_drew1 HB.out)
                  clear HO_13
                  clear BK209
                  clear BK226
                  clear HB
                  have HO_13 := n0_
                  have BK209 := n1_
                  have BK226 := n2_
                  have HB := n3_
                  clear n0_ n1_ n2_ n3_
                  refine start_ (n := 24) (S := fun w' => w'.cell? ⟨gb226, 0, none⟩ = some (.int .i64 t221) ∧ w'.cell? ⟨gb226, 1, none⟩ = some (.int .i64 t222) ∧ w'.cell? ⟨gb226, 2, none⟩ = some (.int .i64 t223) ∧ w'.cell? ⟨gb226, 3, none⟩ = some (.int .i64 t224) ∧ w'.cell? ⟨gb209, 0, none⟩ = some (.int .i64 t204) ∧ w'.cell? ⟨gb209, 1, none⟩ = some (.int .i64 t205) ∧ w'.cell? ⟨gb209, 2, none⟩ = some (.int .i64 t206) ∧ w'.cell? ⟨gb209, 3, none⟩ = some (.int .i64 t207)) (ds := []) #[false, false, false, false, false, false, false, false, false, false, false, false, false, false, false, false, false, false, false, false, false, false, false, false] (by kernel_rfl) rfl rfl ⟨(blk_cell BK226.out 0).trans rfl, (blk_cell BK226.out 1).trans rfl, (blk_cell BK226.out 2).trans rfl, (blk_cell BK226.out 3).trans rfl, (blk_cell BK209.out 0).trans rfl, (blk_cell BK209.out 1).trans rfl, (blk_cell BK209.out 2).trans rfl, (blk_cell BK209.out 3).trans rfl⟩ (fun hHeld => ?_); refine with_tabW tilefarmlaw5_GridTouches.tab12 tilefarmlaw5_GridTouches.bits12 (fun HT_ HW_ => ?_)
                  generalize w61.drew = w62 at HO_13 BK209 BK226 HB hHeld ⊢
                  refine pure_ (i := 0) (N := some 78) (v := ?_) (a' := ?_) #[true, false, false, false, false, false, false, false, false, false, false, false, false, false, false, false, false, false, false, false, false, false, false, false] rfl rfl (any_of HT_.out (by kernel_rfl)) (fun _ _ _ h => h) (Or.inl ⟨by rfl, ?_⟩) ?_ ?_
                  rotate_left
                  · intro w'
                    go_simp
                    with_reducible rfl
                  rotate_left
                  · simp only [Act.put, List.setIfInBounds_toArray, List.set_cons_zero, List.set_cons_succ, i64_w, i32_w]
                    rfl
                  refine pure_ (i := 1) (N := some 79) (v := ?_) (a' := ?_) #[true, true, false, false, false, false, false, false, false, false, false, false, false, false, false, false, false, false, false, false, false, false, false, false] rfl rfl (any_of HT_.out (by kernel_rfl)) (fun _ _ _ h => h) (Or.inl ⟨by rfl, ?_⟩) ?_ ?_
                  rotate_left
                  · intro w'
                    go_simp
                    with_reducible rfl
                  rotate_left
                  · simp only [Act.put, List.setIfInBounds_toArray, List.set_cons_zero, List.set_cons_succ, i64_w, i32_w]
                    rfl
                  refine pure_ (i := 2) (N := some 80) (v := ?_) (a' := ?_) #[true, true, true, false, false, false, false, false, false, false, false, false, false, false, false, false, false, false, false, false, false, false, false, false] rfl rfl (any_of HT_.out (by kernel_rfl)) (fun _ _ _ h => h) (Or.inl ⟨by rfl, ?_⟩) ?_ ?_
                  rotate_left
                  · intro w'
                    go_simp
                    with_reducible rfl
                  rotate_left
                  · simp only [Act.put, List.setIfInBounds_toArray, List.set_cons_zero, List.set_cons_succ, i64_w, i32_w]
                    rfl
                  refine take_ (i := 3) (N := some 81) (v := ?_) (a' := ?_) #[true, true, true, true, false, false, false, false, false, false, false, false, false, false, false, false, false, false, false, false, false, false, false, false] rfl rfl (take_ofW HT_.out HW_.out (by kernel_rfl)) (fun _ _ _ h => h) (Or.inl ⟨by rfl, ?_⟩) hHeld ?_ ?_
                  rotate_left
                  · rintro w' ⟨s0, s1, s2, s3, s4, s5, s6, s7⟩
                    go_simp
                    with_reducible rfl
                  rotate_left
                  · simp only [Act.put, List.setIfInBounds_toArray, List.set_cons_zero, List.set_cons_succ, i64_w, i32_w]
                    rfl
                  refine take_ (i := 4) (N := some 82) (v := ?_) (a' := ?_) #[true, true, true, true, true, false, false, false, false, false, false, false, false, false, false, false, false, false, false, false, false, false, false, false] rfl rfl (take_ofW HT_.out HW_.out (by kernel_rfl)) (fun _ _ _ h => h) (Or.inl ⟨by rfl, ?_⟩) hHeld ?_ ?_
                  rotate_left
                  · rintro w' ⟨s0, s1, s2, s3, s4, s5, s6, s7⟩
                    go_simp
                    with_reducible rfl
                  rotate_left
                  · simp only [Act.put, List.setIfInBounds_toArray, List.set_cons_zero, List.set_cons_succ, i64_w, i32_w]
                    rfl
                  refine one_ (i := 5) (N := some 83) #[true, true, true, true, true, true, false, false, false, false, false, false, false, false, false, false, false, false, false, false, false, false, false, false] rfl rfl (one_of HT_.out (by kernel_rfl)) (by decide) (fun K hK => ?_)
                  refine goes_ Try.func21 (by kernel_rfl) rfl #[.agg #[.int .i64 t221, .int .i64 t222, .int .i64 t223, .int .i64 t224], .agg #[.int .i64 t204, .int .i64 t205, .int .i64 t206, .int .i64 t207]] (by rfl) rfl rfl (by (try simp only [List.map_toArray, List.map_cons, List.map_nil]); first | done | rfl | (simp only [List.length_drop, List.length_take]; rfl)) ?_
                  with_reducible refine (tilefarmref2_Intersect.calls t221 t222 t223 t224 t204 t205 t206 t207 t227 t228 t229 t230 _ A28.out).mono ?_
                  rintro e w63 ⟨rfl, hb⟩
                  refine ⟨_, rfl, ?_⟩
                  have n0_ := Aside0.mk (Kd.R_below (by (with_reducible repeat (first | apply Kd.R_alloc | apply Kd.R_drewN | apply Kd.R_drew)); exact HO_13.out) hb)
                  have n1_ := Aside0.mk (blk_below (g := gb209) (o := .cells #[.int .i64 t204, .int .i64 t205, .int .i64 t206, .int .i64 t207] 31 (0, 0)) (by (with_reducible repeat (first | refine blk_drewN ?_ _ | refine blk_drew ?_ | refine blk_alloc ?_ _)); exact BK209.out) hb)
                  have n2_ := Aside0.mk (blk_below (g := gb226) (o := .cells #[.int .i64 t221, .int .i64 t222, .int .i64 t223, .int .i64 t224] 31 (0, 0)) (by (with_reducible repeat (first | refine blk_drewN ?_ _ | refine blk_drew ?_ | refine blk_alloc ?_ _)); exact BK226.out) hb)
                  have n3_ := Aside0.mk (below_step (by repeat (first | (with_reducible first | exact HB.out | apply below_alloc | apply pw_below_drewN | apply below_drew1 | refine below_set ?_ GE209.out | refine below_set ?_ GE226.out) | exact HB.out)) hb)
                  clear HO_13
                  clear BK209
                  clear BK226
                  clear HB
                  have HO_13 := n0_
                  have BK209 := n1_
                  have BK226 := n2_
                  have HB := n3_
                  clear n0_ n1_ n2_ n3_
                  (try clear hb)
                  (try clear hb2)
                  (try clear hk)
                  (try clear hi)
                  refine hK.out _ _ ⟨(blk_cell BK226.out 0).trans rfl, (blk_cell BK226.out 1).trans rfl, (blk_cell BK226.out 2).trans rfl, (blk_cell BK226.out 3).trans rfl, (blk_cell BK209.out 0).trans rfl, (blk_cell BK209.out 1).trans rfl, (blk_cell BK209.out 2).trans rfl, (blk_cell BK209.out 3).trans rfl⟩ (fun hHeld => ?_)
                  clear hK K
                  refine norm_ (a' := ?_) ?_ ?_
                  rotate_left
                  · show Act.put _ (some 83) _ = _
                    simp only [Act.put, List.setIfInBounds_toArray, List.set_cons_zero, List.set_cons_succ, i64_w, i32_w]
                    rfl
                  refine one_ (i := 6) (N := some 84) #[true, true, true, true, true, true, true, false, false, false, false, false, false, false, false, false, false, false, false, false, false, false, false, false] rfl rfl (one_of HT_.out (by kernel_rfl)) (by decide) (fun K hK => ?_)
                  refine goes_ Try.func20 (by kernel_rfl) rfl #[.agg #[.int .i64 t227, .int .i64 t228, .int .i64 t229, .int .i64 t230]] (by rfl) rfl rfl (by (try simp only [List.map_toArray, List.map_cons, List.map_nil]); first | done | rfl | (simp only [List.length_drop, List.length_take]; rfl)) ?_
                  with_reducible refine (tilefarmref2_Empty.calls t227 t228 t229 t230 false _ A29.out).mono ?_
                  rintro e w64 ⟨rfl, hb⟩
                  refine ⟨_, rfl, ?_⟩
                  have n0_ := Aside0.mk (Kd.R_below (by (with_reducible repeat (first | apply Kd.R_alloc | apply Kd.R_drewN | apply Kd.R_drew)); exact HO_13.out) hb)
                  have n1_ := Aside0.mk (blk_below (g := gb209) (o := .cells #[.int .i64 t204, .int .i64 t205, .int .i64 t206, .int .i64 t207] 31 (0, 0)) (by (with_reducible repeat (first | refine blk_drewN ?_ _ | refine blk_drew ?_ | refine blk_alloc ?_ _)); exact BK209.out) hb)
                  have n2_ := Aside0.mk (blk_below (g := gb226) (o := .cells #[.int .i64 t221, .int .i64 t222, .int .i64 t223, .int .i64 t224] 31 (0, 0)) (by (with_reducible repeat (first | refine blk_drewN ?_ _ | refine blk_drew ?_ | refine blk_alloc ?_ _)); exact BK226.out) hb)
                  have n3_ := Aside0.mk (below_step (by repeat (first | (with_reducible first | exact HB.out | apply below_alloc | apply pw_below_drewN | apply below_drew1 | refine below_set ?_ GE209.out | refine below_set ?_ GE226.out) | exact HB.out)) hb)
                  clear HO_13
                  clear BK209
                  clear BK226
                  clear HB
                  have HO_13 := n0_
                  have BK209 := n1_
                  have BK226 := n2_
                  have HB := n3_
                  clear n0_ n1_ n2_ n3_
                  (try clear hb)
                  (try clear hb2)
                  (try clear hk)
                  (try clear hi)
                  refine hK.out _ _ ⟨(blk_cell BK226.out 0).trans rfl, (blk_cell BK226.out 1).trans rfl, (blk_cell BK226.out 2).trans rfl, (blk_cell BK226.out 3).trans rfl, (blk_cell BK209.out 0).trans rfl, (blk_cell BK209.out 1).trans rfl, (blk_cell BK209.out 2).trans rfl, (blk_cell BK209.out 3).trans rfl⟩ (fun hHeld => ?_)
                  clear hK K
                  refine norm_ (a' := ?_) ?_ ?_
                  rotate_left
                  · show Act.put _ (some 84) _ = _
                    simp only [Act.put, List.setIfInBounds_toArray, List.set_cons_zero, List.set_cons_succ, i64_w, i32_w]
                    rfl
                  refine pure_ (i := 7) (N := some 85) (v := ?_) (a' := ?_) #[true, true, true, true, true, true, true, true, false, false, false, false, false, false, false, false, false, false, false, false, false, false, false, false] rfl rfl (any_of HT_.out (by kernel_rfl)) (fun _ _ _ h => h) (Or.inl ⟨by rfl, ?_⟩) ?_ ?_
                  rotate_left
                  · intro w'
                    go_simp
                    with_reducible rfl
                  rotate_left
                  · simp only [Act.put, List.setIfInBounds_toArray, List.set_cons_zero, List.set_cons_succ, i64_w, i32_w]
                    rfl
                  refine pure_ (i := 8) (N := some 86) (v := ?_) (a' := ?_) #[true, true, true, true, true, true, true, true, true, false, false, false, false, false, false, false, false, false, false, false, false, false, false, false] rfl rfl (any_of HT_.out (by kernel_rfl)) (fun _ _ _ h => h) (Or.inl ⟨by rfl, ?_⟩) ?_ ?_
                  rotate_left
                  · intro w'
                    go_simp
                    with_reducible rfl
                  rotate_left
                  · simp only [Act.put, List.setIfInBounds_toArray, List.set_cons_zero, List.set_cons_succ, i64_w, i32_w]
                    rfl
                  refine pure_ (i := 9) (N := some 87) (v := ?_) (a' := ?_) #[true, true, true, true, true, true, true, true, true, true, false, false, false, false, false, false, false, false, false, false, false, false, false, false] rfl rfl (any_of HT_.out (by kernel_rfl)) (fun _ _ _ h => h) (Or.inl ⟨by rfl, ?_⟩) ?_ ?_
                  rotate_left
                  · intro w'
                    go_simp
                    with_reducible rfl
                  rotate_left
                  · simp only [Act.put, List.setIfInBounds_toArray, List.set_cons_zero, List.set_cons_succ, i64_w, i32_w]
                    rfl
                  refine pure_ (i := 10) (N := some 88) (v := ?_) (a' := ?_) #[true, true, true, true, true, true, true, true, true, true, true, false, false, false, false, false, false, false, false, false, false, false, false, false] rfl rfl (any_of HT_.out (by kernel_rfl)) (fun _ _ _ h => h) (Or.inl ⟨by rfl, ?_⟩) ?_ ?_
                  rotate_left
                  · intro w'
                    go_simp
                    with_reducible rfl
                  rotate_left
                  · simp only [Act.put, List.setIfInBounds_toArray, List.set_cons_zero, List.set_cons_succ, i64_w, i32_w]
                    rfl
                  refine pure_ (i := 11) (N := some 89) (v := ?_) (a' := ?_) #[true, true, true, true, true, true, true, true, true, true, true, true, false, false, false, false, false, false, false, false, false, false, false, false] rfl rfl (any_of HT_.out (by kernel_rfl)) (fun _ _ _ h => h) (Or.inl ⟨by rfl, ?_⟩) ?_ ?_
                  rotate_left
                  · intro w'
                    go_simp
                    with_reducible rfl
                  rotate_left
                  · simp only [Act.put, List.setIfInBounds_toArray, List.set_cons_zero, List.set_cons_succ, i64_w, i32_w]
                    rfl
                  refine pure_ (i := 12) (N := some 90) (v := undef) (a' := ?_) #[true, true, true, true, true, true, true, true, true, true, true, true, true, false, false, false, false, false, false, false, false, false, false, false] rfl rfl (any_of HT_.out (by kernel_rfl)) (fun _ _ _ h => h) (Or.inr ⟨by rfl, rfl⟩) ?_ ?_
                  rotate_left
                  · simp only [Act.put, List.setIfInBounds_toArray, List.set_cons_zero, List.set_cons_succ, i64_w, i32_w]
                    rfl
                  refine pure_ (i := 13) (N := some 91) (v := undef) (a' := ?_) #[true, true, true, true, true, true, true, true, true, true, true, true, true, true, false, false, false, false, false, false, false, false, false, false] rfl rfl (any_of HT_.out (by kernel_rfl)) (fun _ _ _ h => h) (Or.inr ⟨by rfl, rfl⟩) ?_ ?_
                  rotate_left
                  · simp only [Act.put, List.setIfInBounds_toArray, List.set_cons_zero, List.set_cons_succ, i64_w, i32_w]
                    rfl
                  refine pure_ (i := 14) (N := some 92) (v := undef) (a' := ?_) #[true, true, true, true, true, true, true, true, true, true, true, true, true, true, true, false, false, false, false, false, false, false, false, false] rfl rfl (any_of HT_.out (by kernel_rfl)) (fun _ _ _ h => h) (Or.inr ⟨by rfl, rfl⟩) ?_ ?_
                  rotate_left
                  · simp only [Act.put, List.setIfInBounds_toArray, List.set_cons_zero, List.set_cons_succ, i64_w, i32_w]
                    rfl
                  refine pure_ (i := 15) (N := some 93) (v := undef) (a' := ?_) #[true, true, true, true, true, true, true, true, true, true, true, true, true, true, true, true, false, false, false, false, false, false, false, false] rfl rfl (any_of HT_.out (by kernel_rfl)) (fun _ _ _ h => h) (Or.inr ⟨by rfl, rfl⟩) ?_ ?_
                  rotate_left
                  · simp only [Act.put, List.setIfInBounds_toArray, List.set_cons_zero, List.set_cons_succ, i64_w, i32_w]
                    rfl
                  refine pure_ (i := 16) (N := some 94) (v := undef) (a' := ?_) #[true, true, true, true, true, true, true, true, true, true, true, true, true, true, true, true, true, false, false, false, false, false, false, false] rfl rfl (any_of HT_.out (by kernel_rfl)) (fun _ _ _ h => h) (Or.inr ⟨by rfl, rfl⟩) ?_ ?_
                  rotate_left
                  · simp only [Act.put, List.setIfInBounds_toArray, List.set_cons_zero, List.set_cons_succ, i64_w, i32_w]
                    rfl
                  refine pure_ (i := 17) (N := some 95) (v := undef) (a' := ?_) #[true, true, true, true, true, true, true, true, true, true, true, true, true, true, true, true, true, true, false, false, false, false, false, false] rfl rfl (any_of HT_.out (by kernel_rfl)) (fun _ _ _ h => h) (Or.inr ⟨by rfl, rfl⟩) ?_ ?_
                  rotate_left
                  · simp only [Act.put, List.setIfInBounds_toArray, List.set_cons_zero, List.set_cons_succ, i64_w, i32_w]
                    rfl
                  refine pure_ (i := 18) (N := some 96) (v := undef) (a' := ?_) #[true, true, true, true, true, true, true, true, true, true, true, true, true, true, true, true, true, true, true, false, false, false, false, false] rfl rfl (any_of HT_.out (by kernel_rfl)) (fun _ _ _ h => h) (Or.inr ⟨by rfl, rfl⟩) ?_ ?_
                  rotate_left
                  · simp only [Act.put, List.setIfInBounds_toArray, List.set_cons_zero, List.set_cons_succ, i64_w, i32_w]
                    rfl
                  refine pure_ (i := 19) (N := some 97) (v := undef) (a' := ?_) #[true, true, true, true, true, true, true, true, true, true, true, true, true, true, true, true, true, true, true, true, false, false, false, false] rfl rfl (any_of HT_.out (by kernel_rfl)) (fun _ _ _ h => h) (Or.inr ⟨by rfl, rfl⟩) ?_ ?_
                  rotate_left
                  · simp only [Act.put, List.setIfInBounds_toArray, List.set_cons_zero, List.set_cons_succ, i64_w, i32_w]
                    rfl
                  refine pure_ (i := 20) (N := some 98) (v := undef) (a' := ?_) #[true, true, true, true, true, true, true, true, true, true, true, true, true, true, true, true, true, true, true, true, true, false, false, false] rfl rfl (any_of HT_.out (by kernel_rfl)) (fun _ _ _ h => h) (Or.inr ⟨by rfl, rfl⟩) ?_ ?_
                  rotate_left
                  · simp only [Act.put, List.setIfInBounds_toArray, List.set_cons_zero, List.set_cons_succ, i64_w, i32_w]
                    rfl
                  refine pure_ (i := 21) (N := some 99) (v := undef) (a' := ?_) #[true, true, true, true, true, true, true, true, true, true, true, true, true, true, true, true, true, true, true, true, true, true, false, false] rfl rfl (any_of HT_.out (by kernel_rfl)) (fun _ _ _ h => h) (Or.inr ⟨by rfl, rfl⟩) ?_ ?_
                  rotate_left
                  · simp only [Act.put, List.setIfInBounds_toArray, List.set_cons_zero, List.set_cons_succ, i64_w, i32_w]
                    rfl
                  refine pure_ (i := 22) (N := some 100) (v := ?_) (a' := ?_) #[true, true, true, true, true, true, true, true, true, true, true, true, true, true, true, true, true, true, true, true, true, true, true, false] rfl rfl (any_of HT_.out (by kernel_rfl)) (fun _ _ _ h => h) (Or.inl ⟨by rfl, ?_⟩) ?_ ?_
                  rotate_left
                  · intro w'
                    go_simp
                    with_reducible rfl
                  rotate_left
                  · simp only [Act.put, List.setIfInBounds_toArray, List.set_cons_zero, List.set_cons_succ, i64_w, i32_w]
                    rfl
                  refine pure_ (i := 23) (N := some 101) (v := ?_) (a' := ?_) #[true, true, true, true, true, true, true, true, true, true, true, true, true, true, true, true, true, true, true, true, true, true, true, true] rfl rfl (any_of HT_.out (by kernel_rfl)) (fun _ _ _ h => h) (Or.inl ⟨by rfl, ?_⟩) ?_ ?_
                  rotate_left
                  · intro w'
                    go_simp
                    with_reducible rfl
                  rotate_left
                  · simp only [Act.put, List.setIfInBounds_toArray, List.set_cons_zero, List.set_cons_succ, i64_w, i32_w]
                    rfl
                  refine done_ (done_of HT_.out (by kernel_rfl)) ?_
                  try go_wp2
                  go_roundg k1
                  case measure => have := HK1.out; omega
                  case rel => exact ⟨(true), (wrap64 (x19_1 + 1)), (by first | rfl | (simp; done) | (simp [*]; done)), (by first | rfl | (simp; done) | (simp [*]; done)), H', ⟨by have := HK1.out; omega⟩, ⟨by (with_reducible repeat (first | apply Kd.R_alloc | apply Kd.R_drewN | apply Kd.R_drew)); exact HO_13.out⟩, ⟨by (with_reducible repeat (first | refine blk_drewN ?_ _ | refine blk_drew ?_ | refine blk_alloc ?_ _)); exact BK209.out⟩, ⟨by repeat (first | (with_reducible first | exact HB.out | apply below_alloc | apply pw_below_drewN | apply below_drew1 | refine below_set ?_ GE209.out | refine below_set ?_ GE226.out) | exact HB.out)⟩⟩
                · replace c55 := Bool.eq_false_iff.mpr c55
                  subst c55
                  have H1 : (tilefarmlaw5_GridTouches.l0 k1 (wrap64 (1 + t196)) (wrap64 (1 + t198)) (wrap64 (1 + t200)) (wrap64 (1 + t202)) t210 t213 t214 t215 t216 ((rd t210 x19_1) == t215) (wrap64 (x19_1 + 1)) t204 t205 t206 t207) = some r := by rw [if_neg (show ¬ (false = true) by decide)] at H; exact H
                  clear H
                  have H := H1
                  clear H1
                  have H' := Aside0.mk H
                  clear H
                  obtain ⟨Ao65, co65, eo65⟩ := Kd.R_slice HO_13.out
                  subst eo65
                  have p220 : 0 ≤ (x19_1 : Int) := of_decide_eq_true (by first | (with_reducible assumption) | assumption)
                  have q220 : x19_1 < (t210.length : Int) := of_decide_eq_true (by first | (with_reducible assumption) | assumption)
                  obtain ⟨ad220, e220, hx220_0⟩ := Kd.at_int (Kd.R_reads' HO_13.out).2.2 x19_1 p220 q220
                  cases e220
                  replace p220 := eq_true p220
                  replace q220 := eq_true q220
                  try go_wp2_with (first | ((with_reducible refine gate_callee (f := 15) rfl ?_); refine goesL_ (some 75) rfl rfl Try.func15 (by kernel_rfl) rfl #[.int .i64 (wrap64 (1 + t196)), .int .i64 (wrap64 (1 + t198)), .int .i64 (wrap64 (1 + t200)), .int .i64 (wrap64 (1 + t202)), .int .i64 (rd t210 x19_1)] rfl (by (try simp only [List.map_toArray, List.map_cons, List.map_nil]); first | done | rfl | (simp only [List.length_drop, List.length_take]; rfl)) ?_; (with_reducible refine (grid_Tile.calls k1 (wrap64 (1 + t196)) (wrap64 (1 + t198)) (wrap64 (1 + t200)) (wrap64 (1 + t202)) (rd t210 x19_1) t221 t222 t223 t224 true _ A26.out).mono ?_); rintro e w66 ⟨rfl, hb⟩; refine ⟨_, rfl, ?_⟩; have n0_ := Aside0.mk (Kd.R_below (by (with_reducible repeat (first | apply Kd.R_alloc | apply Kd.R_drewN | apply Kd.R_drew)); exact HO_13.out) hb); have n1_ := Aside0.mk (blk_below (g := gb209) (o := .cells #[.int .i64 t204, .int .i64 t205, .int .i64 t206, .int .i64 t207] 31 (0, 0)) (by (with_reducible repeat (first | refine blk_drewN ?_ _ | refine blk_drew ?_ | refine blk_alloc ?_ _)); exact BK209.out) hb); have n2_ := Aside0.mk (below_step (by repeat (first | (with_reducible first | exact HB.out | apply below_alloc | apply pw_below_drewN | apply below_drew1 | refine below_set ?_ GE209.out) | exact HB.out)) hb); clear HO_13; clear BK209; clear HB; have HO_13 := n0_; have BK209 := n1_; have HB := n2_; clear n0_ n1_ n2_; (try clear hb); (try clear hb2); (try clear hk); (try clear hi)) | ((with_reducible refine gate_dst (N := 20) rfl ?_); refine box_event ?hg (N := 20) ?hd (cs := #[.int .i64 0, .int .i64 0, .int .i64 0, .int .i64 0]) (t := 31) ?hr ?_; (case hd => rfl); (case hg => rfl); (case hr => first | (go_simp; done) | (go_simp; rfl)); intro gb226 hg w67 hbox hb; have n0_ := Aside0.mk (Kd.R_below (by (with_reducible repeat (first | apply Kd.R_alloc | apply Kd.R_drewN | apply Kd.R_drew)); exact HO_13.out) hb); have n1_ := Aside0.mk (blk_below (g := gb209) (o := .cells #[.int .i64 t204, .int .i64 t205, .int .i64 t206, .int .i64 t207] 31 (0, 0)) (by (with_reducible repeat (first | refine blk_drewN ?_ _ | refine blk_drew ?_ | refine blk_alloc ?_ _)); exact BK209.out) hb); have n2_ := Aside0.mk (below_step (by repeat (first | (with_reducible first | exact HB.out | apply below_alloc | apply pw_below_drewN | apply below_drew1 | refine below_set ?_ GE209.out) | exact HB.out)) hb); have n3_ := Aside0.mk (hbox); have n4_ := Aside0.mk ((by rw [hg]; exact (below_size (by repeat (first | (with_reducible first | exact HB.out | apply below_alloc | apply pw_below_drewN | apply below_drew1 | refine below_set ?_ GE209.out) | exact HB.out))) : w.heap.size ≤ gb226)); have n5_ := Aside0.mk ((by rw [hg]; exact (below_size (by repeat (first | (with_reducible first | exact HB.out | apply below_alloc | apply pw_below_drewN | apply below_drew1 | refine below_set ?_ GE209.out) | exact HB.out))) : w.heap.size ≤ gb226)); have n6_ := Aside0.mk ((by rw [hg]; exact Nat.ne_of_lt (blk_lt (g := gb209) (o := .cells #[.int .i64 t204, .int .i64 t205, .int .i64 t206, .int .i64 t207] 31 (0, 0)) (by (with_reducible repeat (first | refine blk_drewN ?_ _ | refine blk_drew ?_ | refine blk_alloc ?_ _)); exact BK209.out)) : gb209 ≠ gb226)); have n7_ := Aside0.mk ((by rw [hg]; exact Nat.ne_of_gt (blk_lt (g := gb209) (o := .cells #[.int .i64 t204, .int .i64 t205, .int .i64 t206, .int .i64 t207] 31 (0, 0)) (by (with_reducible repeat (first | refine blk_drewN ?_ _ | refine blk_drew ?_ | refine blk_alloc ?_ _)); exact BK209.out)) : gb226 ≠ gb209)); clear HO_13; clear BK209; clear HB; have HO_13 := n0_; have BK209 := n1_; have HB := n2_; have BK226 := n3_; have GW226 := n4_; have GE226 := n5_; have NB209_226 := n6_; have NB226_209 := n7_; clear n0_ n1_ n2_ n3_ n4_ n5_ n6_ n7_; clear hb hbox hg; have hnb68 := NB226_209.out; have hnc68 := NB209_226.out; have hcz69_0 : w67.cell? ⟨gb226, 0, none⟩ = some (.int .i64 0) := (blk_cell BK226.out 0).trans rfl; have hcz69_1 : w67.cell? ⟨gb226, 1, none⟩ = some (.int .i64 0) := (blk_cell BK226.out 1).trans rfl; have hcz69_2 : w67.cell? ⟨gb226, 2, none⟩ = some (.int .i64 0) := (blk_cell BK226.out 2).trans rfl; have hcz69_3 : w67.cell? ⟨gb226, 3, none⟩ = some (.int .i64 0) := (blk_cell BK226.out 3).trans rfl; have hfz69_0 := blk_frozen BK226.out 0; have hfz69_1 := blk_frozen BK226.out 1; have hfz69_2 := blk_frozen BK226.out 2; have hfz69_3 := blk_frozen BK226.out 3))
                  have n0_ : Aside0 (Kd.R (Kd.int .i64) 3 ((((w67.setCell ⟨gb226, 0, none⟩ (.int .i64 t221)).setCell ⟨gb226, 1, none⟩ (.int .i64 t222)).setCell ⟨gb226, 2, none⟩ (.int .i64 t223)).setCell ⟨gb226, 3, none⟩ (.int .i64 t224)) w.heap.size (fun _ => True) (.slice (some ad220) t210.length co65) t210) := ⟨by (with_reducible repeat (first | apply Kd.R_alloc | apply Kd.R_drewN | apply Kd.R_drew)); exact Kd.R_mono (Kd.R_far (p := ⟨gb226, 3, none⟩) (Kd.R_far (p := ⟨gb226, 2, none⟩) (Kd.R_far (p := ⟨gb226, 1, none⟩) (Kd.R_far (p := ⟨gb226, 0, none⟩) (Kd.R_types HO_13.out BK226.out (by decide)) (fun _ hk => hk.2) (.int .i64 t221)) (fun _ hk => hk.2) (.int .i64 t222)) (fun _ hk => hk.2) (.int .i64 t223)) (fun _ hk => hk.2) (.int .i64 t224)) (fun _ hk => trivial)⟩
                  have n1_ : Aside0 (((((w67.setCell ⟨gb226, 0, none⟩ (.int .i64 t221)).setCell ⟨gb226, 1, none⟩ (.int .i64 t222)).setCell ⟨gb226, 2, none⟩ (.int .i64 t223)).setCell ⟨gb226, 3, none⟩ (.int .i64 t224)).heap[gb209]? = some (.cells #[.int .i64 t204, .int .i64 t205, .int .i64 t206, .int .i64 t207] 31 (0, 0))) := ⟨by (with_reducible repeat (first | refine blk_drewN ?_ _ | refine blk_drew ?_ | refine blk_alloc ?_ _)); refine blk_far ?_ NB209_226.out _; (with_reducible repeat (first | refine blk_drewN ?_ _ | refine blk_drew ?_ | refine blk_alloc ?_ _)); refine blk_far ?_ NB209_226.out _; (with_reducible repeat (first | refine blk_drewN ?_ _ | refine blk_drew ?_ | refine blk_alloc ?_ _)); refine blk_far ?_ NB209_226.out _; (with_reducible repeat (first | refine blk_drewN ?_ _ | refine blk_drew ?_ | refine blk_alloc ?_ _)); refine blk_far ?_ NB209_226.out _; (with_reducible repeat (first | refine blk_drewN ?_ _ | refine blk_drew ?_ | refine blk_alloc ?_ _)); exact BK209.out⟩
                  have n2_ : Aside0 (((((w67.setCell ⟨gb226, 0, none⟩ (.int .i64 t221)).setCell ⟨gb226, 1, none⟩ (.int .i64 t222)).setCell ⟨gb226, 2, none⟩ (.int .i64 t223)).setCell ⟨gb226, 3, none⟩ (.int .i64 t224)).heap[gb226]? = some (.cells #[.int .i64 t221, .int .i64 t222, .int .i64 t223, .int .i64 t224] 31 (0, 0))) := ⟨by (with_reducible repeat (first | refine blk_drewN ?_ _ | refine blk_drew ?_ | refine blk_alloc ?_ _)); refine blk_put (cs := #[.int .i64 t221, .int .i64 t222, .int .i64 t223, .int .i64 0]) ?_ 3 _ rfl; (with_reducible repeat (first | refine blk_drewN ?_ _ | refine blk_drew ?_ | refine blk_alloc ?_ _)); refine blk_put (cs := #[.int .i64 t221, .int .i64 t222, .int .i64 0, .int .i64 0]) ?_ 2 _ rfl; (with_reducible repeat (first | refine blk_drewN ?_ _ | refine blk_drew ?_ | refine blk_alloc ?_ _)); refine blk_put (cs := #[.int .i64 t221, .int .i64 0, .int .i64 0, .int .i64 0]) ?_ 1 _ rfl; (with_reducible repeat (first | refine blk_drewN ?_ _ | refine blk_drew ?_ | refine blk_alloc ?_ _)); refine blk_put (cs := #[.int .i64 0, .int .i64 0, .int .i64 0, .int .i64 0]) ?_ 0 _ rfl; (with_reducible repeat (first | refine blk_drewN ?_ _ | refine blk_drew ?_ | refine blk_alloc ?_ _)); exact BK226.out⟩
                  have n3_ : Aside0 (Below w.heap.size w ((((w67.setCell ⟨gb226, 0, none⟩ (.int .i64 t221)).setCell ⟨gb226, 1, none⟩ (.int .i64 t222)).setCell ⟨gb226, 2, none⟩ (.int .i64 t223)).setCell ⟨gb226, 3, none⟩ (.int .i64 t224))) := ⟨by repeat (first | (with_reducible first | exact HB.out | apply below_alloc | apply pw_below_drewN | apply below_drew1 | refine below_set ?_ GE209.out | refine below_set ?_ GE226.out) | exact HB.out)⟩
                  (try clear HO_13)
                  (try clear BK209)
                  (try clear BK226)
                  (try clear HB)
                  generalize ((((w67.setCell ⟨gb226, 0, none⟩ (.int .i64 t221)).setCell ⟨gb226, 1, none⟩ (.int .i64 t222)).setCell ⟨gb226, 2, none⟩ (.int .i64 t223)).setCell ⟨gb226, 3, none⟩ (.int .i64 t224)) = w70 at n0_ n1_ n2_ n3_ ⊢
                  have HO_13 := n0_
                  have BK209 := n1_
                  have BK226 := n2_
                  have HB := n3_
                  clear n0_ n1_ n2_ n3_
                  have n0_ := Aside0.mk (Kd.R_drew HO_13.out)
                  have n1_ := Aside0.mk (blk_drew BK209.out)
                  have n2_ := Aside0.mk (blk_drew BK226.out)
                  have n3_ := Aside0.mk (below_drew1 HB.out)
                  clear HO_13
                  clear BK209
                  clear BK226
                  clear HB
                  have HO_13 := n0_
                  have BK209 := n1_
                  have BK226 := n2_
                  have HB := n3_
                  clear n0_ n1_ n2_ n3_
                  refine start_ (n := 24) (S := fun w' => w'.cell? ⟨gb226, 0, none⟩ = some (.int .i64 t221) ∧ w'.cell? ⟨gb226, 1, none⟩ = some (.int .i64 t222) ∧ w'.cell? ⟨gb226, 2, none⟩ = some (.int .i64 t223) ∧ w'.cell? ⟨gb226, 3, none⟩ = some (.int .i64 t224) ∧ w'.cell? ⟨gb209, 0, none⟩ = some (.int .i64 t204) ∧ w'.cell? ⟨gb209, 1, none⟩ = some (.int .i64 t205) ∧ w'.cell? ⟨gb209, 2, none⟩ = some (.int .i64 t206) ∧ w'.cell? ⟨gb209, 3, none⟩ = some (.int .i64 t207)) (ds := []) #[false, false, false, false, false, false, false, false, false, false, false, false, false, false, false, false, false, false, false, false, false, false, false, false] (by kernel_rfl) rfl rfl ⟨(blk_cell BK226.out 0).trans rfl, (blk_cell BK226.out 1).trans rfl, (blk_cell BK226.out 2).trans rfl, (blk_cell BK226.out 3).trans rfl, (blk_cell BK209.out 0).trans rfl, (blk_cell BK209.out 1).trans rfl, (blk_cell BK209.out 2).trans rfl, (blk_cell BK209.out 3).trans rfl⟩ (fun hHeld => ?_); refine with_tabW tilefarmlaw5_GridTouches.tab12 tilefarmlaw5_GridTouches.bits12 (fun HT_ HW_ => ?_)
                  generalize w70.drew = w71 at HO_13 BK209 BK226 HB hHeld ⊢
                  refine pure_ (i := 0) (N := some 78) (v := ?_) (a' := ?_) #[true, false, false, false, false, false, false, false, false, false, false, false, false, false, false, false, false, false, false, false, false, false, false, false] rfl rfl (any_of HT_.out (by kernel_rfl)) (fun _ _ _ h => h) (Or.inl ⟨by rfl, ?_⟩) ?_ ?_
                  rotate_left
                  · intro w'
                    go_simp
                    with_reducible rfl
                  rotate_left
                  · simp only [Act.put, List.setIfInBounds_toArray, List.set_cons_zero, List.set_cons_succ, i64_w, i32_w]
                    rfl
                  refine pure_ (i := 1) (N := some 79) (v := ?_) (a' := ?_) #[true, true, false, false, false, false, false, false, false, false, false, false, false, false, false, false, false, false, false, false, false, false, false, false] rfl rfl (any_of HT_.out (by kernel_rfl)) (fun _ _ _ h => h) (Or.inl ⟨by rfl, ?_⟩) ?_ ?_
                  rotate_left
                  · intro w'
                    go_simp
                    with_reducible rfl
                  rotate_left
                  · simp only [Act.put, List.setIfInBounds_toArray, List.set_cons_zero, List.set_cons_succ, i64_w, i32_w]
                    rfl
                  refine pure_ (i := 2) (N := some 80) (v := ?_) (a' := ?_) #[true, true, true, false, false, false, false, false, false, false, false, false, false, false, false, false, false, false, false, false, false, false, false, false] rfl rfl (any_of HT_.out (by kernel_rfl)) (fun _ _ _ h => h) (Or.inl ⟨by rfl, ?_⟩) ?_ ?_
                  rotate_left
                  · intro w'
                    go_simp
                    with_reducible rfl
                  rotate_left
                  · simp only [Act.put, List.setIfInBounds_toArray, List.set_cons_zero, List.set_cons_succ, i64_w, i32_w]
                    rfl
                  refine take_ (i := 3) (N := some 81) (v := ?_) (a' := ?_) #[true, true, true, true, false, false, false, false, false, false, false, false, false, false, false, false, false, false, false, false, false, false, false, false] rfl rfl (take_ofW HT_.out HW_.out (by kernel_rfl)) (fun _ _ _ h => h) (Or.inl ⟨by rfl, ?_⟩) hHeld ?_ ?_
                  rotate_left
                  · rintro w' ⟨s0, s1, s2, s3, s4, s5, s6, s7⟩
                    go_simp
                    with_reducible rfl
                  rotate_left
                  · simp only [Act.put, List.setIfInBounds_toArray, List.set_cons_zero, List.set_cons_succ, i64_w, i32_w]
                    rfl
                  refine take_ (i := 4) (N := some 82) (v := ?_) (a' := ?_) #[true, true, true, true, true, false, false, false, false, false, false, false, false, false, false, false, false, false, false, false, false, false, false, false] rfl rfl (take_ofW HT_.out HW_.out (by kernel_rfl)) (fun _ _ _ h => h) (Or.inl ⟨by rfl, ?_⟩) hHeld ?_ ?_
                  rotate_left
                  · rintro w' ⟨s0, s1, s2, s3, s4, s5, s6, s7⟩
                    go_simp
                    with_reducible rfl
                  rotate_left
                  · simp only [Act.put, List.setIfInBounds_toArray, List.set_cons_zero, List.set_cons_succ, i64_w, i32_w]
                    rfl
                  refine one_ (i := 5) (N := some 83) #[true, true, true, true, true, true, false, false, false, false, false, false, false, false, false, false, false, false, false, false, false, false, false, false] rfl rfl (one_of HT_.out (by kernel_rfl)) (by decide) (fun K hK => ?_)
                  refine goes_ Try.func21 (by kernel_rfl) rfl #[.agg #[.int .i64 t221, .int .i64 t222, .int .i64 t223, .int .i64 t224], .agg #[.int .i64 t204, .int .i64 t205, .int .i64 t206, .int .i64 t207]] (by rfl) rfl rfl (by (try simp only [List.map_toArray, List.map_cons, List.map_nil]); first | done | rfl | (simp only [List.length_drop, List.length_take]; rfl)) ?_
                  with_reducible refine (tilefarmref2_Intersect.calls t221 t222 t223 t224 t204 t205 t206 t207 t227 t228 t229 t230 _ A28.out).mono ?_
                  rintro e w72 ⟨rfl, hb⟩
                  refine ⟨_, rfl, ?_⟩
                  have n0_ := Aside0.mk (Kd.R_below (by (with_reducible repeat (first | apply Kd.R_alloc | apply Kd.R_drewN | apply Kd.R_drew)); exact HO_13.out) hb)
                  have n1_ := Aside0.mk (blk_below (g := gb209) (o := .cells #[.int .i64 t204, .int .i64 t205, .int .i64 t206, .int .i64 t207] 31 (0, 0)) (by (with_reducible repeat (first | refine blk_drewN ?_ _ | refine blk_drew ?_ | refine blk_alloc ?_ _)); exact BK209.out) hb)
                  have n2_ := Aside0.mk (blk_below (g := gb226) (o := .cells #[.int .i64 t221, .int .i64 t222, .int .i64 t223, .int .i64 t224] 31 (0, 0)) (by (with_reducible repeat (first | refine blk_drewN ?_ _ | refine blk_drew ?_ | refine blk_alloc ?_ _)); exact BK226.out) hb)
                  have n3_ := Aside0.mk (below_step (by repeat (first | (with_reducible first | exact HB.out | apply below_alloc | apply pw_below_drewN | apply below_drew1 | refine below_set ?_ GE209.out | refine below_set ?_ GE226.out) | exact HB.out)) hb)
                  clear HO_13
                  clear BK209
                  clear BK226
                  clear HB
                  have HO_13 := n0_
                  have BK209 := n1_
                  have BK226 := n2_
                  have HB := n3_
                  clear n0_ n1_ n2_ n3_
                  (try clear hb)
                  (try clear hb2)
                  (try clear hk)
                  (try clear hi)
                  refine hK.out _ _ ⟨(blk_cell BK226.out 0).trans rfl, (blk_cell BK226.out 1).trans rfl, (blk_cell BK226.out 2).trans rfl, (blk_cell BK226.out 3).trans rfl, (blk_cell BK209.out 0).trans rfl, (blk_cell BK209.out 1).trans rfl, (blk_cell BK209.out 2).trans rfl, (blk_cell BK209.out 3).trans rfl⟩ (fun hHeld => ?_)
                  clear hK K
                  refine norm_ (a' := ?_) ?_ ?_
                  rotate_left
                  · show Act.put _ (some 83) _ = _
                    simp only [Act.put, List.setIfInBounds_toArray, List.set_cons_zero, List.set_cons_succ, i64_w, i32_w]
                    rfl
                  refine one_ (i := 6) (N := some 84) #[true, true, true, true, true, true, true, false, false, false, false, false, false, false, false, false, false, false, false, false, false, false, false, false] rfl rfl (one_of HT_.out (by kernel_rfl)) (by decide) (fun K hK => ?_)
                  refine goes_ Try.func20 (by kernel_rfl) rfl #[.agg #[.int .i64 t227, .int .i64 t228, .int .i64 t229, .int .i64 t230]] (by rfl) rfl rfl (by (try simp only [List.map_toArray, List.map_cons, List.map_nil]); first | done | rfl | (simp only [List.length_drop, List.length_take]; rfl)) ?_
                  with_reducible refine (tilefarmref2_Empty.calls t227 t228 t229 t230 false _ A29.out).mono ?_
                  rintro e w73 ⟨rfl, hb⟩
                  refine ⟨_, rfl, ?_⟩
                  have n0_ := Aside0.mk (Kd.R_below (by (with_reducible repeat (first | apply Kd.R_alloc | apply Kd.R_drewN | apply Kd.R_drew)); exact HO_13.out) hb)
                  have n1_ := Aside0.mk (blk_below (g := gb209) (o := .cells #[.int .i64 t204, .int .i64 t205, .int .i64 t206, .int .i64 t207] 31 (0, 0)) (by (with_reducible repeat (first | refine blk_drewN ?_ _ | refine blk_drew ?_ | refine blk_alloc ?_ _)); exact BK209.out) hb)
                  have n2_ := Aside0.mk (blk_below (g := gb226) (o := .cells #[.int .i64 t221, .int .i64 t222, .int .i64 t223, .int .i64 t224] 31 (0, 0)) (by (with_reducible repeat (first | refine blk_drewN ?_ _ | refine blk_drew ?_ | refine blk_alloc ?_ _)); exact BK226.out) hb)
                  have n3_ := Aside0.mk (below_step (by repeat (first | (with_reducible first | exact HB.out | apply below_alloc | apply pw_below_drewN | apply below_drew1 | refine below_set ?_ GE209.out | refine below_set ?_ GE226.out) | exact HB.out)) hb)
                  clear HO_13
                  clear BK209
                  clear BK226
                  clear HB
                  have HO_13 := n0_
                  have BK209 := n1_
                  have BK226 := n2_
                  have HB := n3_
                  clear n0_ n1_ n2_ n3_
                  (try clear hb)
                  (try clear hb2)
                  (try clear hk)
                  (try clear hi)
                  refine hK.out _ _ ⟨(blk_cell BK226.out 0).trans rfl, (blk_cell BK226.out 1).trans rfl, (blk_cell BK226.out 2).trans rfl, (blk_cell BK226.out 3).trans rfl, (blk_cell BK209.out 0).trans rfl, (blk_cell BK209.out 1).trans rfl, (blk_cell BK209.out 2).trans rfl, (blk_cell BK209.out 3).trans rfl⟩ (fun hHeld => ?_)
                  clear hK K
                  refine norm_ (a' := ?_) ?_ ?_
                  rotate_left
                  · show Act.put _ (some 84) _ = _
                    simp only [Act.put, List.setIfInBounds_toArray, List.set_cons_zero, List.set_cons_succ, i64_w, i32_w]
                    rfl
                  refine pure_ (i := 7) (N := some 85) (v := ?_) (a' := ?_) #[true, true, true, true, true, true, true, true, false, false, false, false, false, false, false, false, false, false, false, false, false, false, false, false] rfl rfl (any_of HT_.out (by kernel_rfl)) (fun _ _ _ h => h) (Or.inl ⟨by rfl, ?_⟩) ?_ ?_
                  rotate_left
                  · intro w'
                    go_simp
                    with_reducible rfl
                  rotate_left
                  · simp only [Act.put, List.setIfInBounds_toArray, List.set_cons_zero, List.set_cons_succ, i64_w, i32_w]
                    rfl
                  refine pure_ (i := 8) (N := some 86) (v := ?_) (a' := ?_) #[true, true, true, true, true, true, true, true, true, false, false, false, false, false, false, false, false, false, false, false, false, false, false, false] rfl rfl (any_of HT_.out (by kernel_rfl)) (fun _ _ _ h => h) (Or.inl ⟨by rfl, ?_⟩) ?_ ?_
                  rotate_left
                  · intro w'
                    go_simp
                    with_reducible rfl
                  rotate_left
                  · simp only [Act.put, List.setIfInBounds_toArray, List.set_cons_zero, List.set_cons_succ, i64_w, i32_w]
                    rfl
                  refine pure_ (i := 9) (N := some 87) (v := ?_) (a' := ?_) #[true, true, true, true, true, true, true, true, true, true, false, false, false, false, false, false, false, false, false, false, false, false, false, false] rfl rfl (any_of HT_.out (by kernel_rfl)) (fun _ _ _ h => h) (Or.inl ⟨by rfl, ?_⟩) ?_ ?_
                  rotate_left
                  · intro w'
                    go_simp
                    with_reducible rfl
                  rotate_left
                  · simp only [Act.put, List.setIfInBounds_toArray, List.set_cons_zero, List.set_cons_succ, i64_w, i32_w]
                    rfl
                  refine pure_ (i := 10) (N := some 88) (v := ?_) (a' := ?_) #[true, true, true, true, true, true, true, true, true, true, true, false, false, false, false, false, false, false, false, false, false, false, false, false] rfl rfl (any_of HT_.out (by kernel_rfl)) (fun _ _ _ h => h) (Or.inl ⟨by rfl, ?_⟩) ?_ ?_
                  rotate_left
                  · intro w'
                    go_simp
                    with_reducible rfl
                  rotate_left
                  · simp only [Act.put, List.setIfInBounds_toArray, List.set_cons_zero, List.set_cons_succ, i64_w, i32_w]
                    rfl
                  refine pure_ (i := 11) (N := some 89) (v := ?_) (a' := ?_) #[true, true, true, true, true, true, true, true, true, true, true, true, false, false, false, false, false, false, false, false, false, false, false, false] rfl rfl (any_of HT_.out (by kernel_rfl)) (fun _ _ _ h => h) (Or.inl ⟨by rfl, ?_⟩) ?_ ?_
                  rotate_left
                  · intro w'
                    go_simp
                    with_reducible rfl
                  rotate_left
                  · simp only [Act.put, List.setIfInBounds_toArray, List.set_cons_zero, List.set_cons_succ, i64_w, i32_w]
                    rfl
                  refine pure_ (i := 12) (N := some 90) (v := undef) (a' := ?_) #[true, true, true, true, true, true, true, true, true, true, true, true, true, false, false, false, false, false, false, false, false, false, false, false] rfl rfl (any_of HT_.out (by kernel_rfl)) (fun _ _ _ h => h) (Or.inr ⟨by rfl, rfl⟩) ?_ ?_
                  rotate_left
                  · simp only [Act.put, List.setIfInBounds_toArray, List.set_cons_zero, List.set_cons_succ, i64_w, i32_w]
                    rfl
                  refine pure_ (i := 13) (N := some 91) (v := undef) (a' := ?_) #[true, true, true, true, true, true, true, true, true, true, true, true, true, true, false, false, false, false, false, false, false, false, false, false] rfl rfl (any_of HT_.out (by kernel_rfl)) (fun _ _ _ h => h) (Or.inr ⟨by rfl, rfl⟩) ?_ ?_
                  rotate_left
                  · simp only [Act.put, List.setIfInBounds_toArray, List.set_cons_zero, List.set_cons_succ, i64_w, i32_w]
                    rfl
                  refine pure_ (i := 14) (N := some 92) (v := undef) (a' := ?_) #[true, true, true, true, true, true, true, true, true, true, true, true, true, true, true, false, false, false, false, false, false, false, false, false] rfl rfl (any_of HT_.out (by kernel_rfl)) (fun _ _ _ h => h) (Or.inr ⟨by rfl, rfl⟩) ?_ ?_
                  rotate_left
                  · simp only [Act.put, List.setIfInBounds_toArray, List.set_cons_zero, List.set_cons_succ, i64_w, i32_w]
                    rfl
                  refine pure_ (i := 15) (N := some 93) (v := undef) (a' := ?_) #[true, true, true, true, true, true, true, true, true, true, true, true, true, true, true, true, false, false, false, false, false, false, false, false] rfl rfl (any_of HT_.out (by kernel_rfl)) (fun _ _ _ h => h) (Or.inr ⟨by rfl, rfl⟩) ?_ ?_
                  rotate_left
                  · simp only [Act.put, List.setIfInBounds_toArray, List.set_cons_zero, List.set_cons_succ, i64_w, i32_w]
                    rfl
                  refine pure_ (i := 16) (N := some 94) (v := undef) (a' := ?_) #[true, true, true, true, true, true, true, true, true, true, true, true, true, true, true, true, true, false, false, false, false, false, false, false] rfl rfl (any_of HT_.out (by kernel_rfl)) (fun _ _ _ h => h) (Or.inr ⟨by rfl, rfl⟩) ?_ ?_
                  rotate_left
                  · simp only [Act.put, List.setIfInBounds_toArray, List.set_cons_zero, List.set_cons_succ, i64_w, i32_w]
                    rfl
                  refine pure_ (i := 17) (N := some 95) (v := undef) (a' := ?_) #[true, true, true, true, true, true, true, true, true, true, true, true, true, true, true, true, true, true, false, false, false, false, false, false] rfl rfl (any_of HT_.out (by kernel_rfl)) (fun _ _ _ h => h) (Or.inr ⟨by rfl, rfl⟩) ?_ ?_
                  rotate_left
                  · simp only [Act.put, List.setIfInBounds_toArray, List.set_cons_zero, List.set_cons_succ, i64_w, i32_w]
                    rfl
                  refine pure_ (i := 18) (N := some 96) (v := undef) (a' := ?_) #[true, true, true, true, true, true, true, true, true, true, true, true, true, true, true, true, true, true, true, false, false, false, false, false] rfl rfl (any_of HT_.out (by kernel_rfl)) (fun _ _ _ h => h) (Or.inr ⟨by rfl, rfl⟩) ?_ ?_
                  rotate_left
                  · simp only [Act.put, List.setIfInBounds_toArray, List.set_cons_zero, List.set_cons_succ, i64_w, i32_w]
                    rfl
                  refine pure_ (i := 19) (N := some 97) (v := undef) (a' := ?_) #[true, true, true, true, true, true, true, true, true, true, true, true, true, true, true, true, true, true, true, true, false, false, false, false] rfl rfl (any_of HT_.out (by kernel_rfl)) (fun _ _ _ h => h) (Or.inr ⟨by rfl, rfl⟩) ?_ ?_
                  rotate_left
                  · simp only [Act.put, List.setIfInBounds_toArray, List.set_cons_zero, List.set_cons_succ, i64_w, i32_w]
                    rfl
                  refine pure_ (i := 20) (N := some 98) (v := undef) (a' := ?_) #[true, true, true, true, true, true, true, true, true, true, true, true, true, true, true, true, true, true, true, true, true, false, false, false] rfl rfl (any_of HT_.out (by kernel_rfl)) (fun _ _ _ h => h) (Or.inr ⟨by rfl, rfl⟩) ?_ ?_
                  rotate_left
                  · simp only [Act.put, List.setIfInBounds_toArray, List.set_cons_zero, List.set_cons_succ, i64_w, i32_w]
                    rfl
                  refine pure_ (i := 21) (N := some 99) (v := undef) (a' := ?_) #[true, true, true, true, true, true, true, true, true, true, true, true, true, true, true, true, true, true, true, true, true, true, false, false] rfl rfl (any_of HT_.out (by kernel_rfl)) (fun _ _ _ h => h) (Or.inr ⟨by rfl, rfl⟩) ?_ ?_
                  rotate_left
                  · simp only [Act.put, List.setIfInBounds_toArray, List.set_cons_zero, List.set_cons_succ, i64_w, i32_w]
                    rfl
                  refine pure_ (i := 22) (N := some 100) (v := ?_) (a' := ?_) #[true, true, true, true, true, true, true, true, true, true, true, true, true, true, true, true, true, true, true, true, true, true, true, false] rfl rfl (any_of HT_.out (by kernel_rfl)) (fun _ _ _ h => h) (Or.inl ⟨by rfl, ?_⟩) ?_ ?_
                  rotate_left
                  · intro w'
                    go_simp
                    with_reducible rfl
                  rotate_left
                  · simp only [Act.put, List.setIfInBounds_toArray, List.set_cons_zero, List.set_cons_succ, i64_w, i32_w]
                    rfl
                  refine pure_ (i := 23) (N := some 101) (v := ?_) (a' := ?_) #[true, true, true, true, true, true, true, true, true, true, true, true, true, true, true, true, true, true, true, true, true, true, true, true] rfl rfl (any_of HT_.out (by kernel_rfl)) (fun _ _ _ h => h) (Or.inl ⟨by rfl, ?_⟩) ?_ ?_
                  rotate_left
                  · intro w'
                    go_simp
                    with_reducible rfl
                  rotate_left
                  · simp only [Act.put, List.setIfInBounds_toArray, List.set_cons_zero, List.set_cons_succ, i64_w, i32_w]
                    rfl
                  refine done_ (done_of HT_.out (by kernel_rfl)) ?_
                  have p235 : 0 ≤ (x19_1 : Int) := of_decide_eq_true (by first | (with_reducible assumption) | assumption)
                  have q235 : x19_1 < (t210.length : Int) := of_decide_eq_true (by first | (with_reducible assumption) | assumption)
                  obtain ⟨ad235, e235, hx235_0⟩ := Kd.at_int (Kd.R_reads' HO_13.out).2.2 x19_1 p235 q235
                  obtain rfl : ad220 = ad235 := (by injection e235)
                  replace p235 := eq_true p235
                  replace q235 := eq_true q235
                  try go_wp2
                  go_roundg k1
                  case measure => have := HK1.out; omega
                  case rel => exact ⟨(((rd t210 x19_1) == t215)), (wrap64 (x19_1 + 1)), (by first | rfl | (simp; done) | (simp [*]; done)), (by first | rfl | (simp; done) | (simp [*]; done)), H', ⟨by have := HK1.out; omega⟩, ⟨by (with_reducible repeat (first | apply Kd.R_alloc | apply Kd.R_drewN | apply Kd.R_drew)); exact HO_13.out⟩, ⟨by (with_reducible repeat (first | refine blk_drewN ?_ _ | refine blk_drew ?_ | refine blk_alloc ?_ _)); exact BK209.out⟩, ⟨by repeat (first | (with_reducible first | exact HB.out | apply below_alloc | apply pw_below_drewN | apply below_drew1 | refine below_set ?_ GE209.out | refine below_set ?_ GE226.out) | exact HB.out)⟩⟩
          · replace c27 := Bool.eq_false_iff.mpr c27
            subst c27
            have H1 : (some false) = some r := by rw [if_neg (show ¬ (false = true) by decide)] at H; exact H
            clear H
            have H := H1
            clear H1
            exact absurd ((Option.some.inj H).trans HT.out) (by decide)
        · rw [if_neg c25] at H
          exact absurd H (by simp)
      · rw [if_neg c24] at H
        have c24b0 : decide (x19_1 < (t210.length : Int)) = false := decide_eq_false c24
        clear c24
        by_cases c74 : t216 = true
        · subst c74
          have H1 : (if x18_1 = true then ((tilefarmlaw5_sane.f k1).bind fun t217 => (some t217)) else ((tilefarmref2_Contains.f t204 t205 t206 t207 t213 t214).bind fun t218 => (if t218 = true then (some false) else ((tilefarmlaw5_sane.f k1).bind fun t219 => (some t219))))) = some r := by rw [if_pos rfl] at H; exact H
          clear H
          have H := H1
          clear H1
          by_cases c75 : x18_1 = true
          · subst c75
            have H1 : ((tilefarmlaw5_sane.f k1).bind fun t217 => (some t217)) = some r := by rw [if_pos rfl] at H; exact H
            clear H
            have H := H1
            clear H1
            replace H := Option.bind_eq_some_iff.mp H
            obtain ⟨t217, A760, H⟩ := H
            replace H : (some t217) = some r := H
            have A76 := Aside0.mk A760
            clear A760
            obtain rfl := Option.some.inj H
            obtain ⟨Ao77, co77, eo77⟩ := Kd.R_slice HO_13.out
            subst eo77
            go_wp2_with (first | (go_at_call 10; (with_reducible refine (tilefarmlaw5_sane.calls k1  t217 _ A76.out).mono ?_); rintro e w78 ⟨rfl, hb⟩; have n0_ := Aside0.mk (Kd.R_below (by (with_reducible repeat (first | apply Kd.R_alloc | apply Kd.R_drewN | apply Kd.R_drew)); exact HO_13.out) hb); have n1_ := Aside0.mk (blk_below (g := gb209) (o := .cells #[.int .i64 t204, .int .i64 t205, .int .i64 t206, .int .i64 t207] 31 (0, 0)) (by (with_reducible repeat (first | refine blk_drewN ?_ _ | refine blk_drew ?_ | refine blk_alloc ?_ _)); exact BK209.out) hb); have n2_ := Aside0.mk (below_step (by repeat (first | (with_reducible first | exact HB.out | apply below_alloc | apply pw_below_drewN | apply below_drew1 | refine below_set ?_ GE209.out) | exact HB.out)) hb); clear HO_13; clear BK209; clear HB; have HO_13 := n0_; have BK209 := n1_; have HB := n2_; clear n0_ n1_ n2_; (try clear hb); (try clear hb2); (try clear hk); (try clear hi)))
            go_ret
            exact ⟨by first | rfl | (simp [errW_none, errW_some] <;> rfl) | (simp [*, errW_none, errW_some] <;> rfl), by repeat (first | (with_reducible first | exact HB.out | apply below_alloc | apply pw_below_drewN | apply below_drew1 | refine below_set ?_ GE209.out) | exact HB.out)⟩
          · replace c75 := Bool.eq_false_iff.mpr c75
            subst c75
            have H1 : ((tilefarmref2_Contains.f t204 t205 t206 t207 t213 t214).bind fun t218 => (if t218 = true then (some false) else ((tilefarmlaw5_sane.f k1).bind fun t219 => (some t219)))) = some r := by rw [if_neg (show ¬ (false = true) by decide)] at H; exact H
            clear H
            have H := H1
            clear H1
            replace H := Option.bind_eq_some_iff.mp H
            obtain ⟨t218, A790, H⟩ := H
            replace H : (if t218 = true then (some false) else ((tilefarmlaw5_sane.f k1).bind fun t219 => (some t219))) = some r := H
            have A79 := Aside0.mk A790
            clear A790
            by_cases c80 : t218 = true
            · subst c80
              have H1 : (some false) = some r := by rw [if_pos rfl] at H; exact H
              clear H
              have H := H1
              clear H1
              exact absurd ((Option.some.inj H).trans HT.out) (by decide)
            · replace c80 := Bool.eq_false_iff.mpr c80
              subst c80
              have H1 : ((tilefarmlaw5_sane.f k1).bind fun t219 => (some t219)) = some r := by rw [if_neg (show ¬ (false = true) by decide)] at H; exact H
              clear H
              have H := H1
              clear H1
              replace H := Option.bind_eq_some_iff.mp H
              obtain ⟨t219, A810, H⟩ := H
              replace H : (some t219) = some r := H
              have A81 := Aside0.mk A810
              clear A810
              obtain rfl := Option.some.inj H
              obtain ⟨Ao82, co82, eo82⟩ := Kd.R_slice HO_13.out
              subst eo82
              have hcz83_0 : wr.cell? ⟨gb209, 0, none⟩ = some (.int .i64 t204) := (blk_cell BK209.out 0).trans rfl
              have hcz83_1 : wr.cell? ⟨gb209, 1, none⟩ = some (.int .i64 t205) := (blk_cell BK209.out 1).trans rfl
              have hcz83_2 : wr.cell? ⟨gb209, 2, none⟩ = some (.int .i64 t206) := (blk_cell BK209.out 2).trans rfl
              have hcz83_3 : wr.cell? ⟨gb209, 3, none⟩ = some (.int .i64 t207) := (blk_cell BK209.out 3).trans rfl
              have hfz83_0 := blk_frozen BK209.out 0
              have hfz83_1 := blk_frozen BK209.out 1
              have hfz83_2 := blk_frozen BK209.out 2
              have hfz83_3 := blk_frozen BK209.out 3
              go_wp2_with (first | (go_at_call 18; (with_reducible refine (tilefarmref2_Contains.calls t204 t205 t206 t207 t213 t214 false _ A79.out).mono ?_); rintro e w84 ⟨rfl, hb⟩; have n0_ := Aside0.mk (Kd.R_below (by (with_reducible repeat (first | apply Kd.R_alloc | apply Kd.R_drewN | apply Kd.R_drew)); exact HO_13.out) hb); have n1_ := Aside0.mk (blk_below (g := gb209) (o := .cells #[.int .i64 t204, .int .i64 t205, .int .i64 t206, .int .i64 t207] 31 (0, 0)) (by (with_reducible repeat (first | refine blk_drewN ?_ _ | refine blk_drew ?_ | refine blk_alloc ?_ _)); exact BK209.out) hb); have n2_ := Aside0.mk (below_step (by repeat (first | (with_reducible first | exact HB.out | apply below_alloc | apply pw_below_drewN | apply below_drew1 | refine below_set ?_ GE209.out) | exact HB.out)) hb); clear HO_13; clear BK209; clear HB; have HO_13 := n0_; have BK209 := n1_; have HB := n2_; clear n0_ n1_ n2_; (try clear hb); (try clear hb2); (try clear hk); (try clear hi)) | (go_at_call 10; (with_reducible refine (tilefarmlaw5_sane.calls k1  t219 _ A81.out).mono ?_); rintro e w85 ⟨rfl, hb⟩; have n0_ := Aside0.mk (Kd.R_below (by (with_reducible repeat (first | apply Kd.R_alloc | apply Kd.R_drewN | apply Kd.R_drew)); exact HO_13.out) hb); have n1_ := Aside0.mk (blk_below (g := gb209) (o := .cells #[.int .i64 t204, .int .i64 t205, .int .i64 t206, .int .i64 t207] 31 (0, 0)) (by (with_reducible repeat (first | refine blk_drewN ?_ _ | refine blk_drew ?_ | refine blk_alloc ?_ _)); exact BK209.out) hb); have n2_ := Aside0.mk (below_step (by repeat (first | (with_reducible first | exact HB.out | apply below_alloc | apply pw_below_drewN | apply below_drew1 | refine below_set ?_ GE209.out) | exact HB.out)) hb); clear HO_13; clear BK209; clear HB; have HO_13 := n0_; have BK209 := n1_; have HB := n2_; clear n0_ n1_ n2_; (try clear hb); (try clear hb2); (try clear hk); (try clear hi)))
              go_ret
              exact ⟨by first | rfl | (simp [errW_none, errW_some] <;> rfl) | (simp [*, errW_none, errW_some] <;> rfl), by repeat (first | (with_reducible first | exact HB.out | apply below_alloc | apply pw_below_drewN | apply below_drew1 | refine below_set ?_ GE209.out) | exact HB.out)⟩
        · replace c74 := Bool.eq_false_iff.mpr c74
          subst c74
          have H1 : (some false) = some r := by rw [if_neg (show ¬ (false = true) by decide)] at H; exact H
          clear H
          have H := H1
          clear H1
          exact absurd ((Option.some.inj H).trans HT.out) (by decide)

/-- THE ONE PURE STATEMENT of tilefarmlaw5_GridTouches: yours. -/
def tilefarmlaw5_GridTouches.Pure : Prop := ∀ (l0 : List Int) (a1 : Int) (a2 : Int), l0.length ≤ maxLen → l0.length * 8 ≤ 140737488351232 → (∀ x ∈ l0, (Lit.int .i64 x).wf = true) → (Lit.int .i64 a1).wf = true → (Lit.int .i64 a2).wf = true → ∃ k, tilefarmlaw5_GridTouches.f k l0 a1 a2 = some true
theorem tilefarmlaw5_GridTouches.walk (P : tilefarmlaw5_GridTouches.Pure) (a0 : Option Addr) (len0 cap0 : Nat) (z0 : List Int) (a1 : Int) (a2 : Int) (w : World) (w0 : (a0 = none ∧ len0 = 0 ∧ cap0 = 0 ∧ z0 = []) ∨ ∃ x, a0 = some x ∧ len0 ≤ cap0 ∧ cap0 ≤ maxLen ∧ z0.length = cap0 ∧ (∀ i, i < z0.length → w.cell? (x.add i) = some (.int .i64 (z0.getD i 0))) ∧ ∀ n ∈ z0, (Lit.int .i64 n).wf = true) (y0 : len0 * 8 ≤ 140737488351232) (w1 : (Lit.int .i64 a1).wf = true) (w2 : (Lit.int .i64 a2).wf = true) :
    Calls Try.prog 6 #[.slice a0 len0 cap0, .int .i64 a1, .int .i64 a2] w fun e w' => e = .returned (.bool true) ∧ Below w.heap.size w w' := by
  obtain ⟨l0, rfl, hr0, hm0, hw0, hc0⟩ := ReadsInt.ofRowC w0
  obtain ⟨k, h⟩ := P l0 a1 a2 hm0 y0 hw0 w1 w2
  refine (tilefarmlaw5_GridTouches.calls k _ _ l0 a1 a2 true w (Kd.C_of_reads (d := (0 : Int)) (h1 := fun _ => rfl) hr0) hc0 h).mono ?_
  rintro e w' ⟨rfl, hd⟩
  exact ⟨rfl, hd⟩

end Go.Proofs.Ytikpmojofdndnaa.PGridTouches
