-- Written by a program of the session (wip/tools/pack.py): the printed texts, pruned; checked by Lean.
import Derived.Test.YtgkccacenlcebaaKPlaneBlitsa
import Derived.Test.YtgkccacenlcebaaKPlaneBlitsx0
import Derived.Test.YtgkccacenlcebaaKPlaneBlitsx2
import Derived.Test.YtgkccacenlcebaaKPlaneBlitsx3
import Derived.Test.YtgkccacenlcebaaKPlaneBlitsx4
import Derived.Test.YtgkccacenlcebaaKPlaneBlitsx7
import Derived.Test.YtgkccacenlcebaaKPlaneBlitsx9
import Derived.Test.YtgkccacenlcebaaKPlaneBlitsx10
import Derived.Test.YtgkccacenlcebaaKPlaneBlitsx11
import Derived.Test.YtgkccacenlcebaaKPlaneBlitsx12
namespace Go.Proofs.Ytgkccacenlcebaa.PPlaneBlits
open Go.RowKit Go.Proofs.YtgkccacenlcebaaW.PrintWords Go.Proofs.YtgkccacenlcebaaW.PrintLast Go.Proofs.YtgkccacenlcebaaW.PrintMore
attribute [local go_sem] max2_int min2_int max_two min_two max_three min_three max_four min_four   -- for this text's walks alone
set_option linter.unusedVariables false
set_option linter.unusedSimpArgs false
mutual
def tilefarmlaw4_PlaneBlits.j0 : Nat → Int → Bool → List Int → Int → Int → Int → Int → List Int → Int → Int → Int → Int → Int → Int → Int → List Int → Option (Bool)
 | 0, _, _, _, _, _, _, _, _, _, _, _, _, _, _, _, _ => none
 | k + 1, x1, x62, x301000, x301001, x313000, x313001, x313002, x313003, x319000, x319001, x319002, x319003, x327000, x327001, x327002, x327003 => if x62 = true then (some false) else (tilefarmlaw4_PlaneBlits.l0 k x1 0 x301000 x301001 x313000 x313001 x313002 x313003 x319000 x319001 x319002 x319003 x327000 x327001 x327002 x327003)
def tilefarmlaw4_PlaneBlits.l0 : Nat → Int → Int → List Int → Int → Int → Int → Int → List Int → Int → Int → Int → Int → Int → Int → Int → List Int → Option (Bool)
 | 0, _, _, _, _, _, _, _, _, _, _, _, _, _, _, _, _ => none
 | k + 1, x1, x12, x301000, x301001, x313000, x313001, x313002, x313003, x319000, x319001, x319002, x319003, x327000, x327001, x327002, x327003 => if x12 < (x327003.length : Int) then ((tilefarmgen_Tape_Next.f x301000 x301001 (wrap64 (x313002 + 1))).bind fun bt336 => (if 0 ≤ x12 then (tilefarmlaw4_PlaneBlits.l0 k x1 (wrap64 (x12 + 1)) x301000 bt336.2 x313000 x313001 x313002 x313003 x319000 x319001 x319002 x319003 x327000 x327001 x327002 (x327003.set (x12 : Int).toNat bt336.1)) else (none))) else ((plane_Blit.f k x313000 x313001 x313002 x313003 x327000 x327001 x327002 x327003 x319000 x319001).bind fun bt339 => ((plane_Crop.f k bt339.1 bt339.2.1 bt339.2.2.1 bt339.2.2.2.1 x319000 x319001 x319002 x319003).bind fun bt347 => ((tilefarmgen_Mod.f x1 (x313003.length : Int)).bind fun t355 => (if x313000 = 0 then (none) else ((tilefarmref2_Contains.f x319000 x319001 x319002 x319003 (Int.tmod t355 x313000) (wrap64 (Int.tdiv t355 x313000))).bind fun t356 => (if bt339.2.2.2.2 = true then (if bt347.2.2.2.2 = true then ((plane_Equal.f k bt347.1 bt347.2.1 bt347.2.2.1 bt347.2.2.2.1 x327000 x327001 x327002 x327003).bind fun t357 => (if t357 = true then (if (bt339.2.2.2.1.length : Int) = (x313003.length : Int) then (if t356 = true then ((tilefarmlaw4_sane.f k).bind fun t358 => (some t358)) else (if 0 ≤ t355 then (if t355 < (bt339.2.2.2.1.length : Int) then (if t355 < (x313003.length : Int) then (if (rd bt339.2.2.2.1 t355) = (rd x313003 t355) then ((tilefarmlaw4_sane.f k).bind fun t361 => (some t361)) else (some false)) else (none)) else (none)) else (none))) else (some false)) else (some false))) else (some false)) else (some false)))))))
end
def tilefarmlaw4_PlaneBlits.f (k : Nat) (l0 : List Int) (a1 : Int) : Option (Bool) := (tilefarmgen_New.f l0).bind fun bt298 => ((tilefarmgen_Tape_Next.f bt298.1 bt298.2 5).bind fun bt301 => ((tilefarmgen_Tape_Next.f bt298.1 bt301.2 4).bind fun bt303 => ((tilefarmgen_Tape_Sized.f k bt298.1 bt303.2 (wrap64 (2 + bt301.1)) (wrap64 (2 + bt303.1))).bind fun bt305 => ((tilefarmgen_Tape_Within.f bt298.1 bt305.2.2.2.2 bt305.1 bt305.2.1).bind fun bt313 => ((plane_Crop.f k bt305.1 bt305.2.1 bt305.2.2.1 bt305.2.2.2.1 bt313.1 bt313.2.1 bt313.2.2.1 bt313.2.2.2.1).bind fun bt319 => ((plane_Blit.f k bt305.1 bt305.2.1 bt305.2.2.1 bt305.2.2.2.1 bt319.1 bt319.2.1 bt319.2.2.1 bt319.2.2.2.1 bt313.1 bt313.2.1).bind fun bt327 => (if bt319.2.2.2.2 = true then (if bt327.2.2.2.2 = true then ((plane_Equal.f k bt327.1 bt327.2.1 bt327.2.2.1 bt327.2.2.2.1 bt305.1 bt305.2.1 bt305.2.2.1 bt305.2.2.2.1).bind fun t335 => (tilefarmlaw4_PlaneBlits.j0 k a1 (!t335) bt298.1 bt313.2.2.2.2 bt305.1 bt305.2.1 bt305.2.2.1 bt305.2.2.2.1 bt313.1 bt313.2.1 bt313.2.2.1 bt313.2.2.2.1 bt319.1 bt319.2.1 bt319.2.2.1 bt319.2.2.2.1)) else (tilefarmlaw4_PlaneBlits.j0 k a1 true bt298.1 bt313.2.2.2.2 bt305.1 bt305.2.1 bt305.2.2.1 bt305.2.2.2.1 bt313.1 bt313.2.1 bt313.2.2.1 bt313.2.2.2.1 bt319.1 bt319.2.1 bt319.2.2.1 bt319.2.2.2.1)) else (tilefarmlaw4_PlaneBlits.j0 k a1 true bt298.1 bt313.2.2.2.2 bt305.1 bt305.2.1 bt305.2.2.1 bt305.2.2.2.1 bt313.1 bt313.2.1 bt313.2.2.1 bt313.2.2.2.1 bt319.1 bt319.2.1 bt319.2.2.1 bt319.2.2.2.1))))))))
theorem tilefarmlaw4_PlaneBlits.mono_l : ∀ k, (∀ y0 y1 y2 y3 y4 y5 y6 y7 y8 y9 y10 y11 y12 y13 y14 y15, LeO (tilefarmlaw4_PlaneBlits.j0 k y0 y1 y2 y3 y4 y5 y6 y7 y8 y9 y10 y11 y12 y13 y14 y15) (tilefarmlaw4_PlaneBlits.j0 (k + 1) y0 y1 y2 y3 y4 y5 y6 y7 y8 y9 y10 y11 y12 y13 y14 y15)) ∧ (∀ y0 y1 y2 y3 y4 y5 y6 y7 y8 y9 y10 y11 y12 y13 y14 y15, LeO (tilefarmlaw4_PlaneBlits.l0 k y0 y1 y2 y3 y4 y5 y6 y7 y8 y9 y10 y11 y12 y13 y14 y15) (tilefarmlaw4_PlaneBlits.l0 (k + 1) y0 y1 y2 y3 y4 y5 y6 y7 y8 y9 y10 y11 y12 y13 y14 y15))
 | 0 => ⟨fun _ _ _ _ _ _ _ _ _ _ _ _ _ _ _ _ r h => by simp [tilefarmlaw4_PlaneBlits.j0] at h, fun _ _ _ _ _ _ _ _ _ _ _ _ _ _ _ _ r h => by simp [tilefarmlaw4_PlaneBlits.l0] at h⟩
 | k + 1 => by
  obtain ⟨ih0, ih1⟩ := tilefarmlaw4_PlaneBlits.mono_l k
  refine ⟨?_, ?_⟩
  ·intro y0 y1 y2 y3 y4 y5 y6 y7 y8 y9 y10 y11 y12 y13 y14 y15
   unfold tilefarmlaw4_PlaneBlits.j0
   repeat' first
   | (with_reducible exact ih0 _ _ _ _ _ _ _ _ _ _ _ _ _ _ _ _)
   | (with_reducible exact ih1 _ _ _ _ _ _ _ _ _ _ _ _ _ _ _ _)
   | (with_reducible exact plane_Blit.mono _ _ _ _ _ _ _ _ _ _ _)
   | (with_reducible exact plane_Crop.mono _ _ _ _ _ _ _ _ _)
   | (with_reducible exact plane_Equal.mono _ _ _ _ _ _ _ _ _)
   | (with_reducible exact tilefarmgen_Tape_Sized.mono _ _ _ _ _)
   | (with_reducible exact tilefarmlaw4_sane.mono _)
   | (with_reducible exact LeO.refl _)
   | (with_reducible exact LeO.none _)
   | (with_reducible refine LeO.ite ?_ ?_)
   | (with_reducible refine LeO.bind ?_ (fun _ => ?_))
   | exact ih0 _ _ _ _ _ _ _ _ _ _ _ _ _ _ _ _
   | exact ih1 _ _ _ _ _ _ _ _ _ _ _ _ _ _ _ _
   | exact plane_Blit.mono _ _ _ _ _ _ _ _ _ _ _
   | exact plane_Crop.mono _ _ _ _ _ _ _ _ _
   | exact plane_Equal.mono _ _ _ _ _ _ _ _ _
   | exact tilefarmgen_Tape_Sized.mono _ _ _ _ _
   | exact tilefarmlaw4_sane.mono _
   | exact LeO.none _
   | refine LeO.ite ?_ ?_
   | refine LeO.bind ?_ (fun _ => ?_)
  ·intro y0 y1 y2 y3 y4 y5 y6 y7 y8 y9 y10 y11 y12 y13 y14 y15
   unfold tilefarmlaw4_PlaneBlits.l0
   repeat' first
   | (with_reducible exact ih0 _ _ _ _ _ _ _ _ _ _ _ _ _ _ _ _)
   | (with_reducible exact ih1 _ _ _ _ _ _ _ _ _ _ _ _ _ _ _ _)
   | (with_reducible exact plane_Blit.mono _ _ _ _ _ _ _ _ _ _ _)
   | (with_reducible exact plane_Crop.mono _ _ _ _ _ _ _ _ _)
   | (with_reducible exact plane_Equal.mono _ _ _ _ _ _ _ _ _)
   | (with_reducible exact tilefarmgen_Tape_Sized.mono _ _ _ _ _)
   | (with_reducible exact tilefarmlaw4_sane.mono _)
   | (with_reducible exact LeO.refl _)
   | (with_reducible exact LeO.none _)
   | (with_reducible refine LeO.ite ?_ ?_)
   | (with_reducible refine LeO.bind ?_ (fun _ => ?_))
   | exact ih0 _ _ _ _ _ _ _ _ _ _ _ _ _ _ _ _
   | exact ih1 _ _ _ _ _ _ _ _ _ _ _ _ _ _ _ _
   | exact plane_Blit.mono _ _ _ _ _ _ _ _ _ _ _
   | exact plane_Crop.mono _ _ _ _ _ _ _ _ _
   | exact plane_Equal.mono _ _ _ _ _ _ _ _ _
   | exact tilefarmgen_Tape_Sized.mono _ _ _ _ _
   | exact tilefarmlaw4_sane.mono _
   | exact LeO.none _
   | refine LeO.ite ?_ ?_
   | refine LeO.bind ?_ (fun _ => ?_)
theorem tilefarmlaw4_PlaneBlits.mono : ∀ a0 a1 k, LeO (tilefarmlaw4_PlaneBlits.f k a0 a1) (tilefarmlaw4_PlaneBlits.f (k + 1) a0 a1) := by
 intro a0 a1 k
 obtain ⟨ih0, ih1⟩ := tilefarmlaw4_PlaneBlits.mono_l k
 unfold tilefarmlaw4_PlaneBlits.f
 repeat' first
   | (with_reducible exact ih0 _ _ _ _ _ _ _ _ _ _ _ _ _ _ _ _)
   | (with_reducible exact ih1 _ _ _ _ _ _ _ _ _ _ _ _ _ _ _ _)
   | (with_reducible exact plane_Blit.mono _ _ _ _ _ _ _ _ _ _ _)
   | (with_reducible exact plane_Crop.mono _ _ _ _ _ _ _ _ _)
   | (with_reducible exact plane_Equal.mono _ _ _ _ _ _ _ _ _)
   | (with_reducible exact tilefarmgen_Tape_Sized.mono _ _ _ _ _)
   | (with_reducible exact tilefarmlaw4_sane.mono _)
   | (with_reducible exact LeO.refl _)
   | (with_reducible exact LeO.none _)
   | (with_reducible refine LeO.ite ?_ ?_)
   | (with_reducible refine LeO.bind ?_ (fun _ => ?_))
   | exact ih0 _ _ _ _ _ _ _ _ _ _ _ _ _ _ _ _
   | exact ih1 _ _ _ _ _ _ _ _ _ _ _ _ _ _ _ _
   | exact plane_Blit.mono _ _ _ _ _ _ _ _ _ _ _
   | exact plane_Crop.mono _ _ _ _ _ _ _ _ _
   | exact plane_Equal.mono _ _ _ _ _ _ _ _ _
   | exact tilefarmgen_Tape_Sized.mono _ _ _ _ _
   | exact tilefarmlaw4_sane.mono _
   | exact LeO.none _
   | refine LeO.ite ?_ ?_
   | refine LeO.bind ?_ (fun _ => ?_)
def tilefarmlaw4_PlaneBlits.T11 : Bool × List (List Nat × List Nat) := (true, [([], []), ([0], [0]), ([], []), ([], []), ([], []), ([4], [4]), ([5], [5]), ([3, 6], [3, 6]), ([1, 2, 0, 1, 2, 3, 4, 5, 6, 7], [1, 2]), ([8, 7, 7, 0, 1, 2, 3, 4, 5, 6, 7], [7, 8])])
def tilefarmlaw4_PlaneBlits.B11 : List Nat := [0, 1, 0, 0, 0, 16, 48, 120, 255, 511]
theorem tilefarmlaw4_PlaneBlits.tab11 : rtab .any (opsOf Try.f7 11) = tilefarmlaw4_PlaneBlits.T11 := by kernel_rfl
theorem tilefarmlaw4_PlaneBlits.bits11 : waitsOk tilefarmlaw4_PlaneBlits.T11.2 tilefarmlaw4_PlaneBlits.B11 = true := by kernel_rfl
def tilefarmlaw4_PlaneBlits.T15 : Bool × List (List Nat × List Nat) := (true, [([], []), ([], []), ([], []), ([2], [2]), ([1, 3], [1, 3]), ([], []), ([], []), ([6], [6]), ([5, 7], [5, 7]), ([0, 4, 8], [0, 4, 8]), ([9, 9, 0, 1, 2, 3, 4, 5, 6, 7, 8, 9], [9])])
def tilefarmlaw4_PlaneBlits.B15 : List Nat := [0, 0, 0, 4, 14, 0, 0, 64, 224, 511, 1023]
theorem tilefarmlaw4_PlaneBlits.tab15 : rtab .any (opsOf Try.f7 15) = tilefarmlaw4_PlaneBlits.T15 := by kernel_rfl
theorem tilefarmlaw4_PlaneBlits.bits15 : waitsOk tilefarmlaw4_PlaneBlits.T15.2 tilefarmlaw4_PlaneBlits.B15 = true := by kernel_rfl
def tilefarmlaw4_PlaneBlits.T16 : Bool × List (List Nat × List Nat) := (true, [([], []), ([0], [0]), ([1], [1]), ([1, 2], [1, 2]), ([3, 1], [3]), ([4], [4]), ([4], [4]), ([5, 6, 4, 4], [4, 5, 6]), ([4, 7], [4, 7]), ([8, 7], [8]), ([9], [9]), ([10, 9], [9, 10]), ([11, 9], [9, 11]), ([9], [9]), ([13, 9], [9, 13]), ([14, 9], [9, 14]), ([12, 15, 9], [9, 12, 15]), ([9, 16], [9, 16]), ([17, 9], [17]), ([18], [18]), ([19, 18, 18], [18, 19]), ([20], [20]), ([21, 20], [20, 21]), ([20], [20]), ([22, 23, 20], [20, 22, 23]), ([24, 20], [20, 24]), ([20], [20]), ([26, 20], [20, 26]), ([20], [20]), ([27, 28, 20], [20, 27, 28]), ([29, 20], [20, 29]), ([25, 30, 20], [20, 25, 30]), ([20, 31, 18], [18, 20, 31]), ([18, 32], [18, 32]), ([33, 20], [33]), ([34, 34], [34]), ([34, 35], [34, 35]), ([36, 35, 0, 1, 2, 3, 4, 5, 6, 7, 8, 9, 10, 11, 12, 13, 14, 15, 16, 17, 18, 19, 20, 21, 22, 23, 24, 25, 26, 27, 28, 29, 30, 31, 32, 33, 34, 35, 36], [36])])
def tilefarmlaw4_PlaneBlits.B16 : List Nat := [0, 1, 3, 7, 15, 31, 31, 127, 255, 511, 1023, 2047, 4095, 1023, 9215, 25599, 65535, 131071, 262143, 524287, 1048575, 2097151, 4194303, 2097151, 16777215, 33554431, 2097151, 69206015, 2097151, 471859199, 1008730111, 2147483647, 4294967295, 8589934591, 17179869183, 34359738367, 68719476735, 137438953471]
theorem tilefarmlaw4_PlaneBlits.tab16 : rtab .any (opsOf Try.f7 16) = tilefarmlaw4_PlaneBlits.T16 := by kernel_rfl
theorem tilefarmlaw4_PlaneBlits.bits16 : waitsOk tilefarmlaw4_PlaneBlits.T16.2 tilefarmlaw4_PlaneBlits.B16 = true := by kernel_rfl
set_option maxHeartbeats 8000000 in
set_option maxRecDepth 100000 in
theorem tilefarmlaw4_PlaneBlits.calls (k : Nat) (A0 : Option Addr) (c0 : Nat) (l0 : List Int) (a1 : Int) (r : Bool) (w : World) (hr0 : Kd.C (Kd.int .i64) w A0 l0.length l0) (hc0 : l0.length ≤ c0) (h : tilefarmlaw4_PlaneBlits.f k l0 a1 = some r) (hT : r = true := by first | rfl | assumption | exact HT.out) :
  Calls Try.prog 7 #[.slice A0 l0.length c0, .int .i64 a1] w fun e w' => e = .returned (.bool r) ∧ Below w.heap.size w w' := by
 have HT := am_ hT
 clear hT
 have hu26 := Try.underlying26
 have hu31 := Try.underlying31
 have HR0 := am_ hr0
 have HC0 := am_ hc0
 clear hr0 hc0
 have HB := am_ (Below.refl w.heap.size w)
 have H : ((tilefarmgen_New.f l0).bind fun bt298 => ((tilefarmgen_Tape_Next.f bt298.1 bt298.2 5).bind fun bt301 => ((tilefarmgen_Tape_Next.f bt298.1 bt301.2 4).bind fun bt303 => ((tilefarmgen_Tape_Sized.f k bt298.1 bt303.2 (wrap64 (2 + bt301.1)) (wrap64 (2 + bt303.1))).bind fun bt305 => ((tilefarmgen_Tape_Within.f bt298.1 bt305.2.2.2.2 bt305.1 bt305.2.1).bind fun bt313 => ((plane_Crop.f k bt305.1 bt305.2.1 bt305.2.2.1 bt305.2.2.2.1 bt313.1 bt313.2.1 bt313.2.2.1 bt313.2.2.2.1).bind fun bt319 => ((plane_Blit.f k bt305.1 bt305.2.1 bt305.2.2.1 bt305.2.2.2.1 bt319.1 bt319.2.1 bt319.2.2.1 bt319.2.2.2.1 bt313.1 bt313.2.1).bind fun bt327 => (if bt319.2.2.2.2 = true then (if bt327.2.2.2.2 = true then ((plane_Equal.f k bt327.1 bt327.2.1 bt327.2.2.1 bt327.2.2.2.1 bt305.1 bt305.2.1 bt305.2.2.1 bt305.2.2.2.1).bind fun t335 => (tilefarmlaw4_PlaneBlits.j0 k a1 (!t335) bt298.1 bt313.2.2.2.2 bt305.1 bt305.2.1 bt305.2.2.1 bt305.2.2.2.1 bt313.1 bt313.2.1 bt313.2.2.1 bt313.2.2.2.1 bt319.1 bt319.2.1 bt319.2.2.1 bt319.2.2.2.1)) else (tilefarmlaw4_PlaneBlits.j0 k a1 true bt298.1 bt313.2.2.2.2 bt305.1 bt305.2.1 bt305.2.2.1 bt305.2.2.2.1 bt313.1 bt313.2.1 bt313.2.2.1 bt313.2.2.2.1 bt319.1 bt319.2.1 bt319.2.2.1 bt319.2.2.2.1)) else (tilefarmlaw4_PlaneBlits.j0 k a1 true bt298.1 bt313.2.2.2.2 bt305.1 bt305.2.1 bt305.2.2.1 bt305.2.2.2.1 bt313.1 bt313.2.1 bt313.2.2.1 bt313.2.2.2.1 bt319.1 bt319.2.1 bt319.2.2.1 bt319.2.2.2.1))))))))) = some r := h
 clear h
 replace H := Option.bind_eq_some_iff.mp H
 obtain ⟨⟨t298, t299⟩, A30, H⟩ := H
 replace H : ((tilefarmgen_Tape_Next.f t298 t299 5).bind fun bt301 => ((tilefarmgen_Tape_Next.f t298 bt301.2 4).bind fun bt303 => ((tilefarmgen_Tape_Sized.f k t298 bt303.2 (wrap64 (2 + bt301.1)) (wrap64 (2 + bt303.1))).bind fun bt305 => ((tilefarmgen_Tape_Within.f t298 bt305.2.2.2.2 bt305.1 bt305.2.1).bind fun bt313 => ((plane_Crop.f k bt305.1 bt305.2.1 bt305.2.2.1 bt305.2.2.2.1 bt313.1 bt313.2.1 bt313.2.2.1 bt313.2.2.2.1).bind fun bt319 => ((plane_Blit.f k bt305.1 bt305.2.1 bt305.2.2.1 bt305.2.2.2.1 bt319.1 bt319.2.1 bt319.2.2.1 bt319.2.2.2.1 bt313.1 bt313.2.1).bind fun bt327 => (if bt319.2.2.2.2 = true then (if bt327.2.2.2.2 = true then ((plane_Equal.f k bt327.1 bt327.2.1 bt327.2.2.1 bt327.2.2.2.1 bt305.1 bt305.2.1 bt305.2.2.1 bt305.2.2.2.1).bind fun t335 => (tilefarmlaw4_PlaneBlits.j0 k a1 (!t335) t298 bt313.2.2.2.2 bt305.1 bt305.2.1 bt305.2.2.1 bt305.2.2.2.1 bt313.1 bt313.2.1 bt313.2.2.1 bt313.2.2.2.1 bt319.1 bt319.2.1 bt319.2.2.1 bt319.2.2.2.1)) else (tilefarmlaw4_PlaneBlits.j0 k a1 true t298 bt313.2.2.2.2 bt305.1 bt305.2.1 bt305.2.2.1 bt305.2.2.2.1 bt313.1 bt313.2.1 bt313.2.2.1 bt313.2.2.2.1 bt319.1 bt319.2.1 bt319.2.2.1 bt319.2.2.2.1)) else (tilefarmlaw4_PlaneBlits.j0 k a1 true t298 bt313.2.2.2.2 bt305.1 bt305.2.1 bt305.2.2.1 bt305.2.2.2.1 bt313.1 bt313.2.1 bt313.2.2.1 bt313.2.2.2.1 bt319.1 bt319.2.1 bt319.2.2.1 bt319.2.2.2.1)))))))) = some r := H
 have A3 := am_ A30
 clear A30
 replace H := Option.bind_eq_some_iff.mp H
 obtain ⟨⟨t301, t302⟩, A40, H⟩ := H
 replace H : ((tilefarmgen_Tape_Next.f t298 t302 4).bind fun bt303 => ((tilefarmgen_Tape_Sized.f k t298 bt303.2 (wrap64 (2 + t301)) (wrap64 (2 + bt303.1))).bind fun bt305 => ((tilefarmgen_Tape_Within.f t298 bt305.2.2.2.2 bt305.1 bt305.2.1).bind fun bt313 => ((plane_Crop.f k bt305.1 bt305.2.1 bt305.2.2.1 bt305.2.2.2.1 bt313.1 bt313.2.1 bt313.2.2.1 bt313.2.2.2.1).bind fun bt319 => ((plane_Blit.f k bt305.1 bt305.2.1 bt305.2.2.1 bt305.2.2.2.1 bt319.1 bt319.2.1 bt319.2.2.1 bt319.2.2.2.1 bt313.1 bt313.2.1).bind fun bt327 => (if bt319.2.2.2.2 = true then (if bt327.2.2.2.2 = true then ((plane_Equal.f k bt327.1 bt327.2.1 bt327.2.2.1 bt327.2.2.2.1 bt305.1 bt305.2.1 bt305.2.2.1 bt305.2.2.2.1).bind fun t335 => (tilefarmlaw4_PlaneBlits.j0 k a1 (!t335) t298 bt313.2.2.2.2 bt305.1 bt305.2.1 bt305.2.2.1 bt305.2.2.2.1 bt313.1 bt313.2.1 bt313.2.2.1 bt313.2.2.2.1 bt319.1 bt319.2.1 bt319.2.2.1 bt319.2.2.2.1)) else (tilefarmlaw4_PlaneBlits.j0 k a1 true t298 bt313.2.2.2.2 bt305.1 bt305.2.1 bt305.2.2.1 bt305.2.2.2.1 bt313.1 bt313.2.1 bt313.2.2.1 bt313.2.2.2.1 bt319.1 bt319.2.1 bt319.2.2.1 bt319.2.2.2.1)) else (tilefarmlaw4_PlaneBlits.j0 k a1 true t298 bt313.2.2.2.2 bt305.1 bt305.2.1 bt305.2.2.1 bt305.2.2.2.1 bt313.1 bt313.2.1 bt313.2.2.1 bt313.2.2.2.1 bt319.1 bt319.2.1 bt319.2.2.1 bt319.2.2.2.1))))))) = some r := H
 have A4 := am_ A40
 clear A40
 replace H := Option.bind_eq_some_iff.mp H
 obtain ⟨⟨t303, t304⟩, A50, H⟩ := H
 replace H : ((tilefarmgen_Tape_Sized.f k t298 t304 (wrap64 (2 + t301)) (wrap64 (2 + t303))).bind fun bt305 => ((tilefarmgen_Tape_Within.f t298 bt305.2.2.2.2 bt305.1 bt305.2.1).bind fun bt313 => ((plane_Crop.f k bt305.1 bt305.2.1 bt305.2.2.1 bt305.2.2.2.1 bt313.1 bt313.2.1 bt313.2.2.1 bt313.2.2.2.1).bind fun bt319 => ((plane_Blit.f k bt305.1 bt305.2.1 bt305.2.2.1 bt305.2.2.2.1 bt319.1 bt319.2.1 bt319.2.2.1 bt319.2.2.2.1 bt313.1 bt313.2.1).bind fun bt327 => (if bt319.2.2.2.2 = true then (if bt327.2.2.2.2 = true then ((plane_Equal.f k bt327.1 bt327.2.1 bt327.2.2.1 bt327.2.2.2.1 bt305.1 bt305.2.1 bt305.2.2.1 bt305.2.2.2.1).bind fun t335 => (tilefarmlaw4_PlaneBlits.j0 k a1 (!t335) t298 bt313.2.2.2.2 bt305.1 bt305.2.1 bt305.2.2.1 bt305.2.2.2.1 bt313.1 bt313.2.1 bt313.2.2.1 bt313.2.2.2.1 bt319.1 bt319.2.1 bt319.2.2.1 bt319.2.2.2.1)) else (tilefarmlaw4_PlaneBlits.j0 k a1 true t298 bt313.2.2.2.2 bt305.1 bt305.2.1 bt305.2.2.1 bt305.2.2.2.1 bt313.1 bt313.2.1 bt313.2.2.1 bt313.2.2.2.1 bt319.1 bt319.2.1 bt319.2.2.1 bt319.2.2.2.1)) else (tilefarmlaw4_PlaneBlits.j0 k a1 true t298 bt313.2.2.2.2 bt305.1 bt305.2.1 bt305.2.2.1 bt305.2.2.2.1 bt313.1 bt313.2.1 bt313.2.2.1 bt313.2.2.2.1 bt319.1 bt319.2.1 bt319.2.2.1 bt319.2.2.2.1)))))) = some r := H
 have A5 := am_ A50
 clear A50
 replace H := Option.bind_eq_some_iff.mp H
 obtain ⟨⟨t305, t306, t307, t308, t311⟩, A60, H⟩ := H
 replace H : ((tilefarmgen_Tape_Within.f t298 t311 t305 t306).bind fun bt313 => ((plane_Crop.f k t305 t306 t307 t308 bt313.1 bt313.2.1 bt313.2.2.1 bt313.2.2.2.1).bind fun bt319 => ((plane_Blit.f k t305 t306 t307 t308 bt319.1 bt319.2.1 bt319.2.2.1 bt319.2.2.2.1 bt313.1 bt313.2.1).bind fun bt327 => (if bt319.2.2.2.2 = true then (if bt327.2.2.2.2 = true then ((plane_Equal.f k bt327.1 bt327.2.1 bt327.2.2.1 bt327.2.2.2.1 t305 t306 t307 t308).bind fun t335 => (tilefarmlaw4_PlaneBlits.j0 k a1 (!t335) t298 bt313.2.2.2.2 t305 t306 t307 t308 bt313.1 bt313.2.1 bt313.2.2.1 bt313.2.2.2.1 bt319.1 bt319.2.1 bt319.2.2.1 bt319.2.2.2.1)) else (tilefarmlaw4_PlaneBlits.j0 k a1 true t298 bt313.2.2.2.2 t305 t306 t307 t308 bt313.1 bt313.2.1 bt313.2.2.1 bt313.2.2.2.1 bt319.1 bt319.2.1 bt319.2.2.1 bt319.2.2.2.1)) else (tilefarmlaw4_PlaneBlits.j0 k a1 true t298 bt313.2.2.2.2 t305 t306 t307 t308 bt313.1 bt313.2.1 bt313.2.2.1 bt313.2.2.2.1 bt319.1 bt319.2.1 bt319.2.2.1 bt319.2.2.2.1))))) = some r := H
 have A6 := am_ A60
 clear A60
 replace H := Option.bind_eq_some_iff.mp H
 obtain ⟨⟨t313, t314, t315, t316, t317⟩, A70, H⟩ := H
 replace H : ((plane_Crop.f k t305 t306 t307 t308 t313 t314 t315 t316).bind fun bt319 => ((plane_Blit.f k t305 t306 t307 t308 bt319.1 bt319.2.1 bt319.2.2.1 bt319.2.2.2.1 t313 t314).bind fun bt327 => (if bt319.2.2.2.2 = true then (if bt327.2.2.2.2 = true then ((plane_Equal.f k bt327.1 bt327.2.1 bt327.2.2.1 bt327.2.2.2.1 t305 t306 t307 t308).bind fun t335 => (tilefarmlaw4_PlaneBlits.j0 k a1 (!t335) t298 t317 t305 t306 t307 t308 t313 t314 t315 t316 bt319.1 bt319.2.1 bt319.2.2.1 bt319.2.2.2.1)) else (tilefarmlaw4_PlaneBlits.j0 k a1 true t298 t317 t305 t306 t307 t308 t313 t314 t315 t316 bt319.1 bt319.2.1 bt319.2.2.1 bt319.2.2.2.1)) else (tilefarmlaw4_PlaneBlits.j0 k a1 true t298 t317 t305 t306 t307 t308 t313 t314 t315 t316 bt319.1 bt319.2.1 bt319.2.2.1 bt319.2.2.2.1)))) = some r := H
 have A7 := am_ A70
 clear A70
 replace H := Option.bind_eq_some_iff.mp H
 obtain ⟨⟨t319, t320, t321, t322, t325⟩, A80, H⟩ := H
 replace H : ((plane_Blit.f k t305 t306 t307 t308 t319 t320 t321 t322 t313 t314).bind fun bt327 => (if t325 = true then (if bt327.2.2.2.2 = true then ((plane_Equal.f k bt327.1 bt327.2.1 bt327.2.2.1 bt327.2.2.2.1 t305 t306 t307 t308).bind fun t335 => (tilefarmlaw4_PlaneBlits.j0 k a1 (!t335) t298 t317 t305 t306 t307 t308 t313 t314 t315 t316 t319 t320 t321 t322)) else (tilefarmlaw4_PlaneBlits.j0 k a1 true t298 t317 t305 t306 t307 t308 t313 t314 t315 t316 t319 t320 t321 t322)) else (tilefarmlaw4_PlaneBlits.j0 k a1 true t298 t317 t305 t306 t307 t308 t313 t314 t315 t316 t319 t320 t321 t322))) = some r := H
 have A8 := am_ A80
 clear A80
 replace H := Option.bind_eq_some_iff.mp H
 obtain ⟨⟨t327, t328, t329, t330, t333⟩, A90, H⟩ := H
 replace H : (if t325 = true then (if t333 = true then ((plane_Equal.f k t327 t328 t329 t330 t305 t306 t307 t308).bind fun t335 => (tilefarmlaw4_PlaneBlits.j0 k a1 (!t335) t298 t317 t305 t306 t307 t308 t313 t314 t315 t316 t319 t320 t321 t322)) else (tilefarmlaw4_PlaneBlits.j0 k a1 true t298 t317 t305 t306 t307 t308 t313 t314 t315 t316 t319 t320 t321 t322)) else (tilefarmlaw4_PlaneBlits.j0 k a1 true t298 t317 t305 t306 t307 t308 t313 t314 t315 t316 t319 t320 t321 t322)) = some r := H
 have A9 := am_ A90
 clear A90
 have HC10 := am_ H
 clear H
 go_enter Try.func7, Try.ntmps7
 go_upto_region 6 with (first | ((with_reducible refine gate_callee (f := 8) rfl ?_); refine goesL_ (some 20) rfl rfl Try.func8 (by kernel_rfl) rfl #[.slice A0 l0.length c0] rfl q108_ ?_; (with_reducible refine (tilefarmgen_New.calls _ _ l0 t298 t299 w _ ?side1 ?side2 ?side3 A3.out).mono ?_); (case side1 => repeat (first | (with_reducible first | exact HB.out | apply below_alloc | apply pw_below_drewN | apply below_drew1) | exact HB.out)); (case side2 => exact HR0.out); (case side3 => exact HC0.out); rintro e w11 ⟨g300, rfl, hi, hb, hb2⟩; refine ⟨_, rfl, ?_⟩; have n0_ := am_ (hb); have n1_ := am_ (hi); clear HB; have HB := n0_; have HI300 := n1_; clear n0_ n1_) | ((with_reducible refine gate_callee (f := 10) rfl ?_); refine goesL_ (some 23) rfl rfl Try.func10 (by kernel_rfl) rfl #[.pointer (some ⟨g300, 0, none⟩), .int .i64 5] rfl q108_ ?_; (with_reducible refine (tilefarmgen_Tape_Next.calls g300 t298 t299 5 t301 t302 w _ ?side1 ?side2 A4.out).mono ?_); (case side1 => repeat (first | (with_reducible first | exact HI300.out | apply IsS54.alloc | apply IsS54.drewN | apply IsS54.drew | apply IsS54.set_1) | exact HI300.out)); (case side2 => repeat (first | (with_reducible first | exact HB.out | apply below_alloc | apply pw_below_drewN | apply below_drew1 | refine below_set ?_ (IsS54.ge HI300.out)) | exact HB.out)); rintro e w12 ⟨rfl, hi, hb, hk⟩; refine ⟨_, rfl, ?_⟩; have n0_ := am_ (hb); have n1_ := am_ (hi); clear HB; clear HI300; have HB := n0_; have HI300 := n1_; clear n0_ n1_) | ((with_reducible refine gate_callee (f := 10) rfl ?_); refine goesL_ (some 26) rfl rfl Try.func10 (by kernel_rfl) rfl #[.pointer (some ⟨g300, 0, none⟩), .int .i64 4] rfl q108_ ?_; (with_reducible refine (tilefarmgen_Tape_Next.calls g300 t298 t302 4 t303 t304 w _ ?side1 ?side2 A5.out).mono ?_); (case side1 => repeat (first | (with_reducible first | exact HI300.out | apply IsS54.alloc | apply IsS54.drewN | apply IsS54.drew | apply IsS54.set_1) | exact HI300.out)); (case side2 => repeat (first | (with_reducible first | exact HB.out | apply below_alloc | apply pw_below_drewN | apply below_drew1 | refine below_set ?_ (IsS54.ge HI300.out)) | exact HB.out)); rintro e w13 ⟨rfl, hi, hb, hk⟩; refine ⟨_, rfl, ?_⟩; have n0_ := am_ (hb); have n1_ := am_ (hi); clear HB; clear HI300; have HB := n0_; have HI300 := n1_; clear n0_ n1_) | ((with_reducible refine gate_callee (f := 9) rfl ?_); refine goesL_ (some 28) rfl rfl Try.func9 (by kernel_rfl) rfl #[.pointer (some ⟨g300, 0, none⟩), .int .i64 (wrap64 (2 + t301)), .int .i64 (wrap64 (2 + t303))] rfl q108_ ?_; (with_reducible refine (tilefarmgen_Tape_Sized.calls k g300 t298 t304 (wrap64 (2 + t301)) (wrap64 (2 + t303)) t305 t306 t307 t308 t311 w _ ?side1 ?side2 A6.out).mono ?_); (case side1 => repeat (first | (with_reducible first | exact HI300.out | apply IsS54.alloc | apply IsS54.drewN | apply IsS54.drew | apply IsS54.set_1) | exact HI300.out)); (case side2 => repeat (first | (with_reducible first | exact HB.out | apply below_alloc | apply pw_below_drewN | apply below_drew1 | refine below_set ?_ (IsS54.ge HI300.out)) | exact HB.out)); rintro e w14 ⟨v309, rfl, ho0, hi, hb, hk⟩; refine ⟨_, rfl, ?_⟩; have n0_ := am_ (Kd.R_lower ho0 (below_size q81_)); have n1_ := am_ (hb); have n2_ := am_ (hi); clear HB; clear HI300; have HO310 := n0_; have HB := n1_; have HI300 := n2_; clear n0_ n1_ n2_; (try clear ho0)) | ((with_reducible refine gate_dst (N := 6) rfl ?_); (try (refine gate_guard (by rfl) ?_; dsimp only)); refine box_event ?hg (N := 6) ?hd (cs := #[.int .i64 0, .int .i64 0, .int .i64 0, .slice none 0 0]) (t := 26) ?hr ?_; (case hd => rfl); (case hg => rfl); (case hr => first | (go_simp; done) | (go_simp; rfl)); intro gb312 hg w15 hbox hb; have n0_ := am_ (Kd.R_below q160_ hb); have n1_ := am_ (IsS54.below (by repeat (first | (with_reducible first | exact HI300.out | apply IsS54.alloc | apply IsS54.drewN | apply IsS54.drew | apply IsS54.set_1) | exact HI300.out)) hb); have n2_ := am_ (below_step q81_ hb); have n3_ := am_ (hbox); have n4_ := am_ ((by rw [hg]; exact (below_size q81_) : w.heap.size ≤ gb312)); have n5_ := am_ ((by rw [hg]; exact (below_size q81_) : w.heap.size ≤ gb312)); have n6_ := am_ ((by rw [hg]; exact Nat.ne_of_lt (IsS54.lt (show IsS54 w _ g300 t298 t311 from by repeat (first | (with_reducible first | exact HI300.out | apply IsS54.alloc | apply IsS54.drewN | apply IsS54.drew | apply IsS54.set_1) | exact HI300.out))) : g300 ≠ gb312)); have n7_ := am_ ((by rw [hg]; exact Nat.ne_of_gt (IsS54.lt (show IsS54 w _ g300 t298 t311 from by repeat (first | (with_reducible first | exact HI300.out | apply IsS54.alloc | apply IsS54.drewN | apply IsS54.drew | apply IsS54.set_1) | exact HI300.out))) : gb312 ≠ g300)); clear HO310; clear HI300; clear HB; have HO310 := n0_; have HI300 := n1_; have HB := n2_; have BK312 := n3_; have GW312 := n4_; have GE312 := n5_; have NB300_312 := n6_; have NB312_300 := n7_; clear n0_ n1_ n2_ n3_ n4_ n5_ n6_ n7_; clear hb hbox hg; have hnb16 := NB312_300.out; have hnc16 := NB300_312.out; have hcz17_0 : w15.cell? ⟨gb312, 0, none⟩ = some (.int .i64 0) := (blk_cell BK312.out 0).trans rfl; have hcz17_1 : w15.cell? ⟨gb312, 1, none⟩ = some (.int .i64 0) := (blk_cell BK312.out 1).trans rfl; have hcz17_2 : w15.cell? ⟨gb312, 2, none⟩ = some (.int .i64 0) := (blk_cell BK312.out 2).trans rfl; have hcz17_3 : w15.cell? ⟨gb312, 3, none⟩ = some (.slice none 0 0) := (blk_cell BK312.out 3).trans rfl; have hfz17_0 := blk_frozen BK312.out 0; have hfz17_1 := blk_frozen BK312.out 1; have hfz17_2 := blk_frozen BK312.out 2; have hfz17_3 := blk_frozen BK312.out 3; obtain ⟨Ao18, co18, eo18⟩ := Kd.R_slice HO310.out; subst eo18) | ((with_reducible refine gate_callee (f := 12) rfl ?_); refine goesL_ (some 34) rfl rfl Try.func12 (by kernel_rfl) rfl #[.pointer (some ⟨g300, 0, none⟩), .int .i64 t305, .int .i64 t306] rfl q108_ ?_; (with_reducible refine (tilefarmgen_Tape_Within.calls g300 t298 t311 t305 t306 t313 t314 t315 t316 t317 w _ ?side1 ?side2 A7.out).mono ?_); (case side1 => repeat (first | (with_reducible first | exact HI300.out | apply IsS54.alloc | apply IsS54.drewN | apply IsS54.drew | apply IsS54.set_1 | refine IsS54.far ?_ NB300_312.out _) | exact HI300.out)); (case side2 => repeat (first | (with_reducible first | exact HB.out | apply below_alloc | apply pw_below_drewN | apply below_drew1 | refine below_set ?_ (IsS54.ge HI300.out) | refine below_set ?_ GE312.out) | exact HB.out)); rintro e w19 ⟨rfl, hi, hb, hk⟩; refine ⟨_, rfl, ?_⟩; have n0_ := am_ (Kd.R_mono (Kd.R_keep (IsS54.apart (show IsS54 w _ g300 t298 t311 from by repeat (first | (with_reducible first | exact HI300.out | apply IsS54.alloc | apply IsS54.drewN | apply IsS54.drew | apply IsS54.set_1 | refine IsS54.far ?_ NB300_312.out _) | exact HI300.out)) (by (with_reducible repeat (first | apply Kd.R_alloc | apply Kd.R_drewN | apply Kd.R_drew)); exact (Kd.R_mono (Kd.R_far (p := ⟨gb312, 3, none⟩) (Kd.R_far (p := ⟨gb312, 2, none⟩) (Kd.R_far (p := ⟨gb312, 1, none⟩) (Kd.R_far (p := ⟨gb312, 0, none⟩) (Kd.R_types HO310.out BK312.out (by decide)) (fun _ hk => hk.2) (.int .i64 t305)) (fun _ hk => hk.2) (.int .i64 t306)) (fun _ hk => hk.2) (.int .i64 t307)) (fun _ hk => hk.2) (.slice Ao18 t308.length co18)) (fun _ h_ => h_.1))) (by decide)) hk (fun _ h => h.2)) (fun _ h => h.1)); have n1_ := am_ (KeepBut.blk hk (g' := gb312) (o := .cells #[.int .i64 t305, .int .i64 t306, .int .i64 t307, .slice Ao18 t308.length co18] 26 (0, 0)) (by (with_reducible repeat (first | refine blk_drewN ?_ _ | refine blk_drew ?_ | refine blk_alloc ?_ _)); refine blk_put (cs := #[.int .i64 t305, .int .i64 t306, .int .i64 t307, .slice none 0 0]) ?_ 3 _ rfl; (with_reducible repeat (first | refine blk_drewN ?_ _ | refine blk_drew ?_ | refine blk_alloc ?_ _)); refine blk_put (cs := #[.int .i64 t305, .int .i64 t306, .int .i64 0, .slice none 0 0]) ?_ 2 _ rfl; (with_reducible repeat (first | refine blk_drewN ?_ _ | refine blk_drew ?_ | refine blk_alloc ?_ _)); refine blk_put (cs := #[.int .i64 t305, .int .i64 0, .int .i64 0, .slice none 0 0]) ?_ 1 _ rfl; (with_reducible repeat (first | refine blk_drewN ?_ _ | refine blk_drew ?_ | refine blk_alloc ?_ _)); refine blk_put (cs := #[.int .i64 0, .int .i64 0, .int .i64 0, .slice none 0 0]) ?_ 0 _ rfl; (with_reducible repeat (first | refine blk_drewN ?_ _ | refine blk_drew ?_ | refine blk_alloc ?_ _)); exact BK312.out) NB312_300.out (by simp)); have n2_ := am_ (hb); have n3_ := am_ (hi); clear HO310; clear BK312; clear HB; clear HI300; have HO310 := n0_; have BK312 := n1_; have HB := n2_; have HI300 := n3_; clear n0_ n1_ n2_ n3_) | ((with_reducible refine gate_dst (N := 7) rfl ?_); (try (refine gate_guard (by rfl) ?_; dsimp only)); refine box_event ?hg (N := 7) ?hd (cs := #[.int .i64 0, .int .i64 0, .int .i64 0, .int .i64 0]) (t := 31) ?hr ?_; (case hd => rfl); (case hg => rfl); (case hr => first | (go_simp; done) | (go_simp; rfl)); intro gb318 hg w20 hbox hb; have n0_ := am_ (Kd.R_below q160_ hb); have n1_ := am_ (IsS54.below (by repeat (first | (with_reducible first | exact HI300.out | apply IsS54.alloc | apply IsS54.drewN | apply IsS54.drew | apply IsS54.set_1 | refine IsS54.far ?_ NB300_312.out _) | exact HI300.out)) hb); have n2_ := am_ (blk_below (g := gb312) (o := .cells #[.int .i64 t305, .int .i64 t306, .int .i64 t307, .slice Ao18 t308.length co18] 26 (0, 0)) q140_ hb); have n3_ := am_ (below_step q63_ hb); have n4_ := am_ (hbox); have n5_ := am_ ((by rw [hg]; exact (below_size q63_) : w.heap.size ≤ gb318)); have n6_ := am_ ((by rw [hg]; exact (below_size q63_) : w.heap.size ≤ gb318)); have n7_ := am_ ((q28_ : gb312 ≠ gb318)); have n8_ := am_ ((q29_ : gb318 ≠ gb312)); have n9_ := am_ ((by rw [hg]; exact Nat.ne_of_lt (IsS54.lt (show IsS54 w _ g300 t298 t317 from by repeat (first | (with_reducible first | exact HI300.out | apply IsS54.alloc | apply IsS54.drewN | apply IsS54.drew | apply IsS54.set_1 | refine IsS54.far ?_ NB300_312.out _) | exact HI300.out))) : g300 ≠ gb318)); have n10_ := am_ ((by rw [hg]; exact Nat.ne_of_gt (IsS54.lt (show IsS54 w _ g300 t298 t317 from by repeat (first | (with_reducible first | exact HI300.out | apply IsS54.alloc | apply IsS54.drewN | apply IsS54.drew | apply IsS54.set_1 | refine IsS54.far ?_ NB300_312.out _) | exact HI300.out))) : gb318 ≠ g300)); clear HO310; clear HI300; clear BK312; clear HB; have HO310 := n0_; have HI300 := n1_; have BK312 := n2_; have HB := n3_; have BK318 := n4_; have GW318 := n5_; have GE318 := n6_; have NB312_318 := n7_; have NB318_312 := n8_; have NB300_318 := n9_; have NB318_300 := n10_; clear n0_ n1_ n2_ n3_ n4_ n5_ n6_ n7_ n8_ n9_ n10_; clear hb hbox hg; have hnb21 := NB318_312.out; have hnc21 := NB312_318.out; have hnb22 := NB318_300.out; have hnc22 := NB300_318.out; have hcz23_0 : w20.cell? ⟨gb318, 0, none⟩ = some (.int .i64 0) := (blk_cell BK318.out 0).trans rfl; have hcz23_1 : w20.cell? ⟨gb318, 1, none⟩ = some (.int .i64 0) := (blk_cell BK318.out 1).trans rfl; have hcz23_2 : w20.cell? ⟨gb318, 2, none⟩ = some (.int .i64 0) := (blk_cell BK318.out 2).trans rfl; have hcz23_3 : w20.cell? ⟨gb318, 3, none⟩ = some (.int .i64 0) := (blk_cell BK318.out 3).trans rfl; have hfz23_0 := blk_frozen BK318.out 0; have hfz23_1 := blk_frozen BK318.out 1; have hfz23_2 := blk_frozen BK318.out 2; have hfz23_3 := blk_frozen BK318.out 3; have hcz24_0 : w20.cell? ⟨gb312, 0, none⟩ = some (.int .i64 t305) := (blk_cell BK312.out 0).trans rfl; have hcz24_1 : w20.cell? ⟨gb312, 1, none⟩ = some (.int .i64 t306) := (blk_cell BK312.out 1).trans rfl; have hcz24_2 : w20.cell? ⟨gb312, 2, none⟩ = some (.int .i64 t307) := (blk_cell BK312.out 2).trans rfl; have hcz24_3 : w20.cell? ⟨gb312, 3, none⟩ = some (.slice Ao18 t308.length co18) := (blk_cell BK312.out 3).trans rfl; have hfz24_0 := blk_frozen BK312.out 0; have hfz24_1 := blk_frozen BK312.out 1; have hfz24_2 := blk_frozen BK312.out 2; have hfz24_3 := blk_frozen BK312.out 3) | ((with_reducible refine gate_callee (f := 13) rfl ?_); refine goesL_ (some 38) rfl rfl Try.func13 (by kernel_rfl) rfl #[.agg #[.int .i64 t305, .int .i64 t306, .int .i64 t307, .slice Ao18 t308.length co18], .agg #[.int .i64 t313, .int .i64 t314, .int .i64 t315, .int .i64 t316]] rfl q108_ ?_; (with_reducible refine (plane_Crop.calls k t305 t306 t307 _ _ t308 t313 t314 t315 t316 t319 t320 t321 t322 t325 _ ?side1 ?side2 A8.out).mono ?_); (case side1 => refine (Kd.R_reads' (e := 3) (base := w.heap.size) (ok := fun k_ => True) (n := t308.length) (c := co18) ?_).2.2; exact q8_); (case side2 => exact (Kd.R_reads' HO310.out).2.1); rintro e w25 ⟨v323, rfl, ho0, hb⟩; refine ⟨_, rfl, ?_⟩; have n0_ := am_ (Kd.R_elder' q8_ (Kd.R_base ho0) hb); have n1_ := am_ (Kd.R_lower (Kd.R_new' ho0 (Kd.R_lt q8_)) (below_size q51_)); have n2_ := am_ (IsS54.below (show IsS54 w ((((w20.setCell ⟨gb318, 0, none⟩ (.int .i64 t313)).setCell ⟨gb318, 1, none⟩ (.int .i64 t314)).setCell ⟨gb318, 2, none⟩ (.int .i64 t315)).setCell ⟨gb318, 3, none⟩ (.int .i64 t316)) g300 t298 t317 from by repeat (first | (with_reducible first | exact HI300.out | apply IsS54.alloc | apply IsS54.drewN | apply IsS54.drew | apply IsS54.set_1 | refine IsS54.far ?_ NB300_312.out _ | refine IsS54.far ?_ NB300_318.out _) | exact HI300.out)) hb); have n3_ := am_ (blk_below (g := gb312) (o := .cells #[.int .i64 t305, .int .i64 t306, .int .i64 t307, .slice Ao18 t308.length co18] 26 (0, 0)) (by (with_reducible repeat (first | refine blk_drewN ?_ _ | refine blk_drew ?_ | refine blk_alloc ?_ _)); refine blk_far ?_ NB312_318.out _; (with_reducible repeat (first | refine blk_drewN ?_ _ | refine blk_drew ?_ | refine blk_alloc ?_ _)); refine blk_far ?_ NB312_318.out _; (with_reducible repeat (first | refine blk_drewN ?_ _ | refine blk_drew ?_ | refine blk_alloc ?_ _)); refine blk_far ?_ NB312_318.out _; (with_reducible repeat (first | refine blk_drewN ?_ _ | refine blk_drew ?_ | refine blk_alloc ?_ _)); refine blk_far ?_ NB312_318.out _; (with_reducible repeat (first | refine blk_drewN ?_ _ | refine blk_drew ?_ | refine blk_alloc ?_ _)); exact BK312.out) hb); have n4_ := am_ (blk_below (g := gb318) (o := .cells #[.int .i64 t313, .int .i64 t314, .int .i64 t315, .int .i64 t316] 31 (0, 0)) (by (with_reducible repeat (first | refine blk_drewN ?_ _ | refine blk_drew ?_ | refine blk_alloc ?_ _)); refine blk_put (cs := #[.int .i64 t313, .int .i64 t314, .int .i64 t315, .int .i64 0]) ?_ 3 _ rfl; (with_reducible repeat (first | refine blk_drewN ?_ _ | refine blk_drew ?_ | refine blk_alloc ?_ _)); refine blk_put (cs := #[.int .i64 t313, .int .i64 t314, .int .i64 0, .int .i64 0]) ?_ 2 _ rfl; (with_reducible repeat (first | refine blk_drewN ?_ _ | refine blk_drew ?_ | refine blk_alloc ?_ _)); refine blk_put (cs := #[.int .i64 t313, .int .i64 0, .int .i64 0, .int .i64 0]) ?_ 1 _ rfl; (with_reducible repeat (first | refine blk_drewN ?_ _ | refine blk_drew ?_ | refine blk_alloc ?_ _)); refine blk_put (cs := #[.int .i64 0, .int .i64 0, .int .i64 0, .int .i64 0]) ?_ 0 _ rfl; (with_reducible repeat (first | refine blk_drewN ?_ _ | refine blk_drew ?_ | refine blk_alloc ?_ _)); exact BK318.out) hb); have n5_ := am_ (below_step q51_ hb); clear HO310; clear HI300; clear BK312; clear BK318; clear HB; have HO310 := n0_; have HO324 := n1_; have HI300 := n2_; have BK312 := n3_; have BK318 := n4_; have HB := n5_; clear n0_ n1_ n2_ n3_ n4_ n5_; (try clear ho0)) | ((with_reducible refine gate_dst (N := 8) rfl ?_); (try (refine gate_guard (by rfl) ?_; dsimp only)); refine box_event ?hg (N := 8) ?hd (cs := #[.int .i64 0, .int .i64 0, .int .i64 0, .slice none 0 0]) (t := 26) ?hr ?_; (case hd => rfl); (case hg => rfl); (case hr => first | (go_simp; done) | (go_simp; rfl)); intro gb326 hg w26 hbox hb; have n0_ := am_ (Kd.R_below q160_ hb); have n1_ := am_ (Kd.R_below (by (with_reducible repeat (first | apply Kd.R_alloc | apply Kd.R_drewN | apply Kd.R_drew)); exact HO324.out) hb); have n2_ := am_ (IsS54.below (by repeat (first | (with_reducible first | exact HI300.out | apply IsS54.alloc | apply IsS54.drewN | apply IsS54.drew | apply IsS54.set_1 | refine IsS54.far ?_ NB300_312.out _ | refine IsS54.far ?_ NB300_318.out _) | exact HI300.out)) hb); have n3_ := am_ (blk_below (g := gb312) (o := .cells #[.int .i64 t305, .int .i64 t306, .int .i64 t307, .slice Ao18 t308.length co18] 26 (0, 0)) q140_ hb); have n4_ := am_ (blk_below (g := gb318) (o := .cells #[.int .i64 t313, .int .i64 t314, .int .i64 t315, .int .i64 t316] 31 (0, 0)) q141_ hb); have n5_ := am_ (below_step q51_ hb); have n6_ := am_ (hbox); have n7_ := am_ ((by rw [hg]; exact (below_size q51_) : w.heap.size ≤ gb326)); have n8_ := am_ ((by rw [hg]; exact (below_size q51_) : w.heap.size ≤ gb326)); have n9_ := am_ ((q28_ : gb312 ≠ gb326)); have n10_ := am_ ((q29_ : gb326 ≠ gb312)); have n11_ := am_ ((q39_ : gb318 ≠ gb326)); have n12_ := am_ ((q40_ : gb326 ≠ gb318)); have n13_ := am_ ((by rw [hg]; exact Nat.ne_of_lt (IsS54.lt (show IsS54 w _ g300 t298 t317 from by repeat (first | (with_reducible first | exact HI300.out | apply IsS54.alloc | apply IsS54.drewN | apply IsS54.drew | apply IsS54.set_1 | refine IsS54.far ?_ NB300_312.out _ | refine IsS54.far ?_ NB300_318.out _) | exact HI300.out))) : g300 ≠ gb326)); have n14_ := am_ ((by rw [hg]; exact Nat.ne_of_gt (IsS54.lt (show IsS54 w _ g300 t298 t317 from by repeat (first | (with_reducible first | exact HI300.out | apply IsS54.alloc | apply IsS54.drewN | apply IsS54.drew | apply IsS54.set_1 | refine IsS54.far ?_ NB300_312.out _ | refine IsS54.far ?_ NB300_318.out _) | exact HI300.out))) : gb326 ≠ g300)); clear HO310; clear HO324; clear HI300; clear BK312; clear BK318; clear HB; have HO310 := n0_; have HO324 := n1_; have HI300 := n2_; have BK312 := n3_; have BK318 := n4_; have HB := n5_; have BK326 := n6_; have GW326 := n7_; have GE326 := n8_; have NB312_326 := n9_; have NB326_312 := n10_; have NB318_326 := n11_; have NB326_318 := n12_; have NB300_326 := n13_; have NB326_300 := n14_; clear n0_ n1_ n2_ n3_ n4_ n5_ n6_ n7_ n8_ n9_ n10_ n11_ n12_ n13_ n14_; clear hb hbox hg; have hnb27 := NB326_312.out; have hnc27 := NB312_326.out; have hnb28 := NB326_318.out; have hnc28 := NB318_326.out; have hnb29 := NB326_300.out; have hnc29 := NB300_326.out; have hcz30_0 : w26.cell? ⟨gb326, 0, none⟩ = some (.int .i64 0) := (blk_cell BK326.out 0).trans rfl; have hcz30_1 : w26.cell? ⟨gb326, 1, none⟩ = some (.int .i64 0) := (blk_cell BK326.out 1).trans rfl; have hcz30_2 : w26.cell? ⟨gb326, 2, none⟩ = some (.int .i64 0) := (blk_cell BK326.out 2).trans rfl; have hcz30_3 : w26.cell? ⟨gb326, 3, none⟩ = some (.slice none 0 0) := (blk_cell BK326.out 3).trans rfl; have hfz30_0 := blk_frozen BK326.out 0; have hfz30_1 := blk_frozen BK326.out 1; have hfz30_2 := blk_frozen BK326.out 2; have hfz30_3 := blk_frozen BK326.out 3; obtain ⟨Ao31, co31, eo31⟩ := Kd.R_slice HO324.out; subst eo31; have hcz32_0 : w26.cell? ⟨gb312, 0, none⟩ = some (.int .i64 t305) := (blk_cell BK312.out 0).trans rfl; have hcz32_1 : w26.cell? ⟨gb312, 1, none⟩ = some (.int .i64 t306) := (blk_cell BK312.out 1).trans rfl; have hcz32_2 : w26.cell? ⟨gb312, 2, none⟩ = some (.int .i64 t307) := (blk_cell BK312.out 2).trans rfl; have hcz32_3 : w26.cell? ⟨gb312, 3, none⟩ = some (.slice Ao18 t308.length co18) := (blk_cell BK312.out 3).trans rfl; have hfz32_0 := blk_frozen BK312.out 0; have hfz32_1 := blk_frozen BK312.out 1; have hfz32_2 := blk_frozen BK312.out 2; have hfz32_3 := blk_frozen BK312.out 3; have hcz33_0 : w26.cell? ⟨gb318, 0, none⟩ = some (.int .i64 t313) := (blk_cell BK318.out 0).trans rfl; have hcz33_1 : w26.cell? ⟨gb318, 1, none⟩ = some (.int .i64 t314) := (blk_cell BK318.out 1).trans rfl; have hcz33_2 : w26.cell? ⟨gb318, 2, none⟩ = some (.int .i64 t315) := (blk_cell BK318.out 2).trans rfl; have hcz33_3 : w26.cell? ⟨gb318, 3, none⟩ = some (.int .i64 t316) := (blk_cell BK318.out 3).trans rfl; have hfz33_0 := blk_frozen BK318.out 0; have hfz33_1 := blk_frozen BK318.out 1; have hfz33_2 := blk_frozen BK318.out 2; have hfz33_3 := blk_frozen BK318.out 3) | ((with_reducible refine gate_callee (f := 14) rfl ?_); refine goesL_ (some 48) rfl rfl Try.func14 (by kernel_rfl) rfl #[.agg #[.int .i64 t305, .int .i64 t306, .int .i64 t307, .slice Ao18 t308.length co18], .agg #[.int .i64 t319, .int .i64 t320, .int .i64 t321, .slice Ao31 t322.length co31], .int .i64 t313, .int .i64 t314] rfl q108_ ?_; (with_reducible refine (plane_Blit.calls k t305 t306 t307 _ _ t308 t319 t320 t321 _ _ t322 t313 t314 t327 t328 t329 t330 t333 _ ?side1 ?side2 ?side3 ?side4 A9.out).mono ?_); (case side1 => refine (Kd.R_reads' (e := 3) (base := w.heap.size) (ok := fun k_ => (True ∧ some k_ ≠ (.slice Ao31 t322.length co31 : Value).ownBlock)) (n := t308.length) (c := co18) ?_).2.2; exact q6_); (case side2 => exact (Kd.R_reads' HO310.out).2.1); (case side3 => refine (Kd.R_reads' (e := 3) (base := w.heap.size) (ok := fun k_ => (True ∧ some k_ ≠ (.slice Ao18 t308.length co18 : Value).ownBlock)) (n := t322.length) (c := co31) ?_).2.2; exact q7_); (case side4 => exact (Kd.R_reads' HO324.out).2.1); rintro e w34 ⟨v331, rfl, ho0, hb⟩; refine ⟨_, rfl, ?_⟩; have n0_ := am_ (Kd.R_elder' q6_ (Kd.R_base ho0) hb); have n1_ := am_ (Kd.R_elder' q7_ (Kd.R_base ho0) hb); have n2_ := am_ (Kd.R_lower (Kd.R_new' (Kd.R_new' ho0 (Kd.R_lt q6_)) (Kd.R_lt q7_)) (below_size q30_)); have n3_ := am_ (IsS54.below (show IsS54 w ((((w26.setCell ⟨gb326, 0, none⟩ (.int .i64 t319)).setCell ⟨gb326, 1, none⟩ (.int .i64 t320)).setCell ⟨gb326, 2, none⟩ (.int .i64 t321)).setCell ⟨gb326, 3, none⟩ (.slice Ao31 t322.length co31)) g300 t298 t317 from by repeat (first | (with_reducible first | exact HI300.out | apply IsS54.alloc | apply IsS54.drewN | apply IsS54.drew | apply IsS54.set_1 | refine IsS54.far ?_ NB300_312.out _ | refine IsS54.far ?_ NB300_318.out _ | refine IsS54.far ?_ NB300_326.out _) | exact HI300.out)) hb); have n4_ := am_ (blk_below (g := gb312) (o := .cells #[.int .i64 t305, .int .i64 t306, .int .i64 t307, .slice Ao18 t308.length co18] 26 (0, 0)) (by (with_reducible repeat (first | refine blk_drewN ?_ _ | refine blk_drew ?_ | refine blk_alloc ?_ _)); refine blk_far ?_ NB312_326.out _; (with_reducible repeat (first | refine blk_drewN ?_ _ | refine blk_drew ?_ | refine blk_alloc ?_ _)); refine blk_far ?_ NB312_326.out _; (with_reducible repeat (first | refine blk_drewN ?_ _ | refine blk_drew ?_ | refine blk_alloc ?_ _)); refine blk_far ?_ NB312_326.out _; (with_reducible repeat (first | refine blk_drewN ?_ _ | refine blk_drew ?_ | refine blk_alloc ?_ _)); refine blk_far ?_ NB312_326.out _; (with_reducible repeat (first | refine blk_drewN ?_ _ | refine blk_drew ?_ | refine blk_alloc ?_ _)); exact BK312.out) hb); have n5_ := am_ (blk_below (g := gb318) (o := .cells #[.int .i64 t313, .int .i64 t314, .int .i64 t315, .int .i64 t316] 31 (0, 0)) (by (with_reducible repeat (first | refine blk_drewN ?_ _ | refine blk_drew ?_ | refine blk_alloc ?_ _)); refine blk_far ?_ NB318_326.out _; (with_reducible repeat (first | refine blk_drewN ?_ _ | refine blk_drew ?_ | refine blk_alloc ?_ _)); refine blk_far ?_ NB318_326.out _; (with_reducible repeat (first | refine blk_drewN ?_ _ | refine blk_drew ?_ | refine blk_alloc ?_ _)); refine blk_far ?_ NB318_326.out _; (with_reducible repeat (first | refine blk_drewN ?_ _ | refine blk_drew ?_ | refine blk_alloc ?_ _)); refine blk_far ?_ NB318_326.out _; (with_reducible repeat (first | refine blk_drewN ?_ _ | refine blk_drew ?_ | refine blk_alloc ?_ _)); exact BK318.out) hb); have n6_ := am_ (blk_below (g := gb326) (o := .cells #[.int .i64 t319, .int .i64 t320, .int .i64 t321, .slice Ao31 t322.length co31] 26 (0, 0)) (by (with_reducible repeat (first | refine blk_drewN ?_ _ | refine blk_drew ?_ | refine blk_alloc ?_ _)); refine blk_put (cs := #[.int .i64 t319, .int .i64 t320, .int .i64 t321, .slice none 0 0]) ?_ 3 _ rfl; (with_reducible repeat (first | refine blk_drewN ?_ _ | refine blk_drew ?_ | refine blk_alloc ?_ _)); refine blk_put (cs := #[.int .i64 t319, .int .i64 t320, .int .i64 0, .slice none 0 0]) ?_ 2 _ rfl; (with_reducible repeat (first | refine blk_drewN ?_ _ | refine blk_drew ?_ | refine blk_alloc ?_ _)); refine blk_put (cs := #[.int .i64 t319, .int .i64 0, .int .i64 0, .slice none 0 0]) ?_ 1 _ rfl; (with_reducible repeat (first | refine blk_drewN ?_ _ | refine blk_drew ?_ | refine blk_alloc ?_ _)); refine blk_put (cs := #[.int .i64 0, .int .i64 0, .int .i64 0, .slice none 0 0]) ?_ 0 _ rfl; (with_reducible repeat (first | refine blk_drewN ?_ _ | refine blk_drew ?_ | refine blk_alloc ?_ _)); exact BK326.out) hb); have n7_ := am_ (below_step q30_ hb); clear HO310; clear HO324; clear HI300; clear BK312; clear BK318; clear BK326; clear HB; have HO310 := n0_; have HO324 := n1_; have HO332 := n2_; have HI300 := n3_; have BK312 := n4_; have BK318 := n5_; have BK326 := n6_; have HB := n7_; clear n0_ n1_ n2_ n3_ n4_ n5_ n6_ n7_; (try clear ho0)) | ((with_reducible refine gate_dst (N := 10) rfl ?_); (try (refine gate_guard (by rfl) ?_; dsimp only)); refine box_event ?hg (N := 10) ?hd (cs := #[.int .i64 0, .int .i64 0, .int .i64 0, .slice none 0 0]) (t := 26) ?hr ?_; (case hd => rfl); (case hg => rfl); (case hr => first | (go_simp; done) | (go_simp; rfl)); intro gb334 hg w35 hbox hb; have n0_ := am_ (Kd.R_below q160_ hb); have n1_ := am_ (Kd.R_below (by (with_reducible repeat (first | apply Kd.R_alloc | apply Kd.R_drewN | apply Kd.R_drew)); exact HO324.out) hb); have n2_ := am_ (Kd.R_below (by (with_reducible repeat (first | apply Kd.R_alloc | apply Kd.R_drewN | apply Kd.R_drew)); exact HO332.out) hb); have n3_ := am_ (IsS54.below (by repeat (first | (with_reducible first | exact HI300.out | apply IsS54.alloc | apply IsS54.drewN | apply IsS54.drew | apply IsS54.set_1 | refine IsS54.far ?_ NB300_312.out _ | refine IsS54.far ?_ NB300_318.out _ | refine IsS54.far ?_ NB300_326.out _) | exact HI300.out)) hb); have n4_ := am_ (blk_below (g := gb312) (o := .cells #[.int .i64 t305, .int .i64 t306, .int .i64 t307, .slice Ao18 t308.length co18] 26 (0, 0)) q140_ hb); have n5_ := am_ (blk_below (g := gb318) (o := .cells #[.int .i64 t313, .int .i64 t314, .int .i64 t315, .int .i64 t316] 31 (0, 0)) q141_ hb); have n6_ := am_ (blk_below (g := gb326) (o := .cells #[.int .i64 t319, .int .i64 t320, .int .i64 t321, .slice Ao31 t322.length co31] 26 (0, 0)) q142_ hb); have n7_ := am_ (below_step q30_ hb); have n8_ := am_ (hbox); have n9_ := am_ ((by rw [hg]; exact (below_size q30_) : w.heap.size ≤ gb334)); have n10_ := am_ ((by rw [hg]; exact (below_size q30_) : w.heap.size ≤ gb334)); have n11_ := am_ ((q28_ : gb312 ≠ gb334)); have n12_ := am_ ((q29_ : gb334 ≠ gb312)); have n13_ := am_ ((q39_ : gb318 ≠ gb334)); have n14_ := am_ ((q40_ : gb334 ≠ gb318)); have n15_ := am_ ((by rw [hg]; exact Nat.ne_of_lt (blk_lt (g := gb326) (o := .cells #[.int .i64 t319, .int .i64 t320, .int .i64 t321, .slice Ao31 t322.length co31] 26 (0, 0)) q142_) : gb326 ≠ gb334)); have n16_ := am_ ((by rw [hg]; exact Nat.ne_of_gt (blk_lt (g := gb326) (o := .cells #[.int .i64 t319, .int .i64 t320, .int .i64 t321, .slice Ao31 t322.length co31] 26 (0, 0)) q142_) : gb334 ≠ gb326)); have n17_ := am_ ((by rw [hg]; exact Nat.ne_of_lt (IsS54.lt (show IsS54 w _ g300 t298 t317 from by repeat (first | (with_reducible first | exact HI300.out | apply IsS54.alloc | apply IsS54.drewN | apply IsS54.drew | apply IsS54.set_1 | refine IsS54.far ?_ NB300_312.out _ | refine IsS54.far ?_ NB300_318.out _ | refine IsS54.far ?_ NB300_326.out _) | exact HI300.out))) : g300 ≠ gb334)); have n18_ := am_ ((by rw [hg]; exact Nat.ne_of_gt (IsS54.lt (show IsS54 w _ g300 t298 t317 from by repeat (first | (with_reducible first | exact HI300.out | apply IsS54.alloc | apply IsS54.drewN | apply IsS54.drew | apply IsS54.set_1 | refine IsS54.far ?_ NB300_312.out _ | refine IsS54.far ?_ NB300_318.out _ | refine IsS54.far ?_ NB300_326.out _) | exact HI300.out))) : gb334 ≠ g300)); clear HO310; clear HO324; clear HO332; clear HI300; clear BK312; clear BK318; clear BK326; clear HB; have HO310 := n0_; have HO324 := n1_; have HO332 := n2_; have HI300 := n3_; have BK312 := n4_; have BK318 := n5_; have BK326 := n6_; have HB := n7_; have BK334 := n8_; have GW334 := n9_; have GE334 := n10_; have NB312_334 := n11_; have NB334_312 := n12_; have NB318_334 := n13_; have NB334_318 := n14_; have NB326_334 := n15_; have NB334_326 := n16_; have NB300_334 := n17_; have NB334_300 := n18_; clear n0_ n1_ n2_ n3_ n4_ n5_ n6_ n7_ n8_ n9_ n10_ n11_ n12_ n13_ n14_ n15_ n16_ n17_ n18_; clear hb hbox hg; have hnb36 := NB334_312.out; have hnc36 := NB312_334.out; have hnb37 := NB334_318.out; have hnc37 := NB318_334.out; have hnb38 := NB334_326.out; have hnc38 := NB326_334.out; have hnb39 := NB334_300.out; have hnc39 := NB300_334.out; have hcz40_0 : w35.cell? ⟨gb334, 0, none⟩ = some (.int .i64 0) := (blk_cell BK334.out 0).trans rfl; have hcz40_1 : w35.cell? ⟨gb334, 1, none⟩ = some (.int .i64 0) := (blk_cell BK334.out 1).trans rfl; have hcz40_2 : w35.cell? ⟨gb334, 2, none⟩ = some (.int .i64 0) := (blk_cell BK334.out 2).trans rfl; have hcz40_3 : w35.cell? ⟨gb334, 3, none⟩ = some (.slice none 0 0) := (blk_cell BK334.out 3).trans rfl; have hfz40_0 := blk_frozen BK334.out 0; have hfz40_1 := blk_frozen BK334.out 1; have hfz40_2 := blk_frozen BK334.out 2; have hfz40_3 := blk_frozen BK334.out 3; obtain ⟨Ao41, co41, eo41⟩ := Kd.R_slice HO332.out; subst eo41))
 (try simp only [Act.put, List.setIfInBounds_toArray, List.set_cons_zero, List.set_cons_succ])
 go_cut [62] (fun v62 wc => ∃ (kq : Nat) (x62_9 : Bool), v62 = .bool x62_9 ∧ Aside0 (tilefarmlaw4_PlaneBlits.j0 kq a1 x62_9 t298 t317 t305 t306 t307 t308 t313 t314 t315 t316 t319 t320 t321 t322 = some r) ∧ Aside0 (kq ≤ k) ∧ Aside0 (Kd.R (Kd.int .i64) 3 wc w.heap.size (fun k_ => some k_ ≠ ((.slice Ao31 t322.length co31) : Value).ownBlock ∧ some k_ ≠ ((.slice Ao41 t330.length co41) : Value).ownBlock) (.slice Ao18 t308.length co18) t308) ∧ Aside0 (Kd.R (Kd.int .i64) 3 wc w.heap.size (fun k_ => some k_ ≠ ((.slice Ao18 t308.length co18) : Value).ownBlock ∧ some k_ ≠ ((.slice Ao41 t330.length co41) : Value).ownBlock) (.slice Ao31 t322.length co31) t322) ∧ Aside0 (Kd.R (Kd.int .i64) 3 wc w.heap.size (fun k_ => some k_ ≠ ((.slice Ao18 t308.length co18) : Value).ownBlock ∧ some k_ ≠ ((.slice Ao31 t322.length co31) : Value).ownBlock) (.slice Ao41 t330.length co41) t330) ∧ Aside0 (wc.heap[gb312]? = some (.cells #[.int .i64 t305, .int .i64 t306, .int .i64 t307, (.slice Ao18 t308.length co18)] 26 (0, 0))) ∧ Aside0 (wc.heap[gb318]? = some (.cells #[.int .i64 t313, .int .i64 t314, .int .i64 t315, .int .i64 t316] 31 (0, 0))) ∧ Aside0 (wc.heap[gb326]? = some (.cells #[.int .i64 t319, .int .i64 t320, .int .i64 t321, (.slice Ao31 t322.length co31)] 26 (0, 0))) ∧ Aside0 (wc.heap[gb334]? = some (.cells #[.int .i64 t327, .int .i64 t328, .int .i64 t329, (.slice Ao41 t330.length co41)] 26 (0, 0))) ∧ Aside0 (IsS54 w wc g300 t298 t317) ∧ Aside0 (Below w.heap.size w wc))
 case first =>
  have H := HC10.out
  clear HC10
  by_cases c42 : t325 = true
  ·subst c42
   have H1 : (if t333 = true then ((plane_Equal.f k t327 t328 t329 t330 t305 t306 t307 t308).bind fun t335 => (tilefarmlaw4_PlaneBlits.j0 k a1 (!t335) t298 t317 t305 t306 t307 t308 t313 t314 t315 t316 t319 t320 t321 t322)) else (tilefarmlaw4_PlaneBlits.j0 k a1 true t298 t317 t305 t306 t307 t308 t313 t314 t315 t316 t319 t320 t321 t322)) = some r := by rw [if_pos rfl] at H; exact H
   clear H
   have H := H1
   clear H1
   by_cases c43 : t333 = true
   ·subst c43
    have H1 : ((plane_Equal.f k t327 t328 t329 t330 t305 t306 t307 t308).bind fun t335 => (tilefarmlaw4_PlaneBlits.j0 k a1 (!t335) t298 t317 t305 t306 t307 t308 t313 t314 t315 t316 t319 t320 t321 t322)) = some r := by rw [if_pos rfl] at H; exact H
    clear H
    have H := H1
    clear H1
    replace H := Option.bind_eq_some_iff.mp H
    obtain ⟨t335, A440, H⟩ := H
    replace H : (tilefarmlaw4_PlaneBlits.j0 k a1 (!t335) t298 t317 t305 t306 t307 t308 t313 t314 t315 t316 t319 t320 t321 t322) = some r := H
    have A44 := am_ A440
    clear A440
    have H' := am_ H
    clear H
    have hnb45 := NB334_312.out
    have hnc45 := NB312_334.out
    have hnb46 := NB334_318.out
    have hnc46 := NB318_334.out
    have hnb47 := NB334_326.out
    have hnc47 := NB326_334.out
    have hnb48 := NB334_300.out
    have hnc48 := NB300_334.out
    have hcz49_0 : w35.cell? ⟨gb334, 0, none⟩ = some (.int .i64 0) := (blk_cell BK334.out 0).trans rfl
    have hcz49_1 : w35.cell? ⟨gb334, 1, none⟩ = some (.int .i64 0) := (blk_cell BK334.out 1).trans rfl
    have hcz49_2 : w35.cell? ⟨gb334, 2, none⟩ = some (.int .i64 0) := (blk_cell BK334.out 2).trans rfl
    have hcz49_3 : w35.cell? ⟨gb334, 3, none⟩ = some (.slice none 0 0) := (blk_cell BK334.out 3).trans rfl
    have hfz49_0 := blk_frozen BK334.out 0
    have hfz49_1 := blk_frozen BK334.out 1
    have hfz49_2 := blk_frozen BK334.out 2
    have hfz49_3 := blk_frozen BK334.out 3
    have hnb50 := NB312_318.out
    have hnc50 := NB318_312.out
    have hnb51 := NB312_326.out
    have hnc51 := NB326_312.out
    have hnb52 := NB312_300.out
    have hnc52 := NB300_312.out
    have hcz53_0 : w35.cell? ⟨gb312, 0, none⟩ = some (.int .i64 t305) := (blk_cell BK312.out 0).trans rfl
    have hcz53_1 : w35.cell? ⟨gb312, 1, none⟩ = some (.int .i64 t306) := (blk_cell BK312.out 1).trans rfl
    have hcz53_2 : w35.cell? ⟨gb312, 2, none⟩ = some (.int .i64 t307) := (blk_cell BK312.out 2).trans rfl
    have hcz53_3 : w35.cell? ⟨gb312, 3, none⟩ = some (.slice Ao18 t308.length co18) := (blk_cell BK312.out 3).trans rfl
    have hfz53_0 := blk_frozen BK312.out 0
    have hfz53_1 := blk_frozen BK312.out 1
    have hfz53_2 := blk_frozen BK312.out 2
    have hfz53_3 := blk_frozen BK312.out 3
    go_wp2_with (first | (go_at_call 15; (with_reducible refine (plane_Equal.calls k t327 t328 t329 _ _ t330 t305 t306 t307 _ _ t308 t335 _ ?side1 ?side2 ?side3 ?side4 A44.out).mono ?_); (case side1 => refine (Kd.R_reads' (e := 3) (base := w.heap.size) (ok := fun k_ => ((True ∧ some k_ ≠ (.slice Ao18 t308.length co18 : Value).ownBlock) ∧ some k_ ≠ (.slice Ao31 t322.length co31 : Value).ownBlock)) (n := t330.length) (c := co41) ?_).2.2; exact (by (with_reducible repeat (first | apply Kd.R_alloc | apply Kd.R_drewN | apply Kd.R_drew)); exact (Kd.R_mono (Kd.R_far (p := ⟨gb334, 3, none⟩) (Kd.R_far (p := ⟨gb334, 2, none⟩) (Kd.R_far (p := ⟨gb334, 1, none⟩) (Kd.R_far (p := ⟨gb334, 0, none⟩) (Kd.R_types HO332.out BK334.out (by decide)) (fun _ hk => hk.2) (.int .i64 t327)) (fun _ hk => hk.2) (.int .i64 t328)) (fun _ hk => hk.2) (.int .i64 t329)) (fun _ hk => hk.2) (.slice Ao41 t330.length co41)) (fun _ h_ => h_.1)))); (case side2 => exact (Kd.R_reads' HO332.out).2.1); (case side3 => refine (Kd.R_reads' (e := 3) (base := w.heap.size) (ok := fun k_ => ((True ∧ some k_ ≠ (.slice Ao31 t322.length co31 : Value).ownBlock) ∧ some k_ ≠ (.slice Ao41 t330.length co41 : Value).ownBlock)) (n := t308.length) (c := co18) ?_).2.2; exact (by (with_reducible repeat (first | apply Kd.R_alloc | apply Kd.R_drewN | apply Kd.R_drew)); exact (Kd.R_mono (Kd.R_far (p := ⟨gb334, 3, none⟩) (Kd.R_far (p := ⟨gb334, 2, none⟩) (Kd.R_far (p := ⟨gb334, 1, none⟩) (Kd.R_far (p := ⟨gb334, 0, none⟩) (Kd.R_types HO310.out BK334.out (by decide)) (fun _ hk => hk.2) (.int .i64 t327)) (fun _ hk => hk.2) (.int .i64 t328)) (fun _ hk => hk.2) (.int .i64 t329)) (fun _ hk => hk.2) (.slice Ao41 t330.length co41)) (fun _ h_ => h_.1)))); (case side4 => exact (Kd.R_reads' HO310.out).2.1); rintro e w54 ⟨rfl, hb⟩; have n0_ := am_ (Kd.R_below (by (with_reducible repeat (first | apply Kd.R_alloc | apply Kd.R_drewN | apply Kd.R_drew)); exact (Kd.R_mono (Kd.R_far (p := ⟨gb334, 3, none⟩) (Kd.R_far (p := ⟨gb334, 2, none⟩) (Kd.R_far (p := ⟨gb334, 1, none⟩) (Kd.R_far (p := ⟨gb334, 0, none⟩) (Kd.R_types HO310.out BK334.out (by decide)) (fun _ hk => hk.2) (.int .i64 t327)) (fun _ hk => hk.2) (.int .i64 t328)) (fun _ hk => hk.2) (.int .i64 t329)) (fun _ hk => hk.2) (.slice Ao41 t330.length co41)) (fun _ h_ => h_.1))) hb); have n1_ := am_ (Kd.R_below (by (with_reducible repeat (first | apply Kd.R_alloc | apply Kd.R_drewN | apply Kd.R_drew)); exact (Kd.R_mono (Kd.R_far (p := ⟨gb334, 3, none⟩) (Kd.R_far (p := ⟨gb334, 2, none⟩) (Kd.R_far (p := ⟨gb334, 1, none⟩) (Kd.R_far (p := ⟨gb334, 0, none⟩) (Kd.R_types HO324.out BK334.out (by decide)) (fun _ hk => hk.2) (.int .i64 t327)) (fun _ hk => hk.2) (.int .i64 t328)) (fun _ hk => hk.2) (.int .i64 t329)) (fun _ hk => hk.2) (.slice Ao41 t330.length co41)) (fun _ h_ => h_.1))) hb); have n2_ := am_ (Kd.R_below (by (with_reducible repeat (first | apply Kd.R_alloc | apply Kd.R_drewN | apply Kd.R_drew)); exact (Kd.R_mono (Kd.R_far (p := ⟨gb334, 3, none⟩) (Kd.R_far (p := ⟨gb334, 2, none⟩) (Kd.R_far (p := ⟨gb334, 1, none⟩) (Kd.R_far (p := ⟨gb334, 0, none⟩) (Kd.R_types HO332.out BK334.out (by decide)) (fun _ hk => hk.2) (.int .i64 t327)) (fun _ hk => hk.2) (.int .i64 t328)) (fun _ hk => hk.2) (.int .i64 t329)) (fun _ hk => hk.2) (.slice Ao41 t330.length co41)) (fun _ h_ => h_.1))) hb); have n3_ := am_ (IsS54.below (show IsS54 w ((((w35.setCell ⟨gb334, 0, none⟩ (.int .i64 t327)).setCell ⟨gb334, 1, none⟩ (.int .i64 t328)).setCell ⟨gb334, 2, none⟩ (.int .i64 t329)).setCell ⟨gb334, 3, none⟩ (.slice Ao41 t330.length co41)) g300 t298 t317 from by repeat (first | (with_reducible first | exact HI300.out | apply IsS54.alloc | apply IsS54.drewN | apply IsS54.drew | apply IsS54.set_1 | refine IsS54.far ?_ NB300_312.out _ | refine IsS54.far ?_ NB300_318.out _ | refine IsS54.far ?_ NB300_326.out _ | refine IsS54.far ?_ NB300_334.out _) | exact HI300.out)) hb); have n4_ := am_ (blk_below (g := gb312) (o := .cells #[.int .i64 t305, .int .i64 t306, .int .i64 t307, .slice Ao18 t308.length co18] 26 (0, 0)) q1_ hb); have n5_ := am_ (blk_below (g := gb318) (o := .cells #[.int .i64 t313, .int .i64 t314, .int .i64 t315, .int .i64 t316] 31 (0, 0)) q2_ hb); have n6_ := am_ (blk_below (g := gb326) (o := .cells #[.int .i64 t319, .int .i64 t320, .int .i64 t321, .slice Ao31 t322.length co31] 26 (0, 0)) q3_ hb); have n7_ := am_ (blk_below (g := gb334) (o := .cells #[.int .i64 t327, .int .i64 t328, .int .i64 t329, .slice Ao41 t330.length co41] 26 (0, 0)) q0_ hb); have n8_ := am_ (below_step q15_ hb); clear HO310; clear HO324; clear HO332; clear HI300; clear BK312; clear BK318; clear BK326; clear BK334; clear HB; have HO310 := n0_; have HO324 := n1_; have HO332 := n2_; have HI300 := n3_; have BK312 := n4_; have BK318 := n5_; have BK326 := n6_; have BK334 := n7_; have HB := n8_; clear n0_ n1_ n2_ n3_ n4_ n5_ n6_ n7_ n8_))
    go_meet
    case rel => exact ⟨_, (!t335), q167_, H', ⟨by first | omega | exact Nat.le_refl _⟩, ⟨by (with_reducible repeat (first | apply Kd.R_alloc | apply Kd.R_drewN | apply Kd.R_drew)); exact Kd.R_mono HO310.out (fun _ hk => ⟨hk.1.2, hk.2⟩)⟩, ⟨by (with_reducible repeat (first | apply Kd.R_alloc | apply Kd.R_drewN | apply Kd.R_drew)); exact Kd.R_mono HO324.out (fun _ hk => ⟨hk.1.2, hk.2⟩)⟩, ⟨by (with_reducible repeat (first | apply Kd.R_alloc | apply Kd.R_drewN | apply Kd.R_drew)); exact Kd.R_mono HO332.out (fun _ hk => ⟨hk.1.2, hk.2⟩)⟩, ⟨q140_⟩, ⟨q141_⟩, ⟨q142_⟩, ⟨q143_⟩, ⟨q14_⟩, ⟨q15_⟩⟩
   ·replace c43 := Bool.eq_false_iff.mpr c43
    subst c43
    have H1 : (tilefarmlaw4_PlaneBlits.j0 k a1 true t298 t317 t305 t306 t307 t308 t313 t314 t315 t316 t319 t320 t321 t322) = some r := by rw [if_neg (show ¬ (false = true) by decide)] at H; exact H
    clear H
    have H := H1
    clear H1
    have H' := am_ H
    clear H
    go_wp2
    go_meet
    case rel => exact ⟨_, (true), q167_, H', ⟨by first | omega | exact Nat.le_refl _⟩, ⟨by (with_reducible repeat (first | apply Kd.R_alloc | apply Kd.R_drewN | apply Kd.R_drew)); exact Kd.R_mono (Kd.R_far (p := ⟨gb334, 3, none⟩) (Kd.R_far (p := ⟨gb334, 2, none⟩) (Kd.R_far (p := ⟨gb334, 1, none⟩) (Kd.R_far (p := ⟨gb334, 0, none⟩) (Kd.R_types HO310.out BK334.out (by decide)) (fun _ hk => hk.2) (.int .i64 t327)) (fun _ hk => hk.2) (.int .i64 t328)) (fun _ hk => hk.2) (.int .i64 t329)) (fun _ hk => hk.2) (.slice Ao41 t330.length co41)) (fun _ hk => ⟨hk.1.1.2, hk.1.2⟩)⟩, ⟨by (with_reducible repeat (first | apply Kd.R_alloc | apply Kd.R_drewN | apply Kd.R_drew)); exact Kd.R_mono (Kd.R_far (p := ⟨gb334, 3, none⟩) (Kd.R_far (p := ⟨gb334, 2, none⟩) (Kd.R_far (p := ⟨gb334, 1, none⟩) (Kd.R_far (p := ⟨gb334, 0, none⟩) (Kd.R_types HO324.out BK334.out (by decide)) (fun _ hk => hk.2) (.int .i64 t327)) (fun _ hk => hk.2) (.int .i64 t328)) (fun _ hk => hk.2) (.int .i64 t329)) (fun _ hk => hk.2) (.slice Ao41 t330.length co41)) (fun _ hk => ⟨hk.1.1.2, hk.1.2⟩)⟩, ⟨by (with_reducible repeat (first | apply Kd.R_alloc | apply Kd.R_drewN | apply Kd.R_drew)); exact Kd.R_mono (Kd.R_far (p := ⟨gb334, 3, none⟩) (Kd.R_far (p := ⟨gb334, 2, none⟩) (Kd.R_far (p := ⟨gb334, 1, none⟩) (Kd.R_far (p := ⟨gb334, 0, none⟩) (Kd.R_types HO332.out BK334.out (by decide)) (fun _ hk => hk.2) (.int .i64 t327)) (fun _ hk => hk.2) (.int .i64 t328)) (fun _ hk => hk.2) (.int .i64 t329)) (fun _ hk => hk.2) (.slice Ao41 t330.length co41)) (fun _ hk => ⟨hk.1.1.2, hk.1.2⟩)⟩, ⟨q1_⟩, ⟨q2_⟩, ⟨q3_⟩, ⟨q0_⟩, ⟨q14_⟩, ⟨q15_⟩⟩
  ·replace c42 := Bool.eq_false_iff.mpr c42
   subst c42
   have H1 : (tilefarmlaw4_PlaneBlits.j0 k a1 true t298 t317 t305 t306 t307 t308 t313 t314 t315 t316 t319 t320 t321 t322) = some r := by rw [if_neg (show ¬ (false = true) by decide)] at H; exact H
   clear H
   have H := H1
   clear H1
   have H' := am_ H
   clear H
   go_wp2
   go_meet
   case rel => exact ⟨_, (true), q167_, H', ⟨by first | omega | exact Nat.le_refl _⟩, ⟨by (with_reducible repeat (first | apply Kd.R_alloc | apply Kd.R_drewN | apply Kd.R_drew)); exact Kd.R_mono (Kd.R_far (p := ⟨gb334, 3, none⟩) (Kd.R_far (p := ⟨gb334, 2, none⟩) (Kd.R_far (p := ⟨gb334, 1, none⟩) (Kd.R_far (p := ⟨gb334, 0, none⟩) (Kd.R_types HO310.out BK334.out (by decide)) (fun _ hk => hk.2) (.int .i64 t327)) (fun _ hk => hk.2) (.int .i64 t328)) (fun _ hk => hk.2) (.int .i64 t329)) (fun _ hk => hk.2) (.slice Ao41 t330.length co41)) (fun _ hk => ⟨hk.1.1.2, hk.1.2⟩)⟩, ⟨by (with_reducible repeat (first | apply Kd.R_alloc | apply Kd.R_drewN | apply Kd.R_drew)); exact Kd.R_mono (Kd.R_far (p := ⟨gb334, 3, none⟩) (Kd.R_far (p := ⟨gb334, 2, none⟩) (Kd.R_far (p := ⟨gb334, 1, none⟩) (Kd.R_far (p := ⟨gb334, 0, none⟩) (Kd.R_types HO324.out BK334.out (by decide)) (fun _ hk => hk.2) (.int .i64 t327)) (fun _ hk => hk.2) (.int .i64 t328)) (fun _ hk => hk.2) (.int .i64 t329)) (fun _ hk => hk.2) (.slice Ao41 t330.length co41)) (fun _ hk => ⟨hk.1.1.2, hk.1.2⟩)⟩, ⟨by (with_reducible repeat (first | apply Kd.R_alloc | apply Kd.R_drewN | apply Kd.R_drew)); exact Kd.R_mono (Kd.R_far (p := ⟨gb334, 3, none⟩) (Kd.R_far (p := ⟨gb334, 2, none⟩) (Kd.R_far (p := ⟨gb334, 1, none⟩) (Kd.R_far (p := ⟨gb334, 0, none⟩) (Kd.R_types HO332.out BK334.out (by decide)) (fun _ hk => hk.2) (.int .i64 t327)) (fun _ hk => hk.2) (.int .i64 t328)) (fun _ hk => hk.2) (.int .i64 t329)) (fun _ hk => hk.2) (.slice Ao41 t330.length co41)) (fun _ hk => ⟨hk.1.1.2, hk.1.2⟩)⟩, ⟨q1_⟩, ⟨q2_⟩, ⟨q3_⟩, ⟨q0_⟩, ⟨q14_⟩, ⟨q15_⟩⟩
 case rest =>
  clear HC10
  try clear c1
  try clear c2
  try clear p2
  try clear c3
  try clear c4
  try clear c5
  try clear p6
  try clear c7
  try clear c8
  try clear c9
  try clear c10
  try clear c12
  try clear c13
  try clear c14
  try clear c16
  try clear c21
  try clear c22
  try clear c27
  try clear c28
  try clear c29
  try clear c36
  try clear c37
  try clear c38
  try clear c39
  try clear c42
  try clear c43
  try clear c45
  try clear c46
  try clear c47
  try clear c48
  try clear c50
  try clear c51
  try clear c52
  try clear hcz17_0
  try clear hcz17_1
  try clear hcz17_2
  try clear hcz17_3
  try clear hcz23_0
  try clear hcz23_1
  try clear hcz23_2
  try clear hcz23_3
  try clear hcz24_0
  try clear hcz24_1
  try clear hcz24_2
  try clear hcz24_3
  try clear hcz30_0
  try clear hcz30_1
  try clear hcz30_2
  try clear hcz30_3
  try clear hcz32_0
  try clear hcz32_1
  try clear hcz32_2
  try clear hcz32_3
  try clear hcz33_0
  try clear hcz33_1
  try clear hcz33_2
  try clear hcz33_3
  try clear hcz40_0
  try clear hcz40_1
  try clear hcz40_2
  try clear hcz40_3
  try clear hcz49_0
  try clear hcz49_1
  try clear hcz49_2
  try clear hcz49_3
  try clear hcz53_0
  try clear hcz53_1
  try clear hcz53_2
  try clear hcz53_3
  try clear hfz17_0
  try clear hfz17_1
  try clear hfz17_2
  try clear hfz17_3
  try clear hfz23_0
  try clear hfz23_1
  try clear hfz23_2
  try clear hfz23_3
  try clear hfz24_0
  try clear hfz24_1
  try clear hfz24_2
  try clear hfz24_3
  try clear hfz30_0
  try clear hfz30_1
  try clear hfz30_2
  try clear hfz30_3
  try clear hfz32_0
  try clear hfz32_1
  try clear hfz32_2
  try clear hfz32_3
  try clear hfz33_0
  try clear hfz33_1
  try clear hfz33_2
  try clear hfz33_3
  try clear hfz40_0
  try clear hfz40_1
  try clear hfz40_2
  try clear hfz40_3
  try clear hfz49_0
  try clear hfz49_1
  try clear hfz49_2
  try clear hfz49_3
  try clear hfz53_0
  try clear hfz53_1
  try clear hfz53_2
  try clear hfz53_3
  obtain ⟨kq, x62_9, rfl, HA, HJ9, HO_313003, HO_327003, HO_335003, BK312, BK318, BK326, BK334, HI300, HB⟩ := hcut
  cases kq with
  | zero => exact absurd HA.out (by simp [tilefarmlaw4_PlaneBlits.j0])
  | succ kj9 =>
   have H := HA.out
   clear HA
   simp only [tilefarmlaw4_PlaneBlits.j0] at H
   by_cases c55 : x62_9 = true
   ·subst c55
    have H1 : (some false) = some r := by rw [if_pos rfl] at H; exact H
    clear H
    have H := H1
    clear H1
    exact absurd ((Option.some.inj H).trans HT.out) (by decide)
   ·replace c55 := Bool.eq_false_iff.mpr c55
    subst c55
    have H1 : (tilefarmlaw4_PlaneBlits.l0 kj9 a1 0 t298 t317 t305 t306 t307 t308 t313 t314 t315 t316 t319 t320 t321 t322) = some r := by rw [if_neg (show ¬ (false = true) by decide)] at H; exact H
    clear H
    have H := H1
    clear H1
    have H' := am_ H
    clear H
    go_wp2
    go_loopg [12] kj9 (fun kq v12 w' => ∃ (x12_2 : Int) (x301001_2 : Int) (x313003_2 : List Int) (x327003_2 : List Int) (x335003_2 : List Int) (u313003 : Value) (u327003 : Value) (u335003 : Value), v12 = .int .i64 x12_2 ∧ Aside0 (tilefarmlaw4_PlaneBlits.l0 kq a1 x12_2 t298 x301001_2 t305 t306 t307 x313003_2 t313 t314 t315 t316 t319 t320 t321 x327003_2 = some r) ∧ Aside0 (kq ≤ kj9) ∧ Aside0 (Kd.R (Kd.int .i64) 3 w' w.heap.size (fun k_ => some k_ ≠ (u327003 : Value).ownBlock ∧ some k_ ≠ (u335003 : Value).ownBlock) u313003 x313003_2) ∧ Aside0 (Kd.R (Kd.int .i64) 3 w' w.heap.size (fun k_ => some k_ ≠ (u313003 : Value).ownBlock ∧ some k_ ≠ (u335003 : Value).ownBlock) u327003 x327003_2) ∧ Aside0 (Kd.R (Kd.int .i64) 3 w' w.heap.size (fun k_ => some k_ ≠ (u313003 : Value).ownBlock ∧ some k_ ≠ (u327003 : Value).ownBlock) u335003 x335003_2) ∧ Aside0 (w'.heap[gb312]? = some (.cells #[.int .i64 t305, .int .i64 t306, .int .i64 t307, u313003] 26 (0, 0))) ∧ Aside0 (w'.heap[gb318]? = some (.cells #[.int .i64 t313, .int .i64 t314, .int .i64 t315, .int .i64 t316] 31 (0, 0))) ∧ Aside0 (w'.heap[gb326]? = some (.cells #[.int .i64 t319, .int .i64 t320, .int .i64 t321, u327003] 26 (0, 0))) ∧ Aside0 (w'.heap[gb334]? = some (.cells #[.int .i64 t327, .int .i64 t328, .int .i64 t329, u335003] 26 (0, 0))) ∧ Aside0 (IsS54 w w' g300 t298 x301001_2) ∧ Aside0 (Below w.heap.size w w'))
    case atStart => exact ⟨(0), (t317), (t308), (t322), (t330), (.slice Ao18 t308.length co18), (.slice Ao31 t322.length co31), (.slice Ao41 t330.length co41), q167_, H', ⟨Nat.le_refl _⟩, ⟨q147_⟩, ⟨q148_⟩, ⟨q149_⟩, ⟨q140_⟩, ⟨q141_⟩, ⟨q142_⟩, ⟨q143_⟩, ⟨q14_⟩, ⟨q15_⟩⟩
    case round =>
     clear H'
     try clear c1
     try clear c2
     try clear p2
     try clear c3
     try clear c4
     try clear c5
     try clear p6
     try clear c7
     try clear c8
     try clear c9
     try clear c10
     try clear c12
     try clear c13
     try clear c14
     try clear c16
     try clear c21
     try clear c22
     try clear c27
     try clear c28
     try clear c29
     try clear c36
     try clear c37
     try clear c38
     try clear c39
     try clear c42
     try clear c43
     try clear c45
     try clear c46
     try clear c47
     try clear c48
     try clear c50
     try clear c51
     try clear c52
     try clear c55
     try clear hcz17_0
     try clear hcz17_1
     try clear hcz17_2
     try clear hcz17_3
     try clear hcz23_0
     try clear hcz23_1
     try clear hcz23_2
     try clear hcz23_3
     try clear hcz24_0
     try clear hcz24_1
     try clear hcz24_2
     try clear hcz24_3
     try clear hcz30_0
     try clear hcz30_1
     try clear hcz30_2
     try clear hcz30_3
     try clear hcz32_0
     try clear hcz32_1
     try clear hcz32_2
     try clear hcz32_3
     try clear hcz33_0
     try clear hcz33_1
     try clear hcz33_2
     try clear hcz33_3
     try clear hcz40_0
     try clear hcz40_1
     try clear hcz40_2
     try clear hcz40_3
     try clear hcz49_0
     try clear hcz49_1
     try clear hcz49_2
     try clear hcz49_3
     try clear hcz53_0
     try clear hcz53_1
     try clear hcz53_2
     try clear hcz53_3
     try clear hfz17_0
     try clear hfz17_1
     try clear hfz17_2
     try clear hfz17_3
     try clear hfz23_0
     try clear hfz23_1
     try clear hfz23_2
     try clear hfz23_3
     try clear hfz24_0
     try clear hfz24_1
     try clear hfz24_2
     try clear hfz24_3
     try clear hfz30_0
     try clear hfz30_1
     try clear hfz30_2
     try clear hfz30_3
     try clear hfz32_0
     try clear hfz32_1
     try clear hfz32_2
     try clear hfz32_3
     try clear hfz33_0
     try clear hfz33_1
     try clear hfz33_2
     try clear hfz33_3
     try clear hfz40_0
     try clear hfz40_1
     try clear hfz40_2
     try clear hfz40_3
     try clear hfz49_0
     try clear hfz49_1
     try clear hfz49_2
     try clear hfz49_3
     try clear hfz53_0
     try clear hfz53_1
     try clear hfz53_2
     try clear hfz53_3
     try clear p2
     try clear p6
     obtain ⟨x12_2, x301001_2, x313003_2, x327003_2, x335003_2, u313003, u327003, u335003, rfl, HA, HK2, HO_313003, HO_327003, HO_335003, BK312, BK318, BK326, BK334, HI300, HB⟩ := hrel
     cases gk with
     | zero => exact absurd HA.out (by simp [tilefarmlaw4_PlaneBlits.l0])
     | succ k2 =>
      have H := HA.out
      clear HA
      simp only [tilefarmlaw4_PlaneBlits.l0] at H
      by_cases c56 : x12_2 < (x327003_2.length : Int)
      ·rw [if_pos c56] at H
       have c56b0 : decide (x12_2 < (x327003_2.length : Int)) = true := decide_eq_true c56
       clear c56
       replace H := Option.bind_eq_some_iff.mp H
       obtain ⟨⟨t336, t337⟩, A570, H⟩ := H
       replace H : (if 0 ≤ x12_2 then (tilefarmlaw4_PlaneBlits.l0 k2 a1 (wrap64 (x12_2 + 1)) t298 t337 t305 t306 t307 x313003_2 t313 t314 t315 t316 t319 t320 t321 (x327003_2.set (x12_2 : Int).toNat t336)) else (none)) = some r := H
       have A57 := am_ A570
       clear A570
       by_cases c58 : 0 ≤ x12_2
       ·rw [if_pos c58] at H
        have c58b0 : decide (0 ≤ x12_2) = true := decide_eq_true c58
        clear c58
        obtain ⟨y338, hy338⟩ : ∃ y_ : List Int, y_ = (x327003_2.set (x12_2 : Int).toNat t336) := ⟨_, rfl⟩
        replace H : (tilefarmlaw4_PlaneBlits.l0 k2 a1 (wrap64 (x12_2 + 1)) t298 t337 t305 t306 t307 x313003_2 t313 t314 t315 t316 t319 t320 t321 y338) = some r := by first | (rw [hy338]; with_reducible exact H) | (have H2_ := (Option.bind_some _ _).symm.trans H; rw [hy338]; with_reducible exact H2_) | (have H2_ := (Option.bind_some _ _).symm.trans H; with_reducible exact H2_) | with_reducible exact H | (rw [hy338]; exact H) | exact H
        have Ny338 := am_ hy338
        clear hy338
        have H' := am_ H
        clear H
        have hnb60 := NB326_312.out
        have hnc60 := NB312_326.out
        have hnb61 := NB326_318.out
        have hnc61 := NB318_326.out
        have hnb62 := NB326_334.out
        have hnc62 := NB334_326.out
        have hnb63 := NB326_300.out
        have hnc63 := NB300_326.out
        have hcz64_0 : wr.cell? ⟨gb326, 0, none⟩ = some (.int .i64 t319) := (blk_cell BK326.out 0).trans rfl
        have hcz64_1 : wr.cell? ⟨gb326, 1, none⟩ = some (.int .i64 t320) := (blk_cell BK326.out 1).trans rfl
        have hcz64_2 : wr.cell? ⟨gb326, 2, none⟩ = some (.int .i64 t321) := (blk_cell BK326.out 2).trans rfl
        have hcz64_3 : wr.cell? ⟨gb326, 3, none⟩ = some (u327003) := (blk_cell BK326.out 3).trans rfl
        have hfz64_0 := blk_frozen BK326.out 0
        have hfz64_1 := blk_frozen BK326.out 1
        have hfz64_2 := blk_frozen BK326.out 2
        have hfz64_3 := blk_frozen BK326.out 3
        obtain ⟨Ao65, co65, eo65⟩ := Kd.R_slice HO_327003.out
        subst eo65
        try go_wp2
        have n0_ := am_ (Kd.R_drew HO_313003.out)
        have n1_ := am_ (Kd.R_drew HO_327003.out)
        have n2_ := am_ (Kd.R_drew HO_335003.out)
        have n3_ := am_ (blk_drew BK312.out)
        have n4_ := am_ (blk_drew BK318.out)
        have n5_ := am_ (blk_drew BK326.out)
        have n6_ := am_ (blk_drew BK334.out)
        have n7_ := am_ (IsS54.drew HI300.out)
        have n8_ := am_ (below_drew1 HB.out)
        clear HO_313003
        clear HO_327003
        clear HO_335003
        clear BK312
        clear BK318
        clear BK326
        clear BK334
        clear HI300
        clear HB
        have HO_313003 := n0_
        have HO_327003 := n1_
        have HO_335003 := n2_
        have BK312 := n3_
        have BK318 := n4_
        have BK326 := n5_
        have BK334 := n6_
        have HI300 := n7_
        have HB := n8_
        clear n0_ n1_ n2_ n3_ n4_ n5_ n6_ n7_ n8_
        refine start_ (n := 10) (S := fun w' => w'.cell? ⟨gb326, 0, none⟩ = some (.int .i64 t319) ∧ w'.cell? ⟨gb326, 1, none⟩ = some (.int .i64 t320) ∧ w'.cell? ⟨gb326, 2, none⟩ = some (.int .i64 t321) ∧ w'.cell? ⟨gb326, 3, none⟩ = some (.slice Ao65 x327003_2.length co65) ∧ w'.cell? ⟨gb312, 0, none⟩ = some (.int .i64 t305) ∧ w'.cell? ⟨gb312, 1, none⟩ = some (.int .i64 t306) ∧ w'.cell? ⟨gb312, 2, none⟩ = some (.int .i64 t307) ∧ w'.cell? ⟨gb312, 3, none⟩ = some (u313003)) (ds := [9]) #[false, false, false, false, false, false, false, false, false, false] (by kernel_rfl) rfl rfl ⟨(blk_cell BK326.out 0).trans rfl, (blk_cell BK326.out 1).trans rfl, (blk_cell BK326.out 2).trans rfl, (blk_cell BK326.out 3).trans rfl, (blk_cell BK312.out 0).trans rfl, (blk_cell BK312.out 1).trans rfl, (blk_cell BK312.out 2).trans rfl, (blk_cell BK312.out 3).trans rfl⟩ (fun hHeld => ?_); refine with_tabW tilefarmlaw4_PlaneBlits.tab11 tilefarmlaw4_PlaneBlits.bits11 (fun HT_ HW_ => ?_)
        generalize wr.drew = w66 at HO_313003 HO_327003 HO_335003 BK312 BK318 BK326 BK334 HI300 HB hHeld ⊢
        refine pure_ (i := 0) (N := some 70) (v := ?_) (a' := ?_) #[true, false, false, false, false, false, false, false, false, false] rfl rfl (any_of HT_.out (by kernel_rfl)) (fun _ _ _ h => h) (Or.inl ⟨by rfl, ?_⟩) ?_ ?_
        rotate_left
        ·intro w'
         go_simp
         with_reducible rfl
        rotate_left
        ·simp only [Act.put, List.setIfInBounds_toArray, List.set_cons_zero, List.set_cons_succ, i64_w, i32_w]
         rfl
        refine pure_ (i := 2) (N := some 72) (v := ?_) (a' := ?_) #[true, false, true, false, false, false, false, false, false, false] rfl rfl (any_of HT_.out (by kernel_rfl)) (fun _ _ _ h => h) (Or.inl ⟨by rfl, ?_⟩) ?_ ?_
        rotate_left
        ·intro w'
         go_simp
         with_reducible rfl
        rotate_left
        ·simp only [Act.put, List.setIfInBounds_toArray, List.set_cons_zero, List.set_cons_succ, i64_w, i32_w]
         rfl
        refine pure_ (i := 3) (N := some 73) (v := ?_) (a' := ?_) #[true, false, true, true, false, false, false, false, false, false] rfl rfl (any_of HT_.out (by kernel_rfl)) (fun _ _ _ h => h) (Or.inl ⟨by rfl, ?_⟩) ?_ ?_
        rotate_left
        ·intro w'
         go_simp
         with_reducible rfl
        rotate_left
        ·simp only [Act.put, List.setIfInBounds_toArray, List.set_cons_zero, List.set_cons_succ, i64_w, i32_w]
         rfl
        refine pure_ (i := 4) (N := some 74) (v := ?_) (a' := ?_) #[true, false, true, true, true, false, false, false, false, false] rfl rfl (any_of HT_.out (by kernel_rfl)) (fun _ _ _ h => h) (Or.inl ⟨by rfl, ?_⟩) ?_ ?_
        rotate_left
        ·intro w'
         go_simp
         with_reducible rfl
        rotate_left
        ·simp only [Act.put, List.setIfInBounds_toArray, List.set_cons_zero, List.set_cons_succ, i64_w, i32_w]
         rfl
        refine take_ (i := 1) (N := some 71) (v := ?_) (a' := ?_) #[true, true, true, true, true, false, false, false, false, false] rfl rfl (take_ofW HT_.out HW_.out (by kernel_rfl)) (fun _ _ _ h => h) (Or.inl ⟨by rfl, ?_⟩) hHeld ?_ ?_
        rotate_left
        ·rintro w' ⟨s0, s1, s2, s3, s4, s5, s6, s7⟩
         go_simp
         with_reducible rfl
        rotate_left
        ·simp only [Act.put, List.setIfInBounds_toArray, List.set_cons_zero, List.set_cons_succ, i64_w, i32_w]
         rfl
        refine take_ (i := 5) (N := some 75) (v := ?_) (a' := ?_) #[true, true, true, true, true, true, false, false, false, false] rfl rfl (take_ofW HT_.out HW_.out (by kernel_rfl)) (fun _ _ _ h => h) (Or.inl ⟨by rfl, ?_⟩) hHeld ?_ ?_
        rotate_left
        ·rintro w' ⟨s0, s1, s2, s3, s4, s5, s6, s7⟩
         go_simp
         with_reducible rfl
        rotate_left
        ·simp only [Act.put, List.setIfInBounds_toArray, List.set_cons_zero, List.set_cons_succ, i64_w, i32_w]
         rfl
        refine pure_ (i := 6) (N := some 76) (v := ?_) (a' := ?_) #[true, true, true, true, true, true, true, false, false, false] rfl rfl (any_of HT_.out (by kernel_rfl)) (fun _ _ _ h => h) (Or.inl ⟨by rfl, ?_⟩) ?_ ?_
        rotate_left
        ·intro w'
         go_simp
         with_reducible rfl
        rotate_left
        ·simp only [Act.put, List.setIfInBounds_toArray, List.set_cons_zero, List.set_cons_succ, i64_w, i32_w]
         rfl
        refine one_ (i := 7) (N := some 77) #[true, true, true, true, true, true, true, true, false, false] rfl rfl (one_of HT_.out (by kernel_rfl)) (by decide) (fun K hK => ?_)
        refine goes_ Try.func10 (by kernel_rfl) rfl #[.pointer (some ⟨g300, 0, none⟩), .int .i64 (wrap64 (t307 + 1))] (by rfl) rfl rfl q108_ ?_
        with_reducible refine (tilefarmgen_Tape_Next.calls g300 t298 x301001_2 (wrap64 (t307 + 1)) t336 t337 w _ ?side1 ?side2 A57.out).mono ?_
        (case side1 => repeat (first | (with_reducible first | exact HI300.out | apply IsS54.alloc | apply IsS54.drewN | apply IsS54.drew | apply IsS54.set_1 | refine IsS54.far ?_ NB300_312.out _ | refine IsS54.far ?_ NB300_318.out _ | refine IsS54.far ?_ NB300_326.out _ | refine IsS54.far ?_ NB300_334.out _) | exact HI300.out))
        (case side2 => repeat (first | (with_reducible first | exact HB.out | apply below_alloc | apply pw_below_drewN | apply below_drew1 | refine below_set ?_ (IsS54.ge HI300.out) | refine below_set ?_ GE312.out | refine below_set ?_ GE318.out | refine below_set ?_ GE326.out | refine below_set ?_ GE334.out) | exact HB.out))
        rintro e w67 ⟨rfl, hi, hb, hk⟩
        refine ⟨_, rfl, ?_⟩
        have n0_ := am_ (Kd.R_mono (Kd.R_keep (IsS54.apart (show IsS54 w _ g300 t298 x301001_2 from by repeat (first | (with_reducible first | exact HI300.out | apply IsS54.alloc | apply IsS54.drewN | apply IsS54.drew | apply IsS54.set_1 | refine IsS54.far ?_ NB300_312.out _ | refine IsS54.far ?_ NB300_318.out _ | refine IsS54.far ?_ NB300_326.out _ | refine IsS54.far ?_ NB300_334.out _) | exact HI300.out)) q147_ (by decide)) hk (fun _ h => h.2)) (fun _ h => h.1))
        have n1_ := am_ (Kd.R_mono (Kd.R_keep (IsS54.apart (show IsS54 w _ g300 t298 x301001_2 from by repeat (first | (with_reducible first | exact HI300.out | apply IsS54.alloc | apply IsS54.drewN | apply IsS54.drew | apply IsS54.set_1 | refine IsS54.far ?_ NB300_312.out _ | refine IsS54.far ?_ NB300_318.out _ | refine IsS54.far ?_ NB300_326.out _ | refine IsS54.far ?_ NB300_334.out _) | exact HI300.out)) q148_ (by decide)) hk (fun _ h => h.2)) (fun _ h => h.1))
        have n2_ := am_ (Kd.R_mono (Kd.R_keep (IsS54.apart (show IsS54 w _ g300 t298 x301001_2 from by repeat (first | (with_reducible first | exact HI300.out | apply IsS54.alloc | apply IsS54.drewN | apply IsS54.drew | apply IsS54.set_1 | refine IsS54.far ?_ NB300_312.out _ | refine IsS54.far ?_ NB300_318.out _ | refine IsS54.far ?_ NB300_326.out _ | refine IsS54.far ?_ NB300_334.out _) | exact HI300.out)) q149_ (by decide)) hk (fun _ h => h.2)) (fun _ h => h.1))
        have n3_ := am_ (KeepBut.blk hk (g' := gb312) (o := .cells #[.int .i64 t305, .int .i64 t306, .int .i64 t307, u313003] 26 (0, 0)) q140_ NB312_300.out (by simp))
        have n4_ := am_ (KeepBut.blk hk (g' := gb318) (o := .cells #[.int .i64 t313, .int .i64 t314, .int .i64 t315, .int .i64 t316] 31 (0, 0)) q141_ NB318_300.out (by simp))
        have n5_ := am_ (KeepBut.blk hk (g' := gb326) (o := .cells #[.int .i64 t319, .int .i64 t320, .int .i64 t321, .slice Ao65 x327003_2.length co65] 26 (0, 0)) q142_ NB326_300.out (by simp))
        have n6_ := am_ (KeepBut.blk hk (g' := gb334) (o := .cells #[.int .i64 t327, .int .i64 t328, .int .i64 t329, u335003] 26 (0, 0)) q143_ NB334_300.out (by simp))
        have n7_ := am_ (hb)
        have n8_ := am_ (hi)
        clear HO_313003
        clear HO_327003
        clear HO_335003
        clear BK312
        clear BK318
        clear BK326
        clear BK334
        clear HB
        clear HI300
        have HO_313003 := n0_
        have HO_327003 := n1_
        have HO_335003 := n2_
        have BK312 := n3_
        have BK318 := n4_
        have BK326 := n5_
        have BK334 := n6_
        have HB := n7_
        have HI300 := n8_
        clear n0_ n1_ n2_ n3_ n4_ n5_ n6_ n7_ n8_
        (try clear hb)
        (try clear hb2)
        (try clear hk)
        (try clear hi)
        have p59 : 0 ≤ (x12_2 : Int) := of_decide_eq_true q166_
        have q59 : (x12_2 : Int) < ((x327003_2.length : Int) : Int) := of_decide_eq_true q166_
        obtain ⟨go59, co59, eo59, gb59, gl59, cl59, HG59⟩ := Kd.R_form HO_327003.out (by omega)
        (first | cases eo59 | (injection eo59 with ea_ en_ ec_; (first | subst ea_ | (injection ea_ with ea_; subst ea_)); subst ec_; clear en_))
        have GB59 := am_ gb59
        have GG59 := am_ HG59
        clear gb59 gl59 HG59
        obtain ⟨hx59_0, hf59_0⟩ := Kd.R_celln 0 HO_327003.out (x12_2 : Int) p59 q59
        replace p59 := eq_true p59
        replace q59 := eq_true q59
        have HN300_go59 := am_ (show g300 ≠ go59 from by have h_ := IsS54.own_ne HI300.out HO_327003.out (by decide); intro e_; exact h_ (by rw [e_]; rfl))
        have HP68 := Kd.R_putn HO_327003.out (x12_2 : Int) t336
        rw [← Ny338.out] at HP68
        have HQ68 := am_ HP68
        clear HP68
        refine hK.out _ _ ⟨(blk_cell BK326.out 0).trans rfl, (blk_cell BK326.out 1).trans rfl, (blk_cell BK326.out 2).trans rfl, (blk_cell BK326.out 3).trans rfl, (blk_cell BK312.out 0).trans rfl, (blk_cell BK312.out 1).trans rfl, (blk_cell BK312.out 2).trans rfl, (blk_cell BK312.out 3).trans rfl⟩ (fun hHeld => ?_)
        clear hK K
        refine norm_ (a' := ?_) ?_ ?_
        rotate_left
        ·show Act.put _ (some 77) _ = _
         simp only [Act.put, List.setIfInBounds_toArray, List.set_cons_zero, List.set_cons_succ, i64_w, i32_w]
         rfl
        refine pure_ (i := 8) (N := some 78) (v := ?_) (a' := ?_) #[true, true, true, true, true, true, true, true, true, false] rfl rfl (any_of HT_.out (by kernel_rfl)) (fun _ _ _ h => h) (Or.inl ⟨by rfl, ?_⟩) ?_ ?_
        rotate_left
        ·intro w'
         go_simp
         with_reducible rfl
        rotate_left
        ·simp only [Act.put, List.setIfInBounds_toArray, List.set_cons_zero, List.set_cons_succ, i64_w, i32_w]
         rfl
        refine last_ (i := 9) (N := none) #[true, true, true, true, true, true, true, true, true, true] rfl rfl (one_of HT_.out (by kernel_rfl)) (by decide) (fun K hK => ?_)
        refine skip_ (w1 := ?_) (by rfl) rfl ?_ ?_
        rotate_left
        ·go_simp
         rfl
        refine hK.out _ _ ?_
        clear hK K
        refine done_ (done_of HT_.out (by kernel_rfl)) ?_
        try go_wp2
        go_roundg k2
        case measure => have := HJ9.out; have := HK2.out; omega
        case rel => exact ⟨(wrap64 (x12_2 + 1)), (t337), (x313003_2), (y338), (x335003_2), (u313003), (.slice (some ⟨go59, 0, none⟩) x327003_2.length co65), (u335003), q167_, H', ⟨by have := HJ9.out; have := HK2.out; omega⟩, ⟨by (with_reducible repeat (first | apply Kd.R_alloc | apply Kd.R_drewN | apply Kd.R_drew)); exact Kd.R_mono (Kd.R_far (p := ⟨go59, (x12_2 : Int).toNat, none⟩) (Kd.R_mono HO_313003.out (fun k_ hk => (⟨hk, fun e_ => hk.1 (by rw [e_]; rfl)⟩ : _ ∧ k_ ≠ go59))) (fun _ hk => hk.2) (.int .i64 t336)) (fun _ hk => ⟨hk.1.1, hk.1.2⟩)⟩, ⟨by (with_reducible repeat (first | apply Kd.R_alloc | apply Kd.R_drewN | apply Kd.R_drew)); exact HQ68.out⟩, ⟨by (with_reducible repeat (first | apply Kd.R_alloc | apply Kd.R_drewN | apply Kd.R_drew)); exact Kd.R_mono (Kd.R_far (p := ⟨go59, (x12_2 : Int).toNat, none⟩) (Kd.R_mono HO_335003.out (fun k_ hk => (⟨hk, fun e_ => hk.2 (by rw [e_]; rfl)⟩ : _ ∧ k_ ≠ go59))) (fun _ hk => hk.2) (.int .i64 t336)) (fun _ hk => ⟨hk.1.1, hk.1.2⟩)⟩, ⟨by (with_reducible repeat (first | refine blk_drewN ?_ _ | refine blk_drew ?_ | refine blk_alloc ?_ _)); refine blk_far ?_ (by have h_ := Kd.R_ne HO_327003.out BK312.out (by decide); intro e_; exact h_ (by rw [e_]; rfl)) _; (with_reducible repeat (first | refine blk_drewN ?_ _ | refine blk_drew ?_ | refine blk_alloc ?_ _)); exact BK312.out⟩, ⟨by (with_reducible repeat (first | refine blk_drewN ?_ _ | refine blk_drew ?_ | refine blk_alloc ?_ _)); refine blk_far ?_ (by have h_ := Kd.R_ne HO_327003.out BK318.out (by decide); intro e_; exact h_ (by rw [e_]; rfl)) _; (with_reducible repeat (first | refine blk_drewN ?_ _ | refine blk_drew ?_ | refine blk_alloc ?_ _)); exact BK318.out⟩, ⟨by (with_reducible repeat (first | refine blk_drewN ?_ _ | refine blk_drew ?_ | refine blk_alloc ?_ _)); refine blk_far ?_ (by have h_ := Kd.R_ne HO_327003.out BK326.out (by decide); intro e_; exact h_ (by rw [e_]; rfl)) _; (with_reducible repeat (first | refine blk_drewN ?_ _ | refine blk_drew ?_ | refine blk_alloc ?_ _)); exact BK326.out⟩, ⟨by (with_reducible repeat (first | refine blk_drewN ?_ _ | refine blk_drew ?_ | refine blk_alloc ?_ _)); refine blk_far ?_ (by have h_ := Kd.R_ne HO_327003.out BK334.out (by decide); intro e_; exact h_ (by rw [e_]; rfl)) _; (with_reducible repeat (first | refine blk_drewN ?_ _ | refine blk_drew ?_ | refine blk_alloc ?_ _)); exact BK334.out⟩, ⟨by repeat (first | (with_reducible first | exact HI300.out | apply IsS54.alloc | apply IsS54.drewN | apply IsS54.drew | apply IsS54.set_1 | refine IsS54.far ?_ HN300_go59.out _ | refine IsS54.far ?_ NB300_312.out _ | refine IsS54.far ?_ NB300_318.out _ | refine IsS54.far ?_ NB300_326.out _ | refine IsS54.far ?_ NB300_334.out _) | exact HI300.out)⟩, ⟨by repeat (first | (with_reducible first | exact HB.out | apply below_alloc | apply pw_below_drewN | apply below_drew1 | refine below_set ?_ GB59.out | refine below_set ?_ (IsS54.ge HI300.out) | refine below_set ?_ GE312.out | refine below_set ?_ GE318.out | refine below_set ?_ GE326.out | refine below_set ?_ GE334.out) | exact HB.out)⟩⟩
       ·rw [if_neg c58] at H
        exact absurd H (by simp)
      ·rw [if_neg c56] at H
       have c56b0 : decide (x12_2 < (x327003_2.length : Int)) = false := decide_eq_false c56
       clear c56
       replace H := Option.bind_eq_some_iff.mp H
       obtain ⟨⟨t339, t340, t341, t342, t345⟩, A690, H⟩ := H
       replace H : ((plane_Crop.f k2 t339 t340 t341 t342 t313 t314 t315 t316).bind fun bt347 => ((tilefarmgen_Mod.f a1 (x313003_2.length : Int)).bind fun t355 => (if t305 = 0 then (none) else ((tilefarmref2_Contains.f t313 t314 t315 t316 (Int.tmod t355 t305) (wrap64 (Int.tdiv t355 t305))).bind fun t356 => (if t345 = true then (if bt347.2.2.2.2 = true then ((plane_Equal.f k2 bt347.1 bt347.2.1 bt347.2.2.1 bt347.2.2.2.1 t319 t320 t321 x327003_2).bind fun t357 => (if t357 = true then (if (t342.length : Int) = (x313003_2.length : Int) then (if t356 = true then ((tilefarmlaw4_sane.f k2).bind fun t358 => (some t358)) else (if 0 ≤ t355 then (if t355 < (t342.length : Int) then (if t355 < (x313003_2.length : Int) then (if (rd t342 t355) = (rd x313003_2 t355) then ((tilefarmlaw4_sane.f k2).bind fun t361 => (some t361)) else (some false)) else (none)) else (none)) else (none))) else (some false)) else (some false))) else (some false)) else (some false)))))) = some r := H
       have A69 := am_ A690
       clear A690
       replace H := Option.bind_eq_some_iff.mp H
       obtain ⟨⟨t347, t348, t349, t350, t353⟩, A700, H⟩ := H
       replace H : ((tilefarmgen_Mod.f a1 (x313003_2.length : Int)).bind fun t355 => (if t305 = 0 then (none) else ((tilefarmref2_Contains.f t313 t314 t315 t316 (Int.tmod t355 t305) (wrap64 (Int.tdiv t355 t305))).bind fun t356 => (if t345 = true then (if t353 = true then ((plane_Equal.f k2 t347 t348 t349 t350 t319 t320 t321 x327003_2).bind fun t357 => (if t357 = true then (if (t342.length : Int) = (x313003_2.length : Int) then (if t356 = true then ((tilefarmlaw4_sane.f k2).bind fun t358 => (some t358)) else (if 0 ≤ t355 then (if t355 < (t342.length : Int) then (if t355 < (x313003_2.length : Int) then (if (rd t342 t355) = (rd x313003_2 t355) then ((tilefarmlaw4_sane.f k2).bind fun t361 => (some t361)) else (some false)) else (none)) else (none)) else (none))) else (some false)) else (some false))) else (some false)) else (some false))))) = some r := H
       have A70 := am_ A700
       clear A700
       replace H := Option.bind_eq_some_iff.mp H
       obtain ⟨t355, A710, H⟩ := H
       replace H : (if t305 = 0 then (none) else ((tilefarmref2_Contains.f t313 t314 t315 t316 (Int.tmod t355 t305) (wrap64 (Int.tdiv t355 t305))).bind fun t356 => (if t345 = true then (if t353 = true then ((plane_Equal.f k2 t347 t348 t349 t350 t319 t320 t321 x327003_2).bind fun t357 => (if t357 = true then (if (t342.length : Int) = (x313003_2.length : Int) then (if t356 = true then ((tilefarmlaw4_sane.f k2).bind fun t358 => (some t358)) else (if 0 ≤ t355 then (if t355 < (t342.length : Int) then (if t355 < (x313003_2.length : Int) then (if (rd t342 t355) = (rd x313003_2 t355) then ((tilefarmlaw4_sane.f k2).bind fun t361 => (some t361)) else (some false)) else (none)) else (none)) else (none))) else (some false)) else (some false))) else (some false)) else (some false)))) = some r := H
       have A71 := am_ A710
       clear A710
       by_cases c72 : t305 = 0
       ·rw [if_pos c72] at H
        exact absurd H (by simp)
       ·rw [if_neg c72] at H
        have c72b0 : (t305 == 0) = false := beq_eq_false_iff_ne.mpr c72
        have c72b1 : (t305 != 0) = true := bne_iff_ne.mpr c72
        replace H := Option.bind_eq_some_iff.mp H
        obtain ⟨t356, A730, H⟩ := H
        replace H : (if t345 = true then (if t353 = true then ((plane_Equal.f k2 t347 t348 t349 t350 t319 t320 t321 x327003_2).bind fun t357 => (if t357 = true then (if (t342.length : Int) = (x313003_2.length : Int) then (if t356 = true then ((tilefarmlaw4_sane.f k2).bind fun t358 => (some t358)) else (if 0 ≤ t355 then (if t355 < (t342.length : Int) then (if t355 < (x313003_2.length : Int) then (if (rd t342 t355) = (rd x313003_2 t355) then ((tilefarmlaw4_sane.f k2).bind fun t361 => (some t361)) else (some false)) else (none)) else (none)) else (none))) else (some false)) else (some false))) else (some false)) else (some false)) = some r := H
        have A73 := am_ A730
        clear A730
        by_cases c74 : t345 = true
        ·subst c74
         have H1 : (if t353 = true then ((plane_Equal.f k2 t347 t348 t349 t350 t319 t320 t321 x327003_2).bind fun t357 => (if t357 = true then (if (t342.length : Int) = (x313003_2.length : Int) then (if t356 = true then ((tilefarmlaw4_sane.f k2).bind fun t358 => (some t358)) else (if 0 ≤ t355 then (if t355 < (t342.length : Int) then (if t355 < (x313003_2.length : Int) then (if (rd t342 t355) = (rd x313003_2 t355) then ((tilefarmlaw4_sane.f k2).bind fun t361 => (some t361)) else (some false)) else (none)) else (none)) else (none))) else (some false)) else (some false))) else (some false)) = some r := by rw [if_pos rfl] at H; exact H
         clear H
         have H := H1
         clear H1
         by_cases c75 : t353 = true
         ·subst c75
          have H1 : ((plane_Equal.f k2 t347 t348 t349 t350 t319 t320 t321 x327003_2).bind fun t357 => (if t357 = true then (if (t342.length : Int) = (x313003_2.length : Int) then (if t356 = true then ((tilefarmlaw4_sane.f k2).bind fun t358 => (some t358)) else (if 0 ≤ t355 then (if t355 < (t342.length : Int) then (if t355 < (x313003_2.length : Int) then (if (rd t342 t355) = (rd x313003_2 t355) then ((tilefarmlaw4_sane.f k2).bind fun t361 => (some t361)) else (some false)) else (none)) else (none)) else (none))) else (some false)) else (some false))) = some r := by rw [if_pos rfl] at H; exact H
          clear H
          have H := H1
          clear H1
          replace H := Option.bind_eq_some_iff.mp H
          obtain ⟨t357, A760, H⟩ := H
          replace H : (if t357 = true then (if (t342.length : Int) = (x313003_2.length : Int) then (if t356 = true then ((tilefarmlaw4_sane.f k2).bind fun t358 => (some t358)) else (if 0 ≤ t355 then (if t355 < (t342.length : Int) then (if t355 < (x313003_2.length : Int) then (if (rd t342 t355) = (rd x313003_2 t355) then ((tilefarmlaw4_sane.f k2).bind fun t361 => (some t361)) else (some false)) else (none)) else (none)) else (none))) else (some false)) else (some false)) = some r := H
          have A76 := am_ A760
          clear A760
          by_cases c77 : t357 = true
          ·subst c77
           have H1 : (if (t342.length : Int) = (x313003_2.length : Int) then (if t356 = true then ((tilefarmlaw4_sane.f k2).bind fun t358 => (some t358)) else (if 0 ≤ t355 then (if t355 < (t342.length : Int) then (if t355 < (x313003_2.length : Int) then (if (rd t342 t355) = (rd x313003_2 t355) then ((tilefarmlaw4_sane.f k2).bind fun t361 => (some t361)) else (some false)) else (none)) else (none)) else (none))) else (some false)) = some r := by rw [if_pos rfl] at H; exact H
           clear H
           have H := H1
           clear H1
           by_cases c78 : (t342.length : Int) = (x313003_2.length : Int)
           ·rw [if_pos c78] at H
            have c78b0 : ((t342.length : Int) == (x313003_2.length : Int)) = true := beq_iff_eq.mpr c78
            have c78b1 : ((t342.length : Int) != (x313003_2.length : Int)) = false := bne_eq_false_iff_eq.mpr c78
            have c78b2 : (t342.length == x313003_2.length) = true := by first | simpa using c78 | (simp at c78 ⊢; omega)
            clear c78
            by_cases c79 : t356 = true
            ·subst c79
             have H1 : ((tilefarmlaw4_sane.f k2).bind fun t358 => (some t358)) = some r := by rw [if_pos rfl] at H; exact H
             clear H
             have H := H1
             clear H1
             replace H := Option.bind_eq_some_iff.mp H
             obtain ⟨t358, A800, H⟩ := H
             replace H : (some t358) = some r := H
             have A80 := am_ A800
             clear A800
             obtain rfl := Option.some.inj H
             have hnb81 := NB326_312.out
             have hnc81 := NB312_326.out
             have hnb82 := NB326_318.out
             have hnc82 := NB318_326.out
             have hnb83 := NB326_334.out
             have hnc83 := NB334_326.out
             have hnb84 := NB326_300.out
             have hnc84 := NB300_326.out
             have hcz85_0 : wr.cell? ⟨gb326, 0, none⟩ = some (.int .i64 t319) := (blk_cell BK326.out 0).trans rfl
             have hcz85_1 : wr.cell? ⟨gb326, 1, none⟩ = some (.int .i64 t320) := (blk_cell BK326.out 1).trans rfl
             have hcz85_2 : wr.cell? ⟨gb326, 2, none⟩ = some (.int .i64 t321) := (blk_cell BK326.out 2).trans rfl
             have hcz85_3 : wr.cell? ⟨gb326, 3, none⟩ = some (u327003) := (blk_cell BK326.out 3).trans rfl
             have hfz85_0 := blk_frozen BK326.out 0
             have hfz85_1 := blk_frozen BK326.out 1
             have hfz85_2 := blk_frozen BK326.out 2
             have hfz85_3 := blk_frozen BK326.out 3
             obtain ⟨Ao86, co86, eo86⟩ := Kd.R_slice HO_327003.out
             subst eo86
             have hnb87 := NB312_318.out
             have hnc87 := NB318_312.out
             have hnb88 := NB312_334.out
             have hnc88 := NB334_312.out
             have hnb89 := NB312_300.out
             have hnc89 := NB300_312.out
             have hcz90_0 : wr.cell? ⟨gb312, 0, none⟩ = some (.int .i64 t305) := (blk_cell BK312.out 0).trans rfl
             have hcz90_1 : wr.cell? ⟨gb312, 1, none⟩ = some (.int .i64 t306) := (blk_cell BK312.out 1).trans rfl
             have hcz90_2 : wr.cell? ⟨gb312, 2, none⟩ = some (.int .i64 t307) := (blk_cell BK312.out 2).trans rfl
             have hcz90_3 : wr.cell? ⟨gb312, 3, none⟩ = some (u313003) := (blk_cell BK312.out 3).trans rfl
             have hfz90_0 := blk_frozen BK312.out 0
             have hfz90_1 := blk_frozen BK312.out 1
             have hfz90_2 := blk_frozen BK312.out 2
             have hfz90_3 := blk_frozen BK312.out 3
             have hnb91 := NB318_334.out
             have hnc91 := NB334_318.out
             have hnb92 := NB318_300.out
             have hnc92 := NB300_318.out
             have hcz93_0 : wr.cell? ⟨gb318, 0, none⟩ = some (.int .i64 t313) := (blk_cell BK318.out 0).trans rfl
             have hcz93_1 : wr.cell? ⟨gb318, 1, none⟩ = some (.int .i64 t314) := (blk_cell BK318.out 1).trans rfl
             have hcz93_2 : wr.cell? ⟨gb318, 2, none⟩ = some (.int .i64 t315) := (blk_cell BK318.out 2).trans rfl
             have hcz93_3 : wr.cell? ⟨gb318, 3, none⟩ = some (.int .i64 t316) := (blk_cell BK318.out 3).trans rfl
             have hfz93_0 := blk_frozen BK318.out 0
             have hfz93_1 := blk_frozen BK318.out 1
             have hfz93_2 := blk_frozen BK318.out 2
             have hfz93_3 := blk_frozen BK318.out 3
             obtain ⟨Ao94, co94, eo94⟩ := Kd.R_slice HO_313003.out
             subst eo94
             try go_wp2_with (first | ((with_reducible refine gate_callee (f := 14) rfl ?_); refine goesL_ (some 86) rfl rfl Try.func14 (by kernel_rfl) rfl #[.agg #[.int .i64 t305, .int .i64 t306, .int .i64 t307, .slice Ao94 x313003_2.length co94], .agg #[.int .i64 t319, .int .i64 t320, .int .i64 t321, .slice Ao86 x327003_2.length co86], .int .i64 t313, .int .i64 t314] rfl q108_ ?_; (with_reducible refine (plane_Blit.calls k2 t305 t306 t307 _ _ x313003_2 t319 t320 t321 _ _ x327003_2 t313 t314 t339 t340 t341 t342 true _ ?side1 ?side2 ?side3 ?side4 A69.out).mono ?_); (case side1 => repeat (first | exact (Kd.R_reads' HO_313003.out).2.2 | (with_reducible refine Kd.C_alloc ?_ _) | (with_reducible refine Kd.C_drewN ?_ _) | (with_reducible refine Kd.C_drew ?_))); (case side2 => exact (Kd.R_reads' HO_313003.out).2.1); (case side3 => repeat (first | exact (Kd.R_reads' HO_327003.out).2.2 | (with_reducible refine Kd.C_alloc ?_ _) | (with_reducible refine Kd.C_drewN ?_ _) | (with_reducible refine Kd.C_drew ?_))); (case side4 => exact (Kd.R_reads' HO_327003.out).2.1); rintro e w95 ⟨v343, rfl, ho0, hb⟩; refine ⟨_, rfl, ?_⟩; have n0_ := am_ (Kd.R_elder' q147_ (Kd.R_base ho0) hb); have n1_ := am_ (Kd.R_elder' q148_ (Kd.R_base ho0) hb); have n2_ := am_ (Kd.R_elder' q149_ (Kd.R_base ho0) hb); have n3_ := am_ (Kd.R_lower (Kd.R_new' (Kd.R_new' (Kd.R_new' ho0 (Kd.R_lt q147_)) (Kd.R_lt q148_)) (Kd.R_lt q149_)) (below_size q15_)); have n4_ := am_ (blk_below (g := gb312) (o := .cells #[.int .i64 t305, .int .i64 t306, .int .i64 t307, .slice Ao94 x313003_2.length co94] 26 (0, 0)) q140_ hb); have n5_ := am_ (blk_below (g := gb318) (o := .cells #[.int .i64 t313, .int .i64 t314, .int .i64 t315, .int .i64 t316] 31 (0, 0)) q141_ hb); have n6_ := am_ (blk_below (g := gb326) (o := .cells #[.int .i64 t319, .int .i64 t320, .int .i64 t321, .slice Ao86 x327003_2.length co86] 26 (0, 0)) q142_ hb); have n7_ := am_ (blk_below (g := gb334) (o := .cells #[.int .i64 t327, .int .i64 t328, .int .i64 t329, u335003] 26 (0, 0)) q143_ hb); have n8_ := am_ (IsS54.below q14_ hb); have n9_ := am_ (below_step q15_ hb); clear HO_313003; clear HO_327003; clear HO_335003; clear BK312; clear BK318; clear BK326; clear BK334; clear HI300; clear HB; have HO_313003 := n0_; have HO_327003 := n1_; have HO_335003 := n2_; have HO344 := n3_; have BK312 := n4_; have BK318 := n5_; have BK326 := n6_; have BK334 := n7_; have HI300 := n8_; have HB := n9_; clear n0_ n1_ n2_ n3_ n4_ n5_ n6_ n7_ n8_ n9_; (try clear ho0)) | ((with_reducible refine gate_dst (N := 13) rfl ?_); (try (refine gate_guard (by rfl) ?_; dsimp only)); refine box_event ?hg (N := 13) ?hd (cs := #[.int .i64 0, .int .i64 0, .int .i64 0, .slice none 0 0]) (t := 26) ?hr ?_; (case hd => rfl); (case hg => rfl); (case hr => first | (go_simp; done) | (go_simp; rfl)); intro gb346 hg w96 hbox hb; have n0_ := am_ (Kd.R_below q147_ hb); have n1_ := am_ (Kd.R_below q148_ hb); have n2_ := am_ (Kd.R_below q149_ hb); have n3_ := am_ (Kd.R_below q161_ hb); have n4_ := am_ (blk_below (g := gb312) (o := .cells #[.int .i64 t305, .int .i64 t306, .int .i64 t307, .slice Ao94 x313003_2.length co94] 26 (0, 0)) q140_ hb); have n5_ := am_ (blk_below (g := gb318) (o := .cells #[.int .i64 t313, .int .i64 t314, .int .i64 t315, .int .i64 t316] 31 (0, 0)) q141_ hb); have n6_ := am_ (blk_below (g := gb326) (o := .cells #[.int .i64 t319, .int .i64 t320, .int .i64 t321, .slice Ao86 x327003_2.length co86] 26 (0, 0)) q142_ hb); have n7_ := am_ (blk_below (g := gb334) (o := .cells #[.int .i64 t327, .int .i64 t328, .int .i64 t329, u335003] 26 (0, 0)) q143_ hb); have n8_ := am_ (IsS54.below q14_ hb); have n9_ := am_ (below_step q15_ hb); have n10_ := am_ (hbox); have n11_ := am_ ((q12_ : w.heap.size ≤ gb346)); have n12_ := am_ ((q12_ : w.heap.size ≤ gb346)); have n13_ := am_ ((by rw [hg]; exact Nat.ne_of_lt (blk_lt (g := gb312) (o := .cells #[.int .i64 t305, .int .i64 t306, .int .i64 t307, .slice Ao94 x313003_2.length co94] 26 (0, 0)) q140_) : gb312 ≠ gb346)); have n14_ := am_ ((by rw [hg]; exact Nat.ne_of_gt (blk_lt (g := gb312) (o := .cells #[.int .i64 t305, .int .i64 t306, .int .i64 t307, .slice Ao94 x313003_2.length co94] 26 (0, 0)) q140_) : gb346 ≠ gb312)); have n15_ := am_ ((q39_ : gb318 ≠ gb346)); have n16_ := am_ ((q40_ : gb346 ≠ gb318)); have n17_ := am_ ((by rw [hg]; exact Nat.ne_of_lt (blk_lt (g := gb326) (o := .cells #[.int .i64 t319, .int .i64 t320, .int .i64 t321, .slice Ao86 x327003_2.length co86] 26 (0, 0)) q142_) : gb326 ≠ gb346)); have n18_ := am_ ((by rw [hg]; exact Nat.ne_of_gt (blk_lt (g := gb326) (o := .cells #[.int .i64 t319, .int .i64 t320, .int .i64 t321, .slice Ao86 x327003_2.length co86] 26 (0, 0)) q142_) : gb346 ≠ gb326)); have n19_ := am_ ((q44_ : gb334 ≠ gb346)); have n20_ := am_ ((q45_ : gb346 ≠ gb334)); have n21_ := am_ ((by rw [hg]; exact Nat.ne_of_lt (IsS54.lt (show IsS54 w _ g300 t298 x301001_2 from by repeat (first | (with_reducible first | exact HI300.out | apply IsS54.alloc | apply IsS54.drewN | apply IsS54.drew | apply IsS54.set_1 | refine IsS54.far ?_ NB300_312.out _ | refine IsS54.far ?_ NB300_318.out _ | refine IsS54.far ?_ NB300_326.out _ | refine IsS54.far ?_ NB300_334.out _) | exact HI300.out))) : g300 ≠ gb346)); have n22_ := am_ ((by rw [hg]; exact Nat.ne_of_gt (IsS54.lt (show IsS54 w _ g300 t298 x301001_2 from by repeat (first | (with_reducible first | exact HI300.out | apply IsS54.alloc | apply IsS54.drewN | apply IsS54.drew | apply IsS54.set_1 | refine IsS54.far ?_ NB300_312.out _ | refine IsS54.far ?_ NB300_318.out _ | refine IsS54.far ?_ NB300_326.out _ | refine IsS54.far ?_ NB300_334.out _) | exact HI300.out))) : gb346 ≠ g300)); clear HO_313003; clear HO_327003; clear HO_335003; clear HO344; clear BK312; clear BK318; clear BK326; clear BK334; clear HI300; clear HB; have HO_313003 := n0_; have HO_327003 := n1_; have HO_335003 := n2_; have HO344 := n3_; have BK312 := n4_; have BK318 := n5_; have BK326 := n6_; have BK334 := n7_; have HI300 := n8_; have HB := n9_; have BK346 := n10_; have GW346 := n11_; have GE346 := n12_; have NB312_346 := n13_; have NB346_312 := n14_; have NB318_346 := n15_; have NB346_318 := n16_; have NB326_346 := n17_; have NB346_326 := n18_; have NB334_346 := n19_; have NB346_334 := n20_; have NB300_346 := n21_; have NB346_300 := n22_; clear n0_ n1_ n2_ n3_ n4_ n5_ n6_ n7_ n8_ n9_ n10_ n11_ n12_ n13_ n14_ n15_ n16_ n17_ n18_ n19_ n20_ n21_ n22_; clear hb hbox hg; have hnb97 := NB346_312.out; have hnc97 := NB312_346.out; have hnb98 := NB346_318.out; have hnc98 := NB318_346.out; have hnb99 := NB346_326.out; have hnc99 := NB326_346.out; have hnb100 := NB346_334.out; have hnc100 := NB334_346.out; have hnb101 := NB346_300.out; have hnc101 := NB300_346.out; have hcz102_0 : w96.cell? ⟨gb346, 0, none⟩ = some (.int .i64 0) := (blk_cell BK346.out 0).trans rfl; have hcz102_1 : w96.cell? ⟨gb346, 1, none⟩ = some (.int .i64 0) := (blk_cell BK346.out 1).trans rfl; have hcz102_2 : w96.cell? ⟨gb346, 2, none⟩ = some (.int .i64 0) := (blk_cell BK346.out 2).trans rfl; have hcz102_3 : w96.cell? ⟨gb346, 3, none⟩ = some (.slice none 0 0) := (blk_cell BK346.out 3).trans rfl; have hfz102_0 := blk_frozen BK346.out 0; have hfz102_1 := blk_frozen BK346.out 1; have hfz102_2 := blk_frozen BK346.out 2; have hfz102_3 := blk_frozen BK346.out 3; obtain ⟨Ao103, co103, eo103⟩ := Kd.R_slice HO344.out; subst eo103; have hcz104_0 : w96.cell? ⟨gb318, 0, none⟩ = some (.int .i64 t313) := (blk_cell BK318.out 0).trans rfl; have hcz104_1 : w96.cell? ⟨gb318, 1, none⟩ = some (.int .i64 t314) := (blk_cell BK318.out 1).trans rfl; have hcz104_2 : w96.cell? ⟨gb318, 2, none⟩ = some (.int .i64 t315) := (blk_cell BK318.out 2).trans rfl; have hcz104_3 : w96.cell? ⟨gb318, 3, none⟩ = some (.int .i64 t316) := (blk_cell BK318.out 3).trans rfl; have hfz104_0 := blk_frozen BK318.out 0; have hfz104_1 := blk_frozen BK318.out 1; have hfz104_2 := blk_frozen BK318.out 2; have hfz104_3 := blk_frozen BK318.out 3) | ((with_reducible refine gate_callee (f := 13) rfl ?_); refine goesL_ (some 92) rfl rfl Try.func13 (by kernel_rfl) rfl #[.agg #[.int .i64 t339, .int .i64 t340, .int .i64 t341, .slice Ao103 t342.length co103], .agg #[.int .i64 t313, .int .i64 t314, .int .i64 t315, .int .i64 t316]] rfl q108_ ?_; (with_reducible refine (plane_Crop.calls k2 t339 t340 t341 _ _ t342 t313 t314 t315 t316 t347 t348 t349 t350 true _ ?side1 ?side2 A70.out).mono ?_); (case side1 => refine (Kd.R_reads' (e := 3) (base := w.heap.size) (ok := fun k_ => (((True ∧ some k_ ≠ (.slice Ao94 x313003_2.length co94 : Value).ownBlock) ∧ some k_ ≠ (.slice Ao86 x327003_2.length co86 : Value).ownBlock) ∧ some k_ ≠ (u335003 : Value).ownBlock)) (n := t342.length) (c := co103) ?_).2.2; exact q4_); (case side2 => exact (Kd.R_reads' HO344.out).2.1); rintro e w105 ⟨v351, rfl, ho0, hb⟩; refine ⟨_, rfl, ?_⟩; have n0_ := am_ (Kd.R_elder' (by (with_reducible repeat (first | apply Kd.R_alloc | apply Kd.R_drewN | apply Kd.R_drew)); exact (Kd.R_mono (Kd.R_far (p := ⟨gb346, 3, none⟩) (Kd.R_far (p := ⟨gb346, 2, none⟩) (Kd.R_far (p := ⟨gb346, 1, none⟩) (Kd.R_far (p := ⟨gb346, 0, none⟩) (Kd.R_types HO_313003.out BK346.out (by decide)) (fun _ hk => hk.2) (.int .i64 t339)) (fun _ hk => hk.2) (.int .i64 t340)) (fun _ hk => hk.2) (.int .i64 t341)) (fun _ hk => hk.2) (.slice Ao103 t342.length co103)) (fun _ h_ => h_.1))) (Kd.R_base ho0) hb); have n1_ := am_ (Kd.R_elder' (by (with_reducible repeat (first | apply Kd.R_alloc | apply Kd.R_drewN | apply Kd.R_drew)); exact (Kd.R_mono (Kd.R_far (p := ⟨gb346, 3, none⟩) (Kd.R_far (p := ⟨gb346, 2, none⟩) (Kd.R_far (p := ⟨gb346, 1, none⟩) (Kd.R_far (p := ⟨gb346, 0, none⟩) (Kd.R_types HO_327003.out BK346.out (by decide)) (fun _ hk => hk.2) (.int .i64 t339)) (fun _ hk => hk.2) (.int .i64 t340)) (fun _ hk => hk.2) (.int .i64 t341)) (fun _ hk => hk.2) (.slice Ao103 t342.length co103)) (fun _ h_ => h_.1))) (Kd.R_base ho0) hb); have n2_ := am_ (Kd.R_elder' (by (with_reducible repeat (first | apply Kd.R_alloc | apply Kd.R_drewN | apply Kd.R_drew)); exact (Kd.R_mono (Kd.R_far (p := ⟨gb346, 3, none⟩) (Kd.R_far (p := ⟨gb346, 2, none⟩) (Kd.R_far (p := ⟨gb346, 1, none⟩) (Kd.R_far (p := ⟨gb346, 0, none⟩) (Kd.R_types HO_335003.out BK346.out (by decide)) (fun _ hk => hk.2) (.int .i64 t339)) (fun _ hk => hk.2) (.int .i64 t340)) (fun _ hk => hk.2) (.int .i64 t341)) (fun _ hk => hk.2) (.slice Ao103 t342.length co103)) (fun _ h_ => h_.1))) (Kd.R_base ho0) hb); have n3_ := am_ (Kd.R_elder' q4_ (Kd.R_base ho0) hb); have n4_ := am_ (Kd.R_lower (Kd.R_new' (Kd.R_new' (Kd.R_new' (Kd.R_new' ho0 (Kd.R_lt (by (with_reducible repeat (first | apply Kd.R_alloc | apply Kd.R_drewN | apply Kd.R_drew)); exact (Kd.R_mono (Kd.R_far (p := ⟨gb346, 3, none⟩) (Kd.R_far (p := ⟨gb346, 2, none⟩) (Kd.R_far (p := ⟨gb346, 1, none⟩) (Kd.R_far (p := ⟨gb346, 0, none⟩) (Kd.R_types HO_313003.out BK346.out (by decide)) (fun _ hk => hk.2) (.int .i64 t339)) (fun _ hk => hk.2) (.int .i64 t340)) (fun _ hk => hk.2) (.int .i64 t341)) (fun _ hk => hk.2) (.slice Ao103 t342.length co103)) (fun _ h_ => h_.1))))) (Kd.R_lt (by (with_reducible repeat (first | apply Kd.R_alloc | apply Kd.R_drewN | apply Kd.R_drew)); exact (Kd.R_mono (Kd.R_far (p := ⟨gb346, 3, none⟩) (Kd.R_far (p := ⟨gb346, 2, none⟩) (Kd.R_far (p := ⟨gb346, 1, none⟩) (Kd.R_far (p := ⟨gb346, 0, none⟩) (Kd.R_types HO_327003.out BK346.out (by decide)) (fun _ hk => hk.2) (.int .i64 t339)) (fun _ hk => hk.2) (.int .i64 t340)) (fun _ hk => hk.2) (.int .i64 t341)) (fun _ hk => hk.2) (.slice Ao103 t342.length co103)) (fun _ h_ => h_.1))))) (Kd.R_lt (by (with_reducible repeat (first | apply Kd.R_alloc | apply Kd.R_drewN | apply Kd.R_drew)); exact (Kd.R_mono (Kd.R_far (p := ⟨gb346, 3, none⟩) (Kd.R_far (p := ⟨gb346, 2, none⟩) (Kd.R_far (p := ⟨gb346, 1, none⟩) (Kd.R_far (p := ⟨gb346, 0, none⟩) (Kd.R_types HO_335003.out BK346.out (by decide)) (fun _ hk => hk.2) (.int .i64 t339)) (fun _ hk => hk.2) (.int .i64 t340)) (fun _ hk => hk.2) (.int .i64 t341)) (fun _ hk => hk.2) (.slice Ao103 t342.length co103)) (fun _ h_ => h_.1))))) (Kd.R_lt q4_)) (below_size q13_)); have n5_ := am_ (blk_below (g := gb312) (o := .cells #[.int .i64 t305, .int .i64 t306, .int .i64 t307, .slice Ao94 x313003_2.length co94] 26 (0, 0)) (by (with_reducible repeat (first | refine blk_drewN ?_ _ | refine blk_drew ?_ | refine blk_alloc ?_ _)); refine blk_far ?_ NB312_346.out _; (with_reducible repeat (first | refine blk_drewN ?_ _ | refine blk_drew ?_ | refine blk_alloc ?_ _)); refine blk_far ?_ NB312_346.out _; (with_reducible repeat (first | refine blk_drewN ?_ _ | refine blk_drew ?_ | refine blk_alloc ?_ _)); refine blk_far ?_ NB312_346.out _; (with_reducible repeat (first | refine blk_drewN ?_ _ | refine blk_drew ?_ | refine blk_alloc ?_ _)); refine blk_far ?_ NB312_346.out _; (with_reducible repeat (first | refine blk_drewN ?_ _ | refine blk_drew ?_ | refine blk_alloc ?_ _)); exact BK312.out) hb); have n6_ := am_ (blk_below (g := gb318) (o := .cells #[.int .i64 t313, .int .i64 t314, .int .i64 t315, .int .i64 t316] 31 (0, 0)) (by (with_reducible repeat (first | refine blk_drewN ?_ _ | refine blk_drew ?_ | refine blk_alloc ?_ _)); refine blk_far ?_ NB318_346.out _; (with_reducible repeat (first | refine blk_drewN ?_ _ | refine blk_drew ?_ | refine blk_alloc ?_ _)); refine blk_far ?_ NB318_346.out _; (with_reducible repeat (first | refine blk_drewN ?_ _ | refine blk_drew ?_ | refine blk_alloc ?_ _)); refine blk_far ?_ NB318_346.out _; (with_reducible repeat (first | refine blk_drewN ?_ _ | refine blk_drew ?_ | refine blk_alloc ?_ _)); refine blk_far ?_ NB318_346.out _; (with_reducible repeat (first | refine blk_drewN ?_ _ | refine blk_drew ?_ | refine blk_alloc ?_ _)); exact BK318.out) hb); have n7_ := am_ (blk_below (g := gb326) (o := .cells #[.int .i64 t319, .int .i64 t320, .int .i64 t321, .slice Ao86 x327003_2.length co86] 26 (0, 0)) (by (with_reducible repeat (first | refine blk_drewN ?_ _ | refine blk_drew ?_ | refine blk_alloc ?_ _)); refine blk_far ?_ NB326_346.out _; (with_reducible repeat (first | refine blk_drewN ?_ _ | refine blk_drew ?_ | refine blk_alloc ?_ _)); refine blk_far ?_ NB326_346.out _; (with_reducible repeat (first | refine blk_drewN ?_ _ | refine blk_drew ?_ | refine blk_alloc ?_ _)); refine blk_far ?_ NB326_346.out _; (with_reducible repeat (first | refine blk_drewN ?_ _ | refine blk_drew ?_ | refine blk_alloc ?_ _)); refine blk_far ?_ NB326_346.out _; (with_reducible repeat (first | refine blk_drewN ?_ _ | refine blk_drew ?_ | refine blk_alloc ?_ _)); exact BK326.out) hb); have n8_ := am_ (blk_below (g := gb334) (o := .cells #[.int .i64 t327, .int .i64 t328, .int .i64 t329, u335003] 26 (0, 0)) (by (with_reducible repeat (first | refine blk_drewN ?_ _ | refine blk_drew ?_ | refine blk_alloc ?_ _)); refine blk_far ?_ NB334_346.out _; (with_reducible repeat (first | refine blk_drewN ?_ _ | refine blk_drew ?_ | refine blk_alloc ?_ _)); refine blk_far ?_ NB334_346.out _; (with_reducible repeat (first | refine blk_drewN ?_ _ | refine blk_drew ?_ | refine blk_alloc ?_ _)); refine blk_far ?_ NB334_346.out _; (with_reducible repeat (first | refine blk_drewN ?_ _ | refine blk_drew ?_ | refine blk_alloc ?_ _)); refine blk_far ?_ NB334_346.out _; (with_reducible repeat (first | refine blk_drewN ?_ _ | refine blk_drew ?_ | refine blk_alloc ?_ _)); exact BK334.out) hb); have n9_ := am_ (IsS54.below (show IsS54 w ((((w96.setCell ⟨gb346, 0, none⟩ (.int .i64 t339)).setCell ⟨gb346, 1, none⟩ (.int .i64 t340)).setCell ⟨gb346, 2, none⟩ (.int .i64 t341)).setCell ⟨gb346, 3, none⟩ (.slice Ao103 t342.length co103)) g300 t298 x301001_2 from by repeat (first | (with_reducible first | exact HI300.out | apply IsS54.alloc | apply IsS54.drewN | apply IsS54.drew | apply IsS54.set_1 | refine IsS54.far ?_ NB300_312.out _ | refine IsS54.far ?_ NB300_318.out _ | refine IsS54.far ?_ NB300_326.out _ | refine IsS54.far ?_ NB300_334.out _ | refine IsS54.far ?_ NB300_346.out _) | exact HI300.out)) hb); have n10_ := am_ (blk_below (g := gb346) (o := .cells #[.int .i64 t339, .int .i64 t340, .int .i64 t341, .slice Ao103 t342.length co103] 26 (0, 0)) (by (with_reducible repeat (first | refine blk_drewN ?_ _ | refine blk_drew ?_ | refine blk_alloc ?_ _)); refine blk_put (cs := #[.int .i64 t339, .int .i64 t340, .int .i64 t341, .slice none 0 0]) ?_ 3 _ rfl; (with_reducible repeat (first | refine blk_drewN ?_ _ | refine blk_drew ?_ | refine blk_alloc ?_ _)); refine blk_put (cs := #[.int .i64 t339, .int .i64 t340, .int .i64 0, .slice none 0 0]) ?_ 2 _ rfl; (with_reducible repeat (first | refine blk_drewN ?_ _ | refine blk_drew ?_ | refine blk_alloc ?_ _)); refine blk_put (cs := #[.int .i64 t339, .int .i64 0, .int .i64 0, .slice none 0 0]) ?_ 1 _ rfl; (with_reducible repeat (first | refine blk_drewN ?_ _ | refine blk_drew ?_ | refine blk_alloc ?_ _)); refine blk_put (cs := #[.int .i64 0, .int .i64 0, .int .i64 0, .slice none 0 0]) ?_ 0 _ rfl; (with_reducible repeat (first | refine blk_drewN ?_ _ | refine blk_drew ?_ | refine blk_alloc ?_ _)); exact BK346.out) hb); have n11_ := am_ (below_step q13_ hb); clear HO_313003; clear HO_327003; clear HO_335003; clear HO344; clear BK312; clear BK318; clear BK326; clear BK334; clear HI300; clear BK346; clear HB; have HO_313003 := n0_; have HO_327003 := n1_; have HO_335003 := n2_; have HO344 := n3_; have HO352 := n4_; have BK312 := n5_; have BK318 := n6_; have BK326 := n7_; have BK334 := n8_; have HI300 := n9_; have BK346 := n10_; have HB := n11_; clear n0_ n1_ n2_ n3_ n4_ n5_ n6_ n7_ n8_ n9_ n10_ n11_; (try clear ho0)) | ((with_reducible refine gate_dst (N := 15) rfl ?_); (try (refine gate_guard (by rfl) ?_; dsimp only)); refine box_event ?hg (N := 15) ?hd (cs := #[.int .i64 0, .int .i64 0, .int .i64 0, .slice none 0 0]) (t := 26) ?hr ?_; (case hd => rfl); (case hg => rfl); (case hr => first | (go_simp; done) | (go_simp; rfl)); intro gb354 hg w106 hbox hb; have n0_ := am_ (Kd.R_below q147_ hb); have n1_ := am_ (Kd.R_below q148_ hb); have n2_ := am_ (Kd.R_below q149_ hb); have n3_ := am_ (Kd.R_below q161_ hb); have n4_ := am_ (Kd.R_below q162_ hb); have n5_ := am_ (blk_below (g := gb312) (o := .cells #[.int .i64 t305, .int .i64 t306, .int .i64 t307, .slice Ao94 x313003_2.length co94] 26 (0, 0)) q140_ hb); have n6_ := am_ (blk_below (g := gb318) (o := .cells #[.int .i64 t313, .int .i64 t314, .int .i64 t315, .int .i64 t316] 31 (0, 0)) q141_ hb); have n7_ := am_ (blk_below (g := gb326) (o := .cells #[.int .i64 t319, .int .i64 t320, .int .i64 t321, .slice Ao86 x327003_2.length co86] 26 (0, 0)) q142_ hb); have n8_ := am_ (blk_below (g := gb334) (o := .cells #[.int .i64 t327, .int .i64 t328, .int .i64 t329, u335003] 26 (0, 0)) q143_ hb); have n9_ := am_ (IsS54.below (by repeat (first | (with_reducible first | exact HI300.out | apply IsS54.alloc | apply IsS54.drewN | apply IsS54.drew | apply IsS54.set_1 | refine IsS54.far ?_ NB300_312.out _ | refine IsS54.far ?_ NB300_318.out _ | refine IsS54.far ?_ NB300_326.out _ | refine IsS54.far ?_ NB300_334.out _ | refine IsS54.far ?_ NB300_346.out _) | exact HI300.out)) hb); have n10_ := am_ (blk_below (g := gb346) (o := .cells #[.int .i64 t339, .int .i64 t340, .int .i64 t341, .slice Ao103 t342.length co103] 26 (0, 0)) q144_ hb); have n11_ := am_ (below_step q13_ hb); have n12_ := am_ (hbox); have n13_ := am_ ((q10_ : w.heap.size ≤ gb354)); have n14_ := am_ ((q10_ : w.heap.size ≤ gb354)); have n15_ := am_ ((by rw [hg]; exact Nat.ne_of_lt (blk_lt (g := gb312) (o := .cells #[.int .i64 t305, .int .i64 t306, .int .i64 t307, .slice Ao94 x313003_2.length co94] 26 (0, 0)) q140_) : gb312 ≠ gb354)); have n16_ := am_ ((by rw [hg]; exact Nat.ne_of_gt (blk_lt (g := gb312) (o := .cells #[.int .i64 t305, .int .i64 t306, .int .i64 t307, .slice Ao94 x313003_2.length co94] 26 (0, 0)) q140_) : gb354 ≠ gb312)); have n17_ := am_ ((q39_ : gb318 ≠ gb354)); have n18_ := am_ ((q40_ : gb354 ≠ gb318)); have n19_ := am_ ((by rw [hg]; exact Nat.ne_of_lt (blk_lt (g := gb326) (o := .cells #[.int .i64 t319, .int .i64 t320, .int .i64 t321, .slice Ao86 x327003_2.length co86] 26 (0, 0)) q142_) : gb326 ≠ gb354)); have n20_ := am_ ((by rw [hg]; exact Nat.ne_of_gt (blk_lt (g := gb326) (o := .cells #[.int .i64 t319, .int .i64 t320, .int .i64 t321, .slice Ao86 x327003_2.length co86] 26 (0, 0)) q142_) : gb354 ≠ gb326)); have n21_ := am_ ((q44_ : gb334 ≠ gb354)); have n22_ := am_ ((q45_ : gb354 ≠ gb334)); have n23_ := am_ ((by rw [hg]; exact Nat.ne_of_lt (blk_lt (g := gb346) (o := .cells #[.int .i64 t339, .int .i64 t340, .int .i64 t341, .slice Ao103 t342.length co103] 26 (0, 0)) q144_) : gb346 ≠ gb354)); have n24_ := am_ ((by rw [hg]; exact Nat.ne_of_gt (blk_lt (g := gb346) (o := .cells #[.int .i64 t339, .int .i64 t340, .int .i64 t341, .slice Ao103 t342.length co103] 26 (0, 0)) q144_) : gb354 ≠ gb346)); have n25_ := am_ ((by rw [hg]; exact Nat.ne_of_lt (IsS54.lt (show IsS54 w _ g300 t298 x301001_2 from by repeat (first | (with_reducible first | exact HI300.out | apply IsS54.alloc | apply IsS54.drewN | apply IsS54.drew | apply IsS54.set_1 | refine IsS54.far ?_ NB300_312.out _ | refine IsS54.far ?_ NB300_318.out _ | refine IsS54.far ?_ NB300_326.out _ | refine IsS54.far ?_ NB300_334.out _ | refine IsS54.far ?_ NB300_346.out _) | exact HI300.out))) : g300 ≠ gb354)); have n26_ := am_ ((by rw [hg]; exact Nat.ne_of_gt (IsS54.lt (show IsS54 w _ g300 t298 x301001_2 from by repeat (first | (with_reducible first | exact HI300.out | apply IsS54.alloc | apply IsS54.drewN | apply IsS54.drew | apply IsS54.set_1 | refine IsS54.far ?_ NB300_312.out _ | refine IsS54.far ?_ NB300_318.out _ | refine IsS54.far ?_ NB300_326.out _ | refine IsS54.far ?_ NB300_334.out _ | refine IsS54.far ?_ NB300_346.out _) | exact HI300.out))) : gb354 ≠ g300)); clear HO_313003; clear HO_327003; clear HO_335003; clear HO344; clear HO352; clear BK312; clear BK318; clear BK326; clear BK334; clear HI300; clear BK346; clear HB; have HO_313003 := n0_; have HO_327003 := n1_; have HO_335003 := n2_; have HO344 := n3_; have HO352 := n4_; have BK312 := n5_; have BK318 := n6_; have BK326 := n7_; have BK334 := n8_; have HI300 := n9_; have BK346 := n10_; have HB := n11_; have BK354 := n12_; have GW354 := n13_; have GE354 := n14_; have NB312_354 := n15_; have NB354_312 := n16_; have NB318_354 := n17_; have NB354_318 := n18_; have NB326_354 := n19_; have NB354_326 := n20_; have NB334_354 := n21_; have NB354_334 := n22_; have NB346_354 := n23_; have NB354_346 := n24_; have NB300_354 := n25_; have NB354_300 := n26_; clear n0_ n1_ n2_ n3_ n4_ n5_ n6_ n7_ n8_ n9_ n10_ n11_ n12_ n13_ n14_ n15_ n16_ n17_ n18_ n19_ n20_ n21_ n22_ n23_ n24_ n25_ n26_; clear hb hbox hg; have hnb107 := NB354_312.out; have hnc107 := NB312_354.out; have hnb108 := NB354_318.out; have hnc108 := NB318_354.out; have hnb109 := NB354_326.out; have hnc109 := NB326_354.out; have hnb110 := NB354_334.out; have hnc110 := NB334_354.out; have hnb111 := NB354_346.out; have hnc111 := NB346_354.out; have hnb112 := NB354_300.out; have hnc112 := NB300_354.out; have hcz113_0 : w106.cell? ⟨gb354, 0, none⟩ = some (.int .i64 0) := (blk_cell BK354.out 0).trans rfl; have hcz113_1 : w106.cell? ⟨gb354, 1, none⟩ = some (.int .i64 0) := (blk_cell BK354.out 1).trans rfl; have hcz113_2 : w106.cell? ⟨gb354, 2, none⟩ = some (.int .i64 0) := (blk_cell BK354.out 2).trans rfl; have hcz113_3 : w106.cell? ⟨gb354, 3, none⟩ = some (.slice none 0 0) := (blk_cell BK354.out 3).trans rfl; have hfz113_0 := blk_frozen BK354.out 0; have hfz113_1 := blk_frozen BK354.out 1; have hfz113_2 := blk_frozen BK354.out 2; have hfz113_3 := blk_frozen BK354.out 3; obtain ⟨Ao114, co114, eo114⟩ := Kd.R_slice HO352.out; subst eo114; have hcz115_0 : w106.cell? ⟨gb312, 0, none⟩ = some (.int .i64 t305) := (blk_cell BK312.out 0).trans rfl; have hcz115_1 : w106.cell? ⟨gb312, 1, none⟩ = some (.int .i64 t306) := (blk_cell BK312.out 1).trans rfl; have hcz115_2 : w106.cell? ⟨gb312, 2, none⟩ = some (.int .i64 t307) := (blk_cell BK312.out 2).trans rfl; have hcz115_3 : w106.cell? ⟨gb312, 3, none⟩ = some (.slice Ao94 x313003_2.length co94) := (blk_cell BK312.out 3).trans rfl; have hfz115_0 := blk_frozen BK312.out 0; have hfz115_1 := blk_frozen BK312.out 1; have hfz115_2 := blk_frozen BK312.out 2; have hfz115_3 := blk_frozen BK312.out 3) | ((with_reducible refine gate_callee (f := 22) rfl ?_); refine goesL_ (some 99) rfl rfl Try.func22 (by kernel_rfl) rfl #[.int .i64 a1, .int .i64 (x313003_2.length : Int)] rfl q108_ ?_; (with_reducible refine (tilefarmgen_Mod.calls a1 (x313003_2.length : Int) t355 _ A71.out).mono ?_); rintro e w' ⟨rfl, ⟨nd, rfl⟩⟩; refine ⟨_, rfl, ?_⟩))
             have n0_ : Aside0 (Kd.R (Kd.int .i64) 3 ((((w106.setCell ⟨gb354, 0, none⟩ (.int .i64 t347)).setCell ⟨gb354, 1, none⟩ (.int .i64 t348)).setCell ⟨gb354, 2, none⟩ (.int .i64 t349)).setCell ⟨gb354, 3, none⟩ (.slice Ao114 t350.length co114)) w.heap.size (fun k_ => some k_ ≠ (.slice Ao86 x327003_2.length co86 : Value).ownBlock ∧ some k_ ≠ (u335003 : Value).ownBlock ∧ some k_ ≠ (.slice Ao103 t342.length co103 : Value).ownBlock ∧ some k_ ≠ (.slice Ao114 t350.length co114 : Value).ownBlock) (.slice Ao94 x313003_2.length co94) x313003_2) := ⟨by (with_reducible repeat (first | apply Kd.R_alloc | apply Kd.R_drewN | apply Kd.R_drew)); exact Kd.R_mono (Kd.R_far (p := ⟨gb354, 3, none⟩) (Kd.R_far (p := ⟨gb354, 2, none⟩) (Kd.R_far (p := ⟨gb354, 1, none⟩) (Kd.R_far (p := ⟨gb354, 0, none⟩) (Kd.R_types HO_313003.out BK354.out (by decide)) (fun _ hk => hk.2) (.int .i64 t347)) (fun _ hk => hk.2) (.int .i64 t348)) (fun _ hk => hk.2) (.int .i64 t349)) (fun _ hk => hk.2) (.slice Ao114 t350.length co114)) (fun _ hk => ⟨hk.1.1.1.1, ⟨hk.1.1.1.2, ⟨hk.1.1.2, hk.1.2⟩⟩⟩)⟩
             have n1_ : Aside0 (Kd.R (Kd.int .i64) 3 ((((w106.setCell ⟨gb354, 0, none⟩ (.int .i64 t347)).setCell ⟨gb354, 1, none⟩ (.int .i64 t348)).setCell ⟨gb354, 2, none⟩ (.int .i64 t349)).setCell ⟨gb354, 3, none⟩ (.slice Ao114 t350.length co114)) w.heap.size (fun k_ => some k_ ≠ (.slice Ao94 x313003_2.length co94 : Value).ownBlock ∧ some k_ ≠ (u335003 : Value).ownBlock ∧ some k_ ≠ (.slice Ao103 t342.length co103 : Value).ownBlock ∧ some k_ ≠ (.slice Ao114 t350.length co114 : Value).ownBlock) (.slice Ao86 x327003_2.length co86) x327003_2) := ⟨by (with_reducible repeat (first | apply Kd.R_alloc | apply Kd.R_drewN | apply Kd.R_drew)); exact Kd.R_mono (Kd.R_far (p := ⟨gb354, 3, none⟩) (Kd.R_far (p := ⟨gb354, 2, none⟩) (Kd.R_far (p := ⟨gb354, 1, none⟩) (Kd.R_far (p := ⟨gb354, 0, none⟩) (Kd.R_types HO_327003.out BK354.out (by decide)) (fun _ hk => hk.2) (.int .i64 t347)) (fun _ hk => hk.2) (.int .i64 t348)) (fun _ hk => hk.2) (.int .i64 t349)) (fun _ hk => hk.2) (.slice Ao114 t350.length co114)) (fun _ hk => ⟨hk.1.1.1.1, ⟨hk.1.1.1.2, ⟨hk.1.1.2, hk.1.2⟩⟩⟩)⟩
             have n2_ : Aside0 (Kd.R (Kd.int .i64) 3 ((((w106.setCell ⟨gb354, 0, none⟩ (.int .i64 t347)).setCell ⟨gb354, 1, none⟩ (.int .i64 t348)).setCell ⟨gb354, 2, none⟩ (.int .i64 t349)).setCell ⟨gb354, 3, none⟩ (.slice Ao114 t350.length co114)) w.heap.size (fun k_ => some k_ ≠ (.slice Ao94 x313003_2.length co94 : Value).ownBlock ∧ some k_ ≠ (.slice Ao86 x327003_2.length co86 : Value).ownBlock ∧ some k_ ≠ (.slice Ao103 t342.length co103 : Value).ownBlock ∧ some k_ ≠ (.slice Ao114 t350.length co114 : Value).ownBlock) u335003 x335003_2) := ⟨by (with_reducible repeat (first | apply Kd.R_alloc | apply Kd.R_drewN | apply Kd.R_drew)); exact Kd.R_mono (Kd.R_far (p := ⟨gb354, 3, none⟩) (Kd.R_far (p := ⟨gb354, 2, none⟩) (Kd.R_far (p := ⟨gb354, 1, none⟩) (Kd.R_far (p := ⟨gb354, 0, none⟩) (Kd.R_types HO_335003.out BK354.out (by decide)) (fun _ hk => hk.2) (.int .i64 t347)) (fun _ hk => hk.2) (.int .i64 t348)) (fun _ hk => hk.2) (.int .i64 t349)) (fun _ hk => hk.2) (.slice Ao114 t350.length co114)) (fun _ hk => ⟨hk.1.1.1.1, ⟨hk.1.1.1.2, ⟨hk.1.1.2, hk.1.2⟩⟩⟩)⟩
             have n3_ : Aside0 (Kd.R (Kd.int .i64) 3 ((((w106.setCell ⟨gb354, 0, none⟩ (.int .i64 t347)).setCell ⟨gb354, 1, none⟩ (.int .i64 t348)).setCell ⟨gb354, 2, none⟩ (.int .i64 t349)).setCell ⟨gb354, 3, none⟩ (.slice Ao114 t350.length co114)) w.heap.size (fun k_ => some k_ ≠ (.slice Ao94 x313003_2.length co94 : Value).ownBlock ∧ some k_ ≠ (.slice Ao86 x327003_2.length co86 : Value).ownBlock ∧ some k_ ≠ (u335003 : Value).ownBlock ∧ some k_ ≠ (.slice Ao114 t350.length co114 : Value).ownBlock) (.slice Ao103 t342.length co103) t342) := ⟨by (with_reducible repeat (first | apply Kd.R_alloc | apply Kd.R_drewN | apply Kd.R_drew)); exact Kd.R_mono (Kd.R_far (p := ⟨gb354, 3, none⟩) (Kd.R_far (p := ⟨gb354, 2, none⟩) (Kd.R_far (p := ⟨gb354, 1, none⟩) (Kd.R_far (p := ⟨gb354, 0, none⟩) (Kd.R_types HO344.out BK354.out (by decide)) (fun _ hk => hk.2) (.int .i64 t347)) (fun _ hk => hk.2) (.int .i64 t348)) (fun _ hk => hk.2) (.int .i64 t349)) (fun _ hk => hk.2) (.slice Ao114 t350.length co114)) (fun _ hk => ⟨hk.1.1.1.1.2, ⟨hk.1.1.1.2, ⟨hk.1.1.2, hk.1.2⟩⟩⟩)⟩
             have n4_ : Aside0 (Kd.R (Kd.int .i64) 3 ((((w106.setCell ⟨gb354, 0, none⟩ (.int .i64 t347)).setCell ⟨gb354, 1, none⟩ (.int .i64 t348)).setCell ⟨gb354, 2, none⟩ (.int .i64 t349)).setCell ⟨gb354, 3, none⟩ (.slice Ao114 t350.length co114)) w.heap.size (fun k_ => some k_ ≠ (.slice Ao94 x313003_2.length co94 : Value).ownBlock ∧ some k_ ≠ (.slice Ao86 x327003_2.length co86 : Value).ownBlock ∧ some k_ ≠ (u335003 : Value).ownBlock ∧ some k_ ≠ (.slice Ao103 t342.length co103 : Value).ownBlock) (.slice Ao114 t350.length co114) t350) := ⟨by (with_reducible repeat (first | apply Kd.R_alloc | apply Kd.R_drewN | apply Kd.R_drew)); exact Kd.R_mono (Kd.R_far (p := ⟨gb354, 3, none⟩) (Kd.R_far (p := ⟨gb354, 2, none⟩) (Kd.R_far (p := ⟨gb354, 1, none⟩) (Kd.R_far (p := ⟨gb354, 0, none⟩) (Kd.R_types HO352.out BK354.out (by decide)) (fun _ hk => hk.2) (.int .i64 t347)) (fun _ hk => hk.2) (.int .i64 t348)) (fun _ hk => hk.2) (.int .i64 t349)) (fun _ hk => hk.2) (.slice Ao114 t350.length co114)) (fun _ hk => ⟨hk.1.1.1.1.2, ⟨hk.1.1.1.2, ⟨hk.1.1.2, hk.1.2⟩⟩⟩)⟩
             have n5_ : Aside0 (((((w106.setCell ⟨gb354, 0, none⟩ (.int .i64 t347)).setCell ⟨gb354, 1, none⟩ (.int .i64 t348)).setCell ⟨gb354, 2, none⟩ (.int .i64 t349)).setCell ⟨gb354, 3, none⟩ (.slice Ao114 t350.length co114)).heap[gb312]? = some (.cells #[.int .i64 t305, .int .i64 t306, .int .i64 t307, .slice Ao94 x313003_2.length co94] 26 (0, 0))) := ⟨by (with_reducible repeat (first | refine blk_drewN ?_ _ | refine blk_drew ?_ | refine blk_alloc ?_ _)); refine blk_far ?_ NB312_354.out _; (with_reducible repeat (first | refine blk_drewN ?_ _ | refine blk_drew ?_ | refine blk_alloc ?_ _)); refine blk_far ?_ NB312_354.out _; (with_reducible repeat (first | refine blk_drewN ?_ _ | refine blk_drew ?_ | refine blk_alloc ?_ _)); refine blk_far ?_ NB312_354.out _; (with_reducible repeat (first | refine blk_drewN ?_ _ | refine blk_drew ?_ | refine blk_alloc ?_ _)); refine blk_far ?_ NB312_354.out _; (with_reducible repeat (first | refine blk_drewN ?_ _ | refine blk_drew ?_ | refine blk_alloc ?_ _)); exact BK312.out⟩
             have n6_ : Aside0 (((((w106.setCell ⟨gb354, 0, none⟩ (.int .i64 t347)).setCell ⟨gb354, 1, none⟩ (.int .i64 t348)).setCell ⟨gb354, 2, none⟩ (.int .i64 t349)).setCell ⟨gb354, 3, none⟩ (.slice Ao114 t350.length co114)).heap[gb318]? = some (.cells #[.int .i64 t313, .int .i64 t314, .int .i64 t315, .int .i64 t316] 31 (0, 0))) := ⟨by (with_reducible repeat (first | refine blk_drewN ?_ _ | refine blk_drew ?_ | refine blk_alloc ?_ _)); refine blk_far ?_ NB318_354.out _; (with_reducible repeat (first | refine blk_drewN ?_ _ | refine blk_drew ?_ | refine blk_alloc ?_ _)); refine blk_far ?_ NB318_354.out _; (with_reducible repeat (first | refine blk_drewN ?_ _ | refine blk_drew ?_ | refine blk_alloc ?_ _)); refine blk_far ?_ NB318_354.out _; (with_reducible repeat (first | refine blk_drewN ?_ _ | refine blk_drew ?_ | refine blk_alloc ?_ _)); refine blk_far ?_ NB318_354.out _; (with_reducible repeat (first | refine blk_drewN ?_ _ | refine blk_drew ?_ | refine blk_alloc ?_ _)); exact BK318.out⟩
             have n7_ : Aside0 (((((w106.setCell ⟨gb354, 0, none⟩ (.int .i64 t347)).setCell ⟨gb354, 1, none⟩ (.int .i64 t348)).setCell ⟨gb354, 2, none⟩ (.int .i64 t349)).setCell ⟨gb354, 3, none⟩ (.slice Ao114 t350.length co114)).heap[gb326]? = some (.cells #[.int .i64 t319, .int .i64 t320, .int .i64 t321, .slice Ao86 x327003_2.length co86] 26 (0, 0))) := ⟨by (with_reducible repeat (first | refine blk_drewN ?_ _ | refine blk_drew ?_ | refine blk_alloc ?_ _)); refine blk_far ?_ NB326_354.out _; (with_reducible repeat (first | refine blk_drewN ?_ _ | refine blk_drew ?_ | refine blk_alloc ?_ _)); refine blk_far ?_ NB326_354.out _; (with_reducible repeat (first | refine blk_drewN ?_ _ | refine blk_drew ?_ | refine blk_alloc ?_ _)); refine blk_far ?_ NB326_354.out _; (with_reducible repeat (first | refine blk_drewN ?_ _ | refine blk_drew ?_ | refine blk_alloc ?_ _)); refine blk_far ?_ NB326_354.out _; (with_reducible repeat (first | refine blk_drewN ?_ _ | refine blk_drew ?_ | refine blk_alloc ?_ _)); exact BK326.out⟩
             have n8_ : Aside0 (((((w106.setCell ⟨gb354, 0, none⟩ (.int .i64 t347)).setCell ⟨gb354, 1, none⟩ (.int .i64 t348)).setCell ⟨gb354, 2, none⟩ (.int .i64 t349)).setCell ⟨gb354, 3, none⟩ (.slice Ao114 t350.length co114)).heap[gb334]? = some (.cells #[.int .i64 t327, .int .i64 t328, .int .i64 t329, u335003] 26 (0, 0))) := ⟨by (with_reducible repeat (first | refine blk_drewN ?_ _ | refine blk_drew ?_ | refine blk_alloc ?_ _)); refine blk_far ?_ NB334_354.out _; (with_reducible repeat (first | refine blk_drewN ?_ _ | refine blk_drew ?_ | refine blk_alloc ?_ _)); refine blk_far ?_ NB334_354.out _; (with_reducible repeat (first | refine blk_drewN ?_ _ | refine blk_drew ?_ | refine blk_alloc ?_ _)); refine blk_far ?_ NB334_354.out _; (with_reducible repeat (first | refine blk_drewN ?_ _ | refine blk_drew ?_ | refine blk_alloc ?_ _)); refine blk_far ?_ NB334_354.out _; (with_reducible repeat (first | refine blk_drewN ?_ _ | refine blk_drew ?_ | refine blk_alloc ?_ _)); exact BK334.out⟩
             have n9_ : Aside0 (((((w106.setCell ⟨gb354, 0, none⟩ (.int .i64 t347)).setCell ⟨gb354, 1, none⟩ (.int .i64 t348)).setCell ⟨gb354, 2, none⟩ (.int .i64 t349)).setCell ⟨gb354, 3, none⟩ (.slice Ao114 t350.length co114)).heap[gb346]? = some (.cells #[.int .i64 t339, .int .i64 t340, .int .i64 t341, .slice Ao103 t342.length co103] 26 (0, 0))) := ⟨by (with_reducible repeat (first | refine blk_drewN ?_ _ | refine blk_drew ?_ | refine blk_alloc ?_ _)); refine blk_far ?_ NB346_354.out _; (with_reducible repeat (first | refine blk_drewN ?_ _ | refine blk_drew ?_ | refine blk_alloc ?_ _)); refine blk_far ?_ NB346_354.out _; (with_reducible repeat (first | refine blk_drewN ?_ _ | refine blk_drew ?_ | refine blk_alloc ?_ _)); refine blk_far ?_ NB346_354.out _; (with_reducible repeat (first | refine blk_drewN ?_ _ | refine blk_drew ?_ | refine blk_alloc ?_ _)); refine blk_far ?_ NB346_354.out _; (with_reducible repeat (first | refine blk_drewN ?_ _ | refine blk_drew ?_ | refine blk_alloc ?_ _)); exact BK346.out⟩
             have n10_ : Aside0 (((((w106.setCell ⟨gb354, 0, none⟩ (.int .i64 t347)).setCell ⟨gb354, 1, none⟩ (.int .i64 t348)).setCell ⟨gb354, 2, none⟩ (.int .i64 t349)).setCell ⟨gb354, 3, none⟩ (.slice Ao114 t350.length co114)).heap[gb354]? = some (.cells #[.int .i64 t347, .int .i64 t348, .int .i64 t349, .slice Ao114 t350.length co114] 26 (0, 0))) := ⟨by (with_reducible repeat (first | refine blk_drewN ?_ _ | refine blk_drew ?_ | refine blk_alloc ?_ _)); refine blk_put (cs := #[.int .i64 t347, .int .i64 t348, .int .i64 t349, .slice none 0 0]) ?_ 3 _ rfl; (with_reducible repeat (first | refine blk_drewN ?_ _ | refine blk_drew ?_ | refine blk_alloc ?_ _)); refine blk_put (cs := #[.int .i64 t347, .int .i64 t348, .int .i64 0, .slice none 0 0]) ?_ 2 _ rfl; (with_reducible repeat (first | refine blk_drewN ?_ _ | refine blk_drew ?_ | refine blk_alloc ?_ _)); refine blk_put (cs := #[.int .i64 t347, .int .i64 0, .int .i64 0, .slice none 0 0]) ?_ 1 _ rfl; (with_reducible repeat (first | refine blk_drewN ?_ _ | refine blk_drew ?_ | refine blk_alloc ?_ _)); refine blk_put (cs := #[.int .i64 0, .int .i64 0, .int .i64 0, .slice none 0 0]) ?_ 0 _ rfl; (with_reducible repeat (first | refine blk_drewN ?_ _ | refine blk_drew ?_ | refine blk_alloc ?_ _)); exact BK354.out⟩
             have n11_ : Aside0 (IsS54 w ((((w106.setCell ⟨gb354, 0, none⟩ (.int .i64 t347)).setCell ⟨gb354, 1, none⟩ (.int .i64 t348)).setCell ⟨gb354, 2, none⟩ (.int .i64 t349)).setCell ⟨gb354, 3, none⟩ (.slice Ao114 t350.length co114)) g300 t298 x301001_2) := ⟨q9_⟩
             have n12_ : Aside0 (Below w.heap.size w ((((w106.setCell ⟨gb354, 0, none⟩ (.int .i64 t347)).setCell ⟨gb354, 1, none⟩ (.int .i64 t348)).setCell ⟨gb354, 2, none⟩ (.int .i64 t349)).setCell ⟨gb354, 3, none⟩ (.slice Ao114 t350.length co114))) := ⟨q11_⟩
             (try clear HO_313003)
             (try clear HO_327003)
             (try clear HO_335003)
             (try clear HO344)
             (try clear HO352)
             (try clear BK312)
             (try clear BK318)
             (try clear BK326)
             (try clear BK334)
             (try clear BK346)
             (try clear BK354)
             (try clear HI300)
             (try clear HB)
             generalize ((((w106.setCell ⟨gb354, 0, none⟩ (.int .i64 t347)).setCell ⟨gb354, 1, none⟩ (.int .i64 t348)).setCell ⟨gb354, 2, none⟩ (.int .i64 t349)).setCell ⟨gb354, 3, none⟩ (.slice Ao114 t350.length co114)) = w116 at n0_ n1_ n2_ n3_ n4_ n5_ n6_ n7_ n8_ n9_ n10_ n11_ n12_ ⊢
             have HO_313003 := n0_
             have HO_327003 := n1_
             have HO_335003 := n2_
             have HO344 := n3_
             have HO352 := n4_
             have BK312 := n5_
             have BK318 := n6_
             have BK326 := n7_
             have BK334 := n8_
             have BK346 := n9_
             have BK354 := n10_
             have HI300 := n11_
             have HB := n12_
             clear n0_ n1_ n2_ n3_ n4_ n5_ n6_ n7_ n8_ n9_ n10_ n11_ n12_
             (try (rw [drewN_self w116]; generalize hq_ : World.drewN w116 _ = w116; have n0_ : Aside0 (Kd.R (Kd.int .i64) 3 w116 w.heap.size (fun k_ => some k_ ≠ (.slice Ao114 t350.length co114 : Value).ownBlock ∧ some k_ ≠ (.slice Ao94 x313003_2.length co94 : Value).ownBlock ∧ some k_ ≠ (.slice Ao86 x327003_2.length co86 : Value).ownBlock ∧ some k_ ≠ (u335003 : Value).ownBlock) (.slice Ao103 t342.length co103) t342) := ⟨by rw [← hq_]; exact (by (with_reducible repeat (first | apply Kd.R_alloc | apply Kd.R_drewN | apply Kd.R_drew)); exact Kd.R_mono HO344.out (fun _ hk => ⟨hk.2.2.2, ⟨hk.1, ⟨hk.2.1, hk.2.2.1⟩⟩⟩))⟩; have n1_ : Aside0 (Kd.R (Kd.int .i64) 3 w116 w.heap.size (fun k_ => some k_ ≠ (.slice Ao103 t342.length co103 : Value).ownBlock ∧ some k_ ≠ (.slice Ao94 x313003_2.length co94 : Value).ownBlock ∧ some k_ ≠ (.slice Ao86 x327003_2.length co86 : Value).ownBlock ∧ some k_ ≠ (u335003 : Value).ownBlock) (.slice Ao114 t350.length co114) t350) := ⟨by rw [← hq_]; exact (by (with_reducible repeat (first | apply Kd.R_alloc | apply Kd.R_drewN | apply Kd.R_drew)); exact Kd.R_mono HO352.out (fun _ hk => ⟨hk.2.2.2, ⟨hk.1, ⟨hk.2.1, hk.2.2.1⟩⟩⟩))⟩; have n2_ : Aside0 (Kd.R (Kd.int .i64) 3 w116 w.heap.size (fun k_ => some k_ ≠ (.slice Ao103 t342.length co103 : Value).ownBlock ∧ some k_ ≠ (.slice Ao114 t350.length co114 : Value).ownBlock ∧ some k_ ≠ (.slice Ao86 x327003_2.length co86 : Value).ownBlock ∧ some k_ ≠ (u335003 : Value).ownBlock) (.slice Ao94 x313003_2.length co94) x313003_2) := ⟨by rw [← hq_]; exact (by (with_reducible repeat (first | apply Kd.R_alloc | apply Kd.R_drewN | apply Kd.R_drew)); exact Kd.R_mono HO_313003.out (fun _ hk => ⟨hk.2.2.1, ⟨hk.2.2.2, ⟨hk.1, hk.2.1⟩⟩⟩))⟩; have n3_ : Aside0 (Kd.R (Kd.int .i64) 3 w116 w.heap.size (fun k_ => some k_ ≠ (.slice Ao103 t342.length co103 : Value).ownBlock ∧ some k_ ≠ (.slice Ao114 t350.length co114 : Value).ownBlock ∧ some k_ ≠ (.slice Ao94 x313003_2.length co94 : Value).ownBlock ∧ some k_ ≠ (u335003 : Value).ownBlock) (.slice Ao86 x327003_2.length co86) x327003_2) := ⟨by rw [← hq_]; exact (by (with_reducible repeat (first | apply Kd.R_alloc | apply Kd.R_drewN | apply Kd.R_drew)); exact Kd.R_mono HO_327003.out (fun _ hk => ⟨hk.2.2.1, ⟨hk.2.2.2, ⟨hk.1, hk.2.1⟩⟩⟩))⟩; have n4_ : Aside0 (Kd.R (Kd.int .i64) 3 w116 w.heap.size (fun k_ => some k_ ≠ (.slice Ao103 t342.length co103 : Value).ownBlock ∧ some k_ ≠ (.slice Ao114 t350.length co114 : Value).ownBlock ∧ some k_ ≠ (.slice Ao94 x313003_2.length co94 : Value).ownBlock ∧ some k_ ≠ (.slice Ao86 x327003_2.length co86 : Value).ownBlock) u335003 x335003_2) := ⟨by rw [← hq_]; exact (by (with_reducible repeat (first | apply Kd.R_alloc | apply Kd.R_drewN | apply Kd.R_drew)); exact Kd.R_mono HO_335003.out (fun _ hk => ⟨hk.2.2.1, ⟨hk.2.2.2, ⟨hk.1, hk.2.1⟩⟩⟩))⟩; have n5_ : Aside0 (w116.heap[gb312]? = some (.cells #[.int .i64 t305, .int .i64 t306, .int .i64 t307, .slice Ao94 x313003_2.length co94] 26 (0, 0))) := ⟨by rw [← hq_]; exact q140_⟩; have n6_ : Aside0 (w116.heap[gb318]? = some (.cells #[.int .i64 t313, .int .i64 t314, .int .i64 t315, .int .i64 t316] 31 (0, 0))) := ⟨by rw [← hq_]; exact q141_⟩; have n7_ : Aside0 (w116.heap[gb326]? = some (.cells #[.int .i64 t319, .int .i64 t320, .int .i64 t321, .slice Ao86 x327003_2.length co86] 26 (0, 0))) := ⟨by rw [← hq_]; exact q142_⟩; have n8_ : Aside0 (w116.heap[gb334]? = some (.cells #[.int .i64 t327, .int .i64 t328, .int .i64 t329, u335003] 26 (0, 0))) := ⟨by rw [← hq_]; exact q143_⟩; have n9_ : Aside0 (w116.heap[gb346]? = some (.cells #[.int .i64 t339, .int .i64 t340, .int .i64 t341, .slice Ao103 t342.length co103] 26 (0, 0))) := ⟨by rw [← hq_]; exact q144_⟩; have n10_ : Aside0 (w116.heap[gb354]? = some (.cells #[.int .i64 t347, .int .i64 t348, .int .i64 t349, .slice Ao114 t350.length co114] 26 (0, 0))) := ⟨by rw [← hq_]; exact q145_⟩; have n11_ : Aside0 (IsS54 w w116 g300 t298 x301001_2) := ⟨by rw [← hq_]; exact q9_⟩; have n12_ : Aside0 (Below w.heap.size w w116) := ⟨by rw [← hq_]; exact q11_⟩; clear HO344 HO352 HO_313003 HO_327003 HO_335003 BK312 BK318 BK326 BK334 BK346 BK354 HI300 HB hq_; have HO344 := n0_; have HO352 := n1_; have HO_313003 := n2_; have HO_327003 := n3_; have HO_335003 := n4_; have BK312 := n5_; have BK318 := n6_; have BK326 := n7_; have BK334 := n8_; have BK346 := n9_; have BK354 := n10_; have HI300 := n11_; have HB := n12_; clear n0_ n1_ n2_ n3_ n4_ n5_ n6_ n7_ n8_ n9_ n10_ n11_ n12_))
             have n0_ := am_ (Kd.R_drew HO_313003.out)
             have n1_ := am_ (Kd.R_drew HO_327003.out)
             have n2_ := am_ (Kd.R_drew HO_335003.out)
             have n3_ := am_ (Kd.R_drew HO344.out)
             have n4_ := am_ (Kd.R_drew HO352.out)
             have n5_ := am_ (blk_drew BK312.out)
             have n6_ := am_ (blk_drew BK318.out)
             have n7_ := am_ (blk_drew BK326.out)
             have n8_ := am_ (blk_drew BK334.out)
             have n9_ := am_ (blk_drew BK346.out)
             have n10_ := am_ (blk_drew BK354.out)
             have n11_ := am_ (IsS54.drew HI300.out)
             have n12_ := am_ (below_drew1 HB.out)
             clear HO_313003
             clear HO_327003
             clear HO_335003
             clear HO344
             clear HO352
             clear BK312
             clear BK318
             clear BK326
             clear BK334
             clear BK346
             clear BK354
             clear HI300
             clear HB
             have HO_313003 := n0_
             have HO_327003 := n1_
             have HO_335003 := n2_
             have HO344 := n3_
             have HO352 := n4_
             have BK312 := n5_
             have BK318 := n6_
             have BK326 := n7_
             have BK334 := n8_
             have BK346 := n9_
             have BK354 := n10_
             have HI300 := n11_
             have HB := n12_
             clear n0_ n1_ n2_ n3_ n4_ n5_ n6_ n7_ n8_ n9_ n10_ n11_ n12_
             refine start_ (n := 11) (S := fun w' => w'.cell? ⟨gb318, 0, none⟩ = some (.int .i64 t313) ∧ w'.cell? ⟨gb318, 1, none⟩ = some (.int .i64 t314) ∧ w'.cell? ⟨gb318, 2, none⟩ = some (.int .i64 t315) ∧ w'.cell? ⟨gb318, 3, none⟩ = some (.int .i64 t316) ∧ w'.cell? ⟨gb312, 0, none⟩ = some (.int .i64 t305) ∧ w'.cell? ⟨gb312, 1, none⟩ = some (.int .i64 t306) ∧ w'.cell? ⟨gb312, 2, none⟩ = some (.int .i64 t307) ∧ w'.cell? ⟨gb312, 3, none⟩ = some (.slice Ao94 x313003_2.length co94)) (ds := []) #[false, false, false, false, false, false, false, false, false, false, false] (by kernel_rfl) rfl rfl ⟨(blk_cell BK318.out 0).trans rfl, (blk_cell BK318.out 1).trans rfl, (blk_cell BK318.out 2).trans rfl, (blk_cell BK318.out 3).trans rfl, (blk_cell BK312.out 0).trans rfl, (blk_cell BK312.out 1).trans rfl, (blk_cell BK312.out 2).trans rfl, (blk_cell BK312.out 3).trans rfl⟩ (fun hHeld => ?_); refine with_tabW tilefarmlaw4_PlaneBlits.tab15 tilefarmlaw4_PlaneBlits.bits15 (fun HT_ HW_ => ?_)
             generalize w116.drew = w117 at HO_313003 HO_327003 HO_335003 HO344 HO352 BK312 BK318 BK326 BK334 BK346 BK354 HI300 HB hHeld ⊢
             refine pure_ (i := 1) (N := some 101) (v := ?_) (a' := ?_) #[false, true, false, false, false, false, false, false, false, false, false] rfl rfl (any_of HT_.out (by kernel_rfl)) (fun _ _ _ h => h) (Or.inl ⟨by rfl, ?_⟩) ?_ ?_
             rotate_left
             ·intro w'
              go_simp
              with_reducible rfl
             rotate_left
             ·simp only [Act.put, List.setIfInBounds_toArray, List.set_cons_zero, List.set_cons_succ, i64_w, i32_w]
              rfl
             refine pure_ (i := 2) (N := some 102) (v := ?_) (a' := ?_) #[false, true, true, false, false, false, false, false, false, false, false] rfl rfl (any_of HT_.out (by kernel_rfl)) (fun _ _ _ h => h) (Or.inl ⟨by rfl, ?_⟩) ?_ ?_
             rotate_left
             ·intro w'
              go_simp
              with_reducible rfl
             rotate_left
             ·simp only [Act.put, List.setIfInBounds_toArray, List.set_cons_zero, List.set_cons_succ, i64_w, i32_w]
              rfl
             refine pure_ (i := 5) (N := some 105) (v := ?_) (a' := ?_) #[false, true, true, false, false, true, false, false, false, false, false] rfl rfl (any_of HT_.out (by kernel_rfl)) (fun _ _ _ h => h) (Or.inl ⟨by rfl, ?_⟩) ?_ ?_
             rotate_left
             ·intro w'
              go_simp
              with_reducible rfl
             rotate_left
             ·simp only [Act.put, List.setIfInBounds_toArray, List.set_cons_zero, List.set_cons_succ, i64_w, i32_w]
              rfl
             refine pure_ (i := 6) (N := some 106) (v := ?_) (a' := ?_) #[false, true, true, false, false, true, true, false, false, false, false] rfl rfl (any_of HT_.out (by kernel_rfl)) (fun _ _ _ h => h) (Or.inl ⟨by rfl, ?_⟩) ?_ ?_
             rotate_left
             ·intro w'
              go_simp
              with_reducible rfl
             rotate_left
             ·simp only [Act.put, List.setIfInBounds_toArray, List.set_cons_zero, List.set_cons_succ, i64_w, i32_w]
              rfl
             refine take_ (i := 0) (N := some 100) (v := ?_) (a' := ?_) #[true, true, true, false, false, true, true, false, false, false, false] rfl rfl (take_ofW HT_.out HW_.out (by kernel_rfl)) (fun _ _ _ h => h) (Or.inl ⟨by rfl, ?_⟩) hHeld ?_ ?_
             rotate_left
             ·rintro w' ⟨s0, s1, s2, s3, s4, s5, s6, s7⟩
              go_simp
              with_reducible rfl
             rotate_left
             ·simp only [Act.put, List.setIfInBounds_toArray, List.set_cons_zero, List.set_cons_succ, i64_w, i32_w]
              rfl
             refine take_ (i := 3) (N := some 103) (v := ?_) (a' := ?_) #[true, true, true, true, false, true, true, false, false, false, false] rfl rfl (take_ofW HT_.out HW_.out (by kernel_rfl)) (fun _ _ _ h => h) (Or.inl ⟨by rfl, ?_⟩) hHeld ?_ ?_
             rotate_left
             ·rintro w' ⟨s0, s1, s2, s3, s4, s5, s6, s7⟩
              go_simp
              with_reducible rfl
             rotate_left
             ·simp only [Act.put, List.setIfInBounds_toArray, List.set_cons_zero, List.set_cons_succ, i64_w, i32_w]
              rfl
             refine pure_ (i := 4) (N := some 104) (v := ?_) (a' := ?_) #[true, true, true, true, true, true, true, false, false, false, false] rfl rfl (any_of HT_.out (by kernel_rfl)) (fun _ _ _ h => h) (Or.inl ⟨by rfl, ?_⟩) ?_ ?_
             rotate_left
             ·intro w'
              go_simp
              with_reducible rfl
             rotate_left
             ·simp only [Act.put, List.setIfInBounds_toArray, List.set_cons_zero, List.set_cons_succ, i64_w, i32_w]
              rfl
             refine take_ (i := 7) (N := some 107) (v := ?_) (a' := ?_) #[true, true, true, true, true, true, true, true, false, false, false] rfl rfl (take_ofW HT_.out HW_.out (by kernel_rfl)) (fun _ _ _ h => h) (Or.inl ⟨by rfl, ?_⟩) hHeld ?_ ?_
             rotate_left
             ·rintro w' ⟨s0, s1, s2, s3, s4, s5, s6, s7⟩
              go_simp
              with_reducible rfl
             rotate_left
             ·simp only [Act.put, List.setIfInBounds_toArray, List.set_cons_zero, List.set_cons_succ, i64_w, i32_w]
              rfl
             refine pure_ (i := 8) (N := some 108) (v := ?_) (a' := ?_) #[true, true, true, true, true, true, true, true, true, false, false] rfl rfl (any_of HT_.out (by kernel_rfl)) (fun _ _ _ h => h) (Or.inl ⟨by rfl, ?_⟩) ?_ ?_
             rotate_left
             ·intro w'
              go_simp
              with_reducible rfl
             rotate_left
             ·simp only [Act.put, List.setIfInBounds_toArray, List.set_cons_zero, List.set_cons_succ, i64_w, i32_w]
              rfl
             refine one_ (i := 9) (N := some 109) #[true, true, true, true, true, true, true, true, true, true, false] rfl rfl (one_of HT_.out (by kernel_rfl)) (by decide) (fun K hK => ?_)
             refine goes_ Try.func31 (by kernel_rfl) rfl #[.agg #[.int .i64 t313, .int .i64 t314, .int .i64 t315, .int .i64 t316], .int .i64 (Int.tmod t355 t305), .int .i64 (wrap64 (Int.tdiv t355 t305))] (by rfl) rfl rfl q108_ ?_
             with_reducible refine (tilefarmref2_Contains.calls t313 t314 t315 t316 (Int.tmod t355 t305) (wrap64 (Int.tdiv t355 t305)) true _ A73.out).mono ?_
             rintro e w118 ⟨rfl, hb⟩
             refine ⟨_, rfl, ?_⟩
             have n0_ := am_ (Kd.R_below q147_ hb)
             have n1_ := am_ (Kd.R_below q148_ hb)
             have n2_ := am_ (Kd.R_below q149_ hb)
             have n3_ := am_ (Kd.R_below q161_ hb)
             have n4_ := am_ (Kd.R_below q162_ hb)
             have n5_ := am_ (blk_below (g := gb312) (o := .cells #[.int .i64 t305, .int .i64 t306, .int .i64 t307, .slice Ao94 x313003_2.length co94] 26 (0, 0)) q140_ hb)
             have n6_ := am_ (blk_below (g := gb318) (o := .cells #[.int .i64 t313, .int .i64 t314, .int .i64 t315, .int .i64 t316] 31 (0, 0)) q141_ hb)
             have n7_ := am_ (blk_below (g := gb326) (o := .cells #[.int .i64 t319, .int .i64 t320, .int .i64 t321, .slice Ao86 x327003_2.length co86] 26 (0, 0)) q142_ hb)
             have n8_ := am_ (blk_below (g := gb334) (o := .cells #[.int .i64 t327, .int .i64 t328, .int .i64 t329, u335003] 26 (0, 0)) q143_ hb)
             have n9_ := am_ (IsS54.below q9_ hb)
             have n10_ := am_ (blk_below (g := gb346) (o := .cells #[.int .i64 t339, .int .i64 t340, .int .i64 t341, .slice Ao103 t342.length co103] 26 (0, 0)) q144_ hb)
             have n11_ := am_ (blk_below (g := gb354) (o := .cells #[.int .i64 t347, .int .i64 t348, .int .i64 t349, .slice Ao114 t350.length co114] 26 (0, 0)) q145_ hb)
             have n12_ := am_ (below_step q11_ hb)
             clear HO_313003
             clear HO_327003
             clear HO_335003
             clear HO344
             clear HO352
             clear BK312
             clear BK318
             clear BK326
             clear BK334
             clear HI300
             clear BK346
             clear BK354
             clear HB
             have HO_313003 := n0_
             have HO_327003 := n1_
             have HO_335003 := n2_
             have HO344 := n3_
             have HO352 := n4_
             have BK312 := n5_
             have BK318 := n6_
             have BK326 := n7_
             have BK334 := n8_
             have HI300 := n9_
             have BK346 := n10_
             have BK354 := n11_
             have HB := n12_
             clear n0_ n1_ n2_ n3_ n4_ n5_ n6_ n7_ n8_ n9_ n10_ n11_ n12_
             (try clear hb)
             (try clear hb2)
             (try clear hk)
             (try clear hi)
             refine hK.out _ _ ⟨(blk_cell BK318.out 0).trans rfl, (blk_cell BK318.out 1).trans rfl, (blk_cell BK318.out 2).trans rfl, (blk_cell BK318.out 3).trans rfl, (blk_cell BK312.out 0).trans rfl, (blk_cell BK312.out 1).trans rfl, (blk_cell BK312.out 2).trans rfl, (blk_cell BK312.out 3).trans rfl⟩ (fun hHeld => ?_)
             clear hK K
             refine norm_ (a' := ?_) ?_ ?_
             rotate_left
             ·show Act.put _ (some 109) _ = _
              simp only [Act.put, List.setIfInBounds_toArray, List.set_cons_zero, List.set_cons_succ, i64_w, i32_w]
              rfl
             refine pure_ (i := 10) (N := some 18) (v := ?_) (a' := ?_) #[true, true, true, true, true, true, true, true, true, true, true] rfl rfl (any_of HT_.out (by kernel_rfl)) (fun _ _ _ h => h) (Or.inl ⟨by rfl, ?_⟩) ?_ ?_
             rotate_left
             ·intro w'
              go_simp
              with_reducible rfl
             rotate_left
             ·simp only [Act.put, List.setIfInBounds_toArray, List.set_cons_zero, List.set_cons_succ, i64_w, i32_w]
              rfl
             refine done_ (done_of HT_.out (by kernel_rfl)) ?_
             try go_wp2
             have n0_ := am_ (Kd.R_drew HO_313003.out)
             have n1_ := am_ (Kd.R_drew HO_327003.out)
             have n2_ := am_ (Kd.R_drew HO_335003.out)
             have n3_ := am_ (Kd.R_drew HO344.out)
             have n4_ := am_ (Kd.R_drew HO352.out)
             have n5_ := am_ (blk_drew BK312.out)
             have n6_ := am_ (blk_drew BK318.out)
             have n7_ := am_ (blk_drew BK326.out)
             have n8_ := am_ (blk_drew BK334.out)
             have n9_ := am_ (blk_drew BK346.out)
             have n10_ := am_ (blk_drew BK354.out)
             have n11_ := am_ (IsS54.drew HI300.out)
             have n12_ := am_ (below_drew1 HB.out)
             clear HO_313003
             clear HO_327003
             clear HO_335003
             clear HO344
             clear HO352
             clear BK312
             clear BK318
             clear BK326
             clear BK334
             clear BK346
             clear BK354
             clear HI300
             clear HB
             have HO_313003 := n0_
             have HO_327003 := n1_
             have HO_335003 := n2_
             have HO344 := n3_
             have HO352 := n4_
             have BK312 := n5_
             have BK318 := n6_
             have BK326 := n7_
             have BK334 := n8_
             have BK346 := n9_
             have BK354 := n10_
             have HI300 := n11_
             have HB := n12_
             clear n0_ n1_ n2_ n3_ n4_ n5_ n6_ n7_ n8_ n9_ n10_ n11_ n12_
             refine start_ (n := 38) (S := fun w' => w'.cell? ⟨gb354, 0, none⟩ = some (.int .i64 t347) ∧ w'.cell? ⟨gb354, 1, none⟩ = some (.int .i64 t348) ∧ w'.cell? ⟨gb354, 2, none⟩ = some (.int .i64 t349) ∧ w'.cell? ⟨gb354, 3, none⟩ = some (.slice Ao114 t350.length co114) ∧ w'.cell? ⟨gb326, 0, none⟩ = some (.int .i64 t319) ∧ w'.cell? ⟨gb326, 1, none⟩ = some (.int .i64 t320) ∧ w'.cell? ⟨gb326, 2, none⟩ = some (.int .i64 t321) ∧ w'.cell? ⟨gb326, 3, none⟩ = some (.slice Ao86 x327003_2.length co86) ∧ w'.cell? ⟨gb346, 0, none⟩ = some (.int .i64 t339) ∧ w'.cell? ⟨gb346, 1, none⟩ = some (.int .i64 t340) ∧ w'.cell? ⟨gb346, 2, none⟩ = some (.int .i64 t341) ∧ w'.cell? ⟨gb346, 3, none⟩ = some (.slice Ao103 t342.length co103) ∧ w'.cell? ⟨gb312, 0, none⟩ = some (.int .i64 t305) ∧ w'.cell? ⟨gb312, 1, none⟩ = some (.int .i64 t306) ∧ w'.cell? ⟨gb312, 2, none⟩ = some (.int .i64 t307) ∧ w'.cell? ⟨gb312, 3, none⟩ = some (.slice Ao94 x313003_2.length co94)) (ds := []) #[false, false, false, false, false, false, false, false, false, false, false, false, false, false, false, false, false, false, false, false, false, false, false, false, false, false, false, false, false, false, false, false, false, false, false, false, false, false] (by kernel_rfl) rfl rfl ⟨(blk_cell BK354.out 0).trans rfl, (blk_cell BK354.out 1).trans rfl, (blk_cell BK354.out 2).trans rfl, (blk_cell BK354.out 3).trans rfl, (blk_cell BK326.out 0).trans rfl, (blk_cell BK326.out 1).trans rfl, (blk_cell BK326.out 2).trans rfl, (blk_cell BK326.out 3).trans rfl, (blk_cell BK346.out 0).trans rfl, (blk_cell BK346.out 1).trans rfl, (blk_cell BK346.out 2).trans rfl, (blk_cell BK346.out 3).trans rfl, (blk_cell BK312.out 0).trans rfl, (blk_cell BK312.out 1).trans rfl, (blk_cell BK312.out 2).trans rfl, (blk_cell BK312.out 3).trans rfl⟩ (fun hHeld => ?_); refine with_tabW tilefarmlaw4_PlaneBlits.tab16 tilefarmlaw4_PlaneBlits.bits16 (fun HT_ HW_ => ?_)
             generalize w118.drew = w119 at HO_313003 HO_327003 HO_335003 HO344 HO352 BK312 BK318 BK326 BK334 BK346 BK354 HI300 HB hHeld ⊢
             refine pure_ (i := 0) (N := some 110) (v := ?_) (a' := ?_) #[true, false, false, false, false, false, false, false, false, false, false, false, false, false, false, false, false, false, false, false, false, false, false, false, false, false, false, false, false, false, false, false, false, false, false, false, false, false] rfl rfl (any_of HT_.out (by kernel_rfl)) (fun _ _ _ h => h) (Or.inl ⟨by rfl, ?_⟩) ?_ ?_
             rotate_left
             ·intro w'
              go_simp
              with_reducible rfl
             rotate_left
             ·simp only [Act.put, List.setIfInBounds_toArray, List.set_cons_zero, List.set_cons_succ, i64_w, i32_w]
              rfl
             refine pure_ (i := 1) (N := some 111) (v := ?_) (a' := ?_) #[true, true, false, false, false, false, false, false, false, false, false, false, false, false, false, false, false, false, false, false, false, false, false, false, false, false, false, false, false, false, false, false, false, false, false, false, false, false] rfl rfl (any_of HT_.out (by kernel_rfl)) (fun _ _ _ h => h) (Or.inl ⟨by rfl, ?_⟩) ?_ ?_
             rotate_left
             ·intro w'
              go_simp
              with_reducible rfl
             rotate_left
             ·simp only [Act.put, List.setIfInBounds_toArray, List.set_cons_zero, List.set_cons_succ, i64_w, i32_w]
              rfl
             refine pure_ (i := 2) (N := some 112) (v := ?_) (a' := ?_) #[true, true, true, false, false, false, false, false, false, false, false, false, false, false, false, false, false, false, false, false, false, false, false, false, false, false, false, false, false, false, false, false, false, false, false, false, false, false] rfl rfl (any_of HT_.out (by kernel_rfl)) (fun _ _ _ h => h) (Or.inl ⟨by rfl, ?_⟩) ?_ ?_
             rotate_left
             ·intro w'
              go_simp
              with_reducible rfl
             rotate_left
             ·simp only [Act.put, List.setIfInBounds_toArray, List.set_cons_zero, List.set_cons_succ, i64_w, i32_w]
              rfl
             refine pure_ (i := 3) (N := some 113) (v := ?_) (a' := ?_) #[true, true, true, true, false, false, false, false, false, false, false, false, false, false, false, false, false, false, false, false, false, false, false, false, false, false, false, false, false, false, false, false, false, false, false, false, false, false] rfl rfl (any_of HT_.out (by kernel_rfl)) (fun _ _ _ h => h) (Or.inl ⟨by rfl, ?_⟩) ?_ ?_
             rotate_left
             ·intro w'
              go_simp
              with_reducible rfl
             rotate_left
             ·simp only [Act.put, List.setIfInBounds_toArray, List.set_cons_zero, List.set_cons_succ, i64_w, i32_w]
              rfl
             refine pure_ (i := 4) (N := some 114) (v := ?_) (a' := ?_) #[true, true, true, true, true, false, false, false, false, false, false, false, false, false, false, false, false, false, false, false, false, false, false, false, false, false, false, false, false, false, false, false, false, false, false, false, false, false] rfl rfl (any_of HT_.out (by kernel_rfl)) (fun _ _ _ h => h) (Or.inl ⟨by rfl, ?_⟩) ?_ ?_
             rotate_left
             ·intro w'
              go_simp
              with_reducible rfl
             rotate_left
             ·simp only [Act.put, List.setIfInBounds_toArray, List.set_cons_zero, List.set_cons_succ, i64_w, i32_w]
              rfl
             refine take_ (i := 5) (N := some 115) (v := ?_) (a' := ?_) #[true, true, true, true, true, true, false, false, false, false, false, false, false, false, false, false, false, false, false, false, false, false, false, false, false, false, false, false, false, false, false, false, false, false, false, false, false, false] rfl rfl (take_ofW HT_.out HW_.out (by kernel_rfl)) (fun _ _ _ h => h) (Or.inl ⟨by rfl, ?_⟩) hHeld ?_ ?_
             rotate_left
             ·rintro w' ⟨s0, s1, s2, s3, s4, s5, s6, s7, s8, s9, s10, s11, s12, s13, s14, s15⟩
              go_simp
              with_reducible rfl
             rotate_left
             ·simp only [Act.put, List.setIfInBounds_toArray, List.set_cons_zero, List.set_cons_succ, i64_w, i32_w]
              rfl
             refine take_ (i := 6) (N := some 116) (v := ?_) (a' := ?_) #[true, true, true, true, true, true, true, false, false, false, false, false, false, false, false, false, false, false, false, false, false, false, false, false, false, false, false, false, false, false, false, false, false, false, false, false, false, false] rfl rfl (take_ofW HT_.out HW_.out (by kernel_rfl)) (fun _ _ _ h => h) (Or.inl ⟨by rfl, ?_⟩) hHeld ?_ ?_
             rotate_left
             ·rintro w' ⟨s0, s1, s2, s3, s4, s5, s6, s7, s8, s9, s10, s11, s12, s13, s14, s15⟩
              go_simp
              with_reducible rfl
             rotate_left
             ·simp only [Act.put, List.setIfInBounds_toArray, List.set_cons_zero, List.set_cons_succ, i64_w, i32_w]
              rfl
             refine one_ (i := 7) (N := some 117) #[true, true, true, true, true, true, true, true, false, false, false, false, false, false, false, false, false, false, false, false, false, false, false, false, false, false, false, false, false, false, false, false, false, false, false, false, false, false] rfl rfl (one_of HT_.out (by kernel_rfl)) (by decide) (fun K hK => ?_)
             refine goes_ Try.func15 (by kernel_rfl) rfl #[.agg #[.int .i64 t347, .int .i64 t348, .int .i64 t349, .slice Ao114 t350.length co114], .agg #[.int .i64 t319, .int .i64 t320, .int .i64 t321, .slice Ao86 x327003_2.length co86]] (by rfl) rfl rfl q108_ ?_
             with_reducible refine (plane_Equal.calls k2 t347 t348 t349 _ _ t350 t319 t320 t321 _ _ x327003_2 true _ ?side1 ?side2 ?side3 ?side4 A76.out).mono ?_
             (case side1 => repeat (first | exact (Kd.R_reads' HO352.out).2.2 | (with_reducible refine Kd.C_alloc ?_ _) | (with_reducible refine Kd.C_drewN ?_ _) | (with_reducible refine Kd.C_drew ?_)))
             (case side2 => exact (Kd.R_reads' HO352.out).2.1)
             (case side3 => repeat (first | exact (Kd.R_reads' HO_327003.out).2.2 | (with_reducible refine Kd.C_alloc ?_ _) | (with_reducible refine Kd.C_drewN ?_ _) | (with_reducible refine Kd.C_drew ?_)))
             (case side4 => exact (Kd.R_reads' HO_327003.out).2.1)
             rintro e w120 ⟨rfl, hb⟩
             refine ⟨_, rfl, ?_⟩
             have n0_ := am_ (Kd.R_below q147_ hb)
             have n1_ := am_ (Kd.R_below q148_ hb)
             have n2_ := am_ (Kd.R_below q149_ hb)
             have n3_ := am_ (Kd.R_below q161_ hb)
             have n4_ := am_ (Kd.R_below q162_ hb)
             have n5_ := am_ (blk_below (g := gb312) (o := .cells #[.int .i64 t305, .int .i64 t306, .int .i64 t307, .slice Ao94 x313003_2.length co94] 26 (0, 0)) q140_ hb)
             have n6_ := am_ (blk_below (g := gb318) (o := .cells #[.int .i64 t313, .int .i64 t314, .int .i64 t315, .int .i64 t316] 31 (0, 0)) q141_ hb)
             have n7_ := am_ (blk_below (g := gb326) (o := .cells #[.int .i64 t319, .int .i64 t320, .int .i64 t321, .slice Ao86 x327003_2.length co86] 26 (0, 0)) q142_ hb)
             have n8_ := am_ (blk_below (g := gb334) (o := .cells #[.int .i64 t327, .int .i64 t328, .int .i64 t329, u335003] 26 (0, 0)) q143_ hb)
             have n9_ := am_ (IsS54.below q9_ hb)
             have n10_ := am_ (blk_below (g := gb346) (o := .cells #[.int .i64 t339, .int .i64 t340, .int .i64 t341, .slice Ao103 t342.length co103] 26 (0, 0)) q144_ hb)
             have n11_ := am_ (blk_below (g := gb354) (o := .cells #[.int .i64 t347, .int .i64 t348, .int .i64 t349, .slice Ao114 t350.length co114] 26 (0, 0)) q145_ hb)
             have n12_ := am_ (below_step q11_ hb)
             clear HO_313003
             clear HO_327003
             clear HO_335003
             clear HO344
             clear HO352
             clear BK312
             clear BK318
             clear BK326
             clear BK334
             clear HI300
             clear BK346
             clear BK354
             clear HB
             have HO_313003 := n0_
             have HO_327003 := n1_
             have HO_335003 := n2_
             have HO344 := n3_
             have HO352 := n4_
             have BK312 := n5_
             have BK318 := n6_
             have BK326 := n7_
             have BK334 := n8_
             have HI300 := n9_
             have BK346 := n10_
             have BK354 := n11_
             have HB := n12_
             clear n0_ n1_ n2_ n3_ n4_ n5_ n6_ n7_ n8_ n9_ n10_ n11_ n12_
             (try clear hb)
             (try clear hb2)
             (try clear hk)
             (try clear hi)
             refine hK.out _ _ ⟨(blk_cell BK354.out 0).trans rfl, (blk_cell BK354.out 1).trans rfl, (blk_cell BK354.out 2).trans rfl, (blk_cell BK354.out 3).trans rfl, (blk_cell BK326.out 0).trans rfl, (blk_cell BK326.out 1).trans rfl, (blk_cell BK326.out 2).trans rfl, (blk_cell BK326.out 3).trans rfl, (blk_cell BK346.out 0).trans rfl, (blk_cell BK346.out 1).trans rfl, (blk_cell BK346.out 2).trans rfl, (blk_cell BK346.out 3).trans rfl, (blk_cell BK312.out 0).trans rfl, (blk_cell BK312.out 1).trans rfl, (blk_cell BK312.out 2).trans rfl, (blk_cell BK312.out 3).trans rfl⟩ (fun hHeld => ?_)
             clear hK K
             refine norm_ (a' := ?_) ?_ ?_
             rotate_left
             ·show Act.put _ (some 117) _ = _
              simp only [Act.put, List.setIfInBounds_toArray, List.set_cons_zero, List.set_cons_succ, i64_w, i32_w]
              rfl
             refine pure_ (i := 8) (N := some 118) (v := ?_) (a' := ?_) #[true, true, true, true, true, true, true, true, true, false, false, false, false, false, false, false, false, false, false, false, false, false, false, false, false, false, false, false, false, false, false, false, false, false, false, false, false, false] rfl rfl (any_of HT_.out (by kernel_rfl)) (fun _ _ _ h => h) (Or.inl ⟨by rfl, ?_⟩) ?_ ?_
             rotate_left
             ·intro w'
              go_simp
              with_reducible rfl
             rotate_left
             ·simp only [Act.put, List.setIfInBounds_toArray, List.set_cons_zero, List.set_cons_succ, i64_w, i32_w]
              rfl
             refine pure_ (i := 9) (N := some 119) (v := ?_) (a' := ?_) #[true, true, true, true, true, true, true, true, true, true, false, false, false, false, false, false, false, false, false, false, false, false, false, false, false, false, false, false, false, false, false, false, false, false, false, false, false, false] rfl rfl (any_of HT_.out (by kernel_rfl)) (fun _ _ _ h => h) (Or.inl ⟨by rfl, ?_⟩) ?_ ?_
             rotate_left
             ·intro w'
              go_simp
              with_reducible rfl
             rotate_left
             ·simp only [Act.put, List.setIfInBounds_toArray, List.set_cons_zero, List.set_cons_succ, i64_w, i32_w]
              rfl
             refine pure_ (i := 10) (N := some 120) (v := ?_) (a' := ?_) #[true, true, true, true, true, true, true, true, true, true, true, false, false, false, false, false, false, false, false, false, false, false, false, false, false, false, false, false, false, false, false, false, false, false, false, false, false, false] rfl rfl (any_of HT_.out (by kernel_rfl)) (fun _ _ _ h => h) (Or.inl ⟨by rfl, ?_⟩) ?_ ?_
             rotate_left
             ·intro w'
              go_simp
              with_reducible rfl
             rotate_left
             ·simp only [Act.put, List.setIfInBounds_toArray, List.set_cons_zero, List.set_cons_succ, i64_w, i32_w]
              rfl
             refine pure_ (i := 13) (N := some 123) (v := ?_) (a' := ?_) #[true, true, true, true, true, true, true, true, true, true, true, false, false, true, false, false, false, false, false, false, false, false, false, false, false, false, false, false, false, false, false, false, false, false, false, false, false, false] rfl rfl (any_of HT_.out (by kernel_rfl)) (fun _ _ _ h => h) (Or.inl ⟨by rfl, ?_⟩) ?_ ?_
             rotate_left
             ·intro w'
              go_simp
              with_reducible rfl
             rotate_left
             ·simp only [Act.put, List.setIfInBounds_toArray, List.set_cons_zero, List.set_cons_succ, i64_w, i32_w]
              rfl
             refine take_ (i := 11) (N := some 121) (v := ?_) (a' := ?_) #[true, true, true, true, true, true, true, true, true, true, true, true, false, true, false, false, false, false, false, false, false, false, false, false, false, false, false, false, false, false, false, false, false, false, false, false, false, false] rfl rfl (take_ofW HT_.out HW_.out (by kernel_rfl)) (fun _ _ _ h => h) (Or.inl ⟨by rfl, ?_⟩) hHeld ?_ ?_
             rotate_left
             ·rintro w' ⟨s0, s1, s2, s3, s4, s5, s6, s7, s8, s9, s10, s11, s12, s13, s14, s15⟩
              go_simp
              with_reducible rfl
             rotate_left
             ·simp only [Act.put, List.setIfInBounds_toArray, List.set_cons_zero, List.set_cons_succ, i64_w, i32_w]
              rfl
             refine pure_ (i := 12) (N := some 122) (v := ?_) (a' := ?_) #[true, true, true, true, true, true, true, true, true, true, true, true, true, true, false, false, false, false, false, false, false, false, false, false, false, false, false, false, false, false, false, false, false, false, false, false, false, false] rfl rfl (any_of HT_.out (by kernel_rfl)) (fun _ _ _ h => h) (Or.inl ⟨by rfl, ?_⟩) ?_ ?_
             rotate_left
             ·intro w'
              go_simp
              with_reducible rfl
             rotate_left
             ·simp only [Act.put, List.setIfInBounds_toArray, List.set_cons_zero, List.set_cons_succ, i64_w, i32_w]
              rfl
             refine take_ (i := 14) (N := some 124) (v := ?_) (a' := ?_) #[true, true, true, true, true, true, true, true, true, true, true, true, true, true, true, false, false, false, false, false, false, false, false, false, false, false, false, false, false, false, false, false, false, false, false, false, false, false] rfl rfl (take_ofW HT_.out HW_.out (by kernel_rfl)) (fun _ _ _ h => h) (Or.inl ⟨by rfl, ?_⟩) hHeld ?_ ?_
             rotate_left
             ·rintro w' ⟨s0, s1, s2, s3, s4, s5, s6, s7, s8, s9, s10, s11, s12, s13, s14, s15⟩
              go_simp
              with_reducible rfl
             rotate_left
             ·simp only [Act.put, List.setIfInBounds_toArray, List.set_cons_zero, List.set_cons_succ, i64_w, i32_w]
              rfl
             refine pure_ (i := 15) (N := some 125) (v := ?_) (a' := ?_) #[true, true, true, true, true, true, true, true, true, true, true, true, true, true, true, true, false, false, false, false, false, false, false, false, false, false, false, false, false, false, false, false, false, false, false, false, false, false] rfl rfl (any_of HT_.out (by kernel_rfl)) (fun _ _ _ h => h) (Or.inl ⟨by rfl, ?_⟩) ?_ ?_
             rotate_left
             ·intro w'
              go_simp
              with_reducible rfl
             rotate_left
             ·simp only [Act.put, List.setIfInBounds_toArray, List.set_cons_zero, List.set_cons_succ, i64_w, i32_w]
              rfl
             refine pure_ (i := 16) (N := some 126) (v := ?_) (a' := ?_) #[true, true, true, true, true, true, true, true, true, true, true, true, true, true, true, true, true, false, false, false, false, false, false, false, false, false, false, false, false, false, false, false, false, false, false, false, false, false] rfl rfl (any_of HT_.out (by kernel_rfl)) (fun _ _ _ h => h) (Or.inl ⟨by rfl, ?_⟩) ?_ ?_
             rotate_left
             ·intro w'
              go_simp
              with_reducible rfl
             rotate_left
             ·simp only [Act.put, List.setIfInBounds_toArray, List.set_cons_zero, List.set_cons_succ, i64_w, i32_w]
              rfl
             refine pure_ (i := 17) (N := some 127) (v := ?_) (a' := ?_) #[true, true, true, true, true, true, true, true, true, true, true, true, true, true, true, true, true, true, false, false, false, false, false, false, false, false, false, false, false, false, false, false, false, false, false, false, false, false] rfl rfl (any_of HT_.out (by kernel_rfl)) (fun _ _ _ h => h) (Or.inl ⟨by rfl, ?_⟩) ?_ ?_
             rotate_left
             ·intro w'
              go_simp
              with_reducible rfl
             rotate_left
             ·simp only [Act.put, List.setIfInBounds_toArray, List.set_cons_zero, List.set_cons_succ, i64_w, i32_w]
              rfl
             refine pure_ (i := 18) (N := some 128) (v := ?_) (a' := ?_) #[true, true, true, true, true, true, true, true, true, true, true, true, true, true, true, true, true, true, true, false, false, false, false, false, false, false, false, false, false, false, false, false, false, false, false, false, false, false] rfl rfl (any_of HT_.out (by kernel_rfl)) (fun _ _ _ h => h) (Or.inl ⟨by rfl, ?_⟩) ?_ ?_
             rotate_left
             ·intro w'
              go_simp
              with_reducible rfl
             rotate_left
             ·simp only [Act.put, List.setIfInBounds_toArray, List.set_cons_zero, List.set_cons_succ, i64_w, i32_w]
              rfl
             refine pure_ (i := 19) (N := some 129) (v := ?_) (a' := ?_) #[true, true, true, true, true, true, true, true, true, true, true, true, true, true, true, true, true, true, true, true, false, false, false, false, false, false, false, false, false, false, false, false, false, false, false, false, false, false] rfl rfl (any_of HT_.out (by kernel_rfl)) (fun _ _ _ h => h) (Or.inl ⟨by rfl, ?_⟩) ?_ ?_
             rotate_left
             ·intro w'
              go_simp
              with_reducible rfl
             rotate_left
             ·simp only [Act.put, List.setIfInBounds_toArray, List.set_cons_zero, List.set_cons_succ, i64_w, i32_w]
              rfl
             refine pure_ (i := 20) (N := some 130) (v := ?_) (a' := ?_) #[true, true, true, true, true, true, true, true, true, true, true, true, true, true, true, true, true, true, true, true, true, false, false, false, false, false, false, false, false, false, false, false, false, false, false, false, false, false] rfl rfl (any_of HT_.out (by kernel_rfl)) (fun _ _ _ h => h) (Or.inl ⟨by rfl, ?_⟩) ?_ ?_
             rotate_left
             ·intro w'
              go_simp
              with_reducible rfl
             rotate_left
             ·simp only [Act.put, List.setIfInBounds_toArray, List.set_cons_zero, List.set_cons_succ, i64_w, i32_w]
              rfl
             refine pure_ (i := 21) (N := some 131) (v := undef) (a' := ?_) #[true, true, true, true, true, true, true, true, true, true, true, true, true, true, true, true, true, true, true, true, true, true, false, false, false, false, false, false, false, false, false, false, false, false, false, false, false, false] rfl rfl (any_of HT_.out (by kernel_rfl)) (fun _ _ _ h => h) (Or.inr ⟨by rfl, rfl⟩) ?_ ?_
             rotate_left
             ·simp only [Act.put, List.setIfInBounds_toArray, List.set_cons_zero, List.set_cons_succ, i64_w, i32_w]
              rfl
             refine pure_ (i := 22) (N := some 132) (v := undef) (a' := ?_) #[true, true, true, true, true, true, true, true, true, true, true, true, true, true, true, true, true, true, true, true, true, true, true, false, false, false, false, false, false, false, false, false, false, false, false, false, false, false] rfl rfl (any_of HT_.out (by kernel_rfl)) (fun _ _ _ h => h) (Or.inr ⟨by rfl, rfl⟩) ?_ ?_
             rotate_left
             ·simp only [Act.put, List.setIfInBounds_toArray, List.set_cons_zero, List.set_cons_succ, i64_w, i32_w]
              rfl
             refine pure_ (i := 23) (N := some 133) (v := undef) (a' := ?_) #[true, true, true, true, true, true, true, true, true, true, true, true, true, true, true, true, true, true, true, true, true, true, true, true, false, false, false, false, false, false, false, false, false, false, false, false, false, false] rfl rfl (any_of HT_.out (by kernel_rfl)) (fun _ _ _ h => h) (Or.inr ⟨by rfl, rfl⟩) ?_ ?_
             rotate_left
             ·simp only [Act.put, List.setIfInBounds_toArray, List.set_cons_zero, List.set_cons_succ, i64_w, i32_w]
              rfl
             refine pure_ (i := 24) (N := some 134) (v := undef) (a' := ?_) #[true, true, true, true, true, true, true, true, true, true, true, true, true, true, true, true, true, true, true, true, true, true, true, true, true, false, false, false, false, false, false, false, false, false, false, false, false, false] rfl rfl (any_of HT_.out (by kernel_rfl)) (fun _ _ _ h => h) (Or.inr ⟨by rfl, rfl⟩) ?_ ?_
             rotate_left
             ·simp only [Act.put, List.setIfInBounds_toArray, List.set_cons_zero, List.set_cons_succ, i64_w, i32_w]
              rfl
             refine pure_ (i := 25) (N := some 135) (v := undef) (a' := ?_) #[true, true, true, true, true, true, true, true, true, true, true, true, true, true, true, true, true, true, true, true, true, true, true, true, true, true, false, false, false, false, false, false, false, false, false, false, false, false] rfl rfl (any_of HT_.out (by kernel_rfl)) (fun _ _ _ h => h) (Or.inr ⟨by rfl, rfl⟩) ?_ ?_
             rotate_left
             ·simp only [Act.put, List.setIfInBounds_toArray, List.set_cons_zero, List.set_cons_succ, i64_w, i32_w]
              rfl
             refine pure_ (i := 26) (N := some 136) (v := undef) (a' := ?_) #[true, true, true, true, true, true, true, true, true, true, true, true, true, true, true, true, true, true, true, true, true, true, true, true, true, true, true, false, false, false, false, false, false, false, false, false, false, false] rfl rfl (any_of HT_.out (by kernel_rfl)) (fun _ _ _ h => h) (Or.inr ⟨by rfl, rfl⟩) ?_ ?_
             rotate_left
             ·simp only [Act.put, List.setIfInBounds_toArray, List.set_cons_zero, List.set_cons_succ, i64_w, i32_w]
              rfl
             refine pure_ (i := 27) (N := some 137) (v := undef) (a' := ?_) #[true, true, true, true, true, true, true, true, true, true, true, true, true, true, true, true, true, true, true, true, true, true, true, true, true, true, true, true, false, false, false, false, false, false, false, false, false, false] rfl rfl (any_of HT_.out (by kernel_rfl)) (fun _ _ _ h => h) (Or.inr ⟨by rfl, rfl⟩) ?_ ?_
             rotate_left
             ·simp only [Act.put, List.setIfInBounds_toArray, List.set_cons_zero, List.set_cons_succ, i64_w, i32_w]
              rfl
             refine pure_ (i := 28) (N := some 138) (v := undef) (a' := ?_) #[true, true, true, true, true, true, true, true, true, true, true, true, true, true, true, true, true, true, true, true, true, true, true, true, true, true, true, true, true, false, false, false, false, false, false, false, false, false] rfl rfl (any_of HT_.out (by kernel_rfl)) (fun _ _ _ h => h) (Or.inr ⟨by rfl, rfl⟩) ?_ ?_
             rotate_left
             ·simp only [Act.put, List.setIfInBounds_toArray, List.set_cons_zero, List.set_cons_succ, i64_w, i32_w]
              rfl
             refine pure_ (i := 29) (N := some 139) (v := undef) (a' := ?_) #[true, true, true, true, true, true, true, true, true, true, true, true, true, true, true, true, true, true, true, true, true, true, true, true, true, true, true, true, true, true, false, false, false, false, false, false, false, false] rfl rfl (any_of HT_.out (by kernel_rfl)) (fun _ _ _ h => h) (Or.inr ⟨by rfl, rfl⟩) ?_ ?_
             rotate_left
             ·simp only [Act.put, List.setIfInBounds_toArray, List.set_cons_zero, List.set_cons_succ, i64_w, i32_w]
              rfl
             refine pure_ (i := 30) (N := some 140) (v := undef) (a' := ?_) #[true, true, true, true, true, true, true, true, true, true, true, true, true, true, true, true, true, true, true, true, true, true, true, true, true, true, true, true, true, true, true, false, false, false, false, false, false, false] rfl rfl (any_of HT_.out (by kernel_rfl)) (fun _ _ _ h => h) (Or.inr ⟨by rfl, rfl⟩) ?_ ?_
             rotate_left
             ·simp only [Act.put, List.setIfInBounds_toArray, List.set_cons_zero, List.set_cons_succ, i64_w, i32_w]
              rfl
             refine pure_ (i := 31) (N := some 141) (v := undef) (a' := ?_) #[true, true, true, true, true, true, true, true, true, true, true, true, true, true, true, true, true, true, true, true, true, true, true, true, true, true, true, true, true, true, true, true, false, false, false, false, false, false] rfl rfl (any_of HT_.out (by kernel_rfl)) (fun _ _ _ h => h) (Or.inr ⟨by rfl, rfl⟩) ?_ ?_
             rotate_left
             ·simp only [Act.put, List.setIfInBounds_toArray, List.set_cons_zero, List.set_cons_succ, i64_w, i32_w]
              rfl
             refine pure_ (i := 32) (N := some 142) (v := ?_) (a' := ?_) #[true, true, true, true, true, true, true, true, true, true, true, true, true, true, true, true, true, true, true, true, true, true, true, true, true, true, true, true, true, true, true, true, true, false, false, false, false, false] rfl rfl (any_of HT_.out (by kernel_rfl)) (fun _ _ _ h => h) (Or.inl ⟨by rfl, ?_⟩) ?_ ?_
             rotate_left
             ·intro w'
              go_simp
              with_reducible rfl
             rotate_left
             ·simp only [Act.put, List.setIfInBounds_toArray, List.set_cons_zero, List.set_cons_succ, i64_w, i32_w]
              rfl
             refine pure_ (i := 33) (N := some 143) (v := ?_) (a' := ?_) #[true, true, true, true, true, true, true, true, true, true, true, true, true, true, true, true, true, true, true, true, true, true, true, true, true, true, true, true, true, true, true, true, true, true, false, false, false, false] rfl rfl (any_of HT_.out (by kernel_rfl)) (fun _ _ _ h => h) (Or.inl ⟨by rfl, ?_⟩) ?_ ?_
             rotate_left
             ·intro w'
              go_simp
              with_reducible rfl
             rotate_left
             ·simp only [Act.put, List.setIfInBounds_toArray, List.set_cons_zero, List.set_cons_succ, i64_w, i32_w]
              rfl
             refine pure_ (i := 34) (N := some 144) (v := ?_) (a' := ?_) #[true, true, true, true, true, true, true, true, true, true, true, true, true, true, true, true, true, true, true, true, true, true, true, true, true, true, true, true, true, true, true, true, true, true, true, false, false, false] rfl rfl (any_of HT_.out (by kernel_rfl)) (fun _ _ _ h => h) (Or.inl ⟨by rfl, ?_⟩) ?_ ?_
             rotate_left
             ·intro w'
              go_simp
              with_reducible rfl
             rotate_left
             ·simp only [Act.put, List.setIfInBounds_toArray, List.set_cons_zero, List.set_cons_succ, i64_w, i32_w]
              rfl
             refine one_ (i := 35) (N := some 145) #[true, true, true, true, true, true, true, true, true, true, true, true, true, true, true, true, true, true, true, true, true, true, true, true, true, true, true, true, true, true, true, true, true, true, true, true, false, false] rfl rfl (one_of HT_.out (by kernel_rfl)) (by decide) (fun K hK => ?_)
             refine goes_ Try.func18 (by kernel_rfl) rfl #[] (by rfl) rfl rfl q108_ ?_
             with_reducible refine (tilefarmlaw4_sane.calls k2  t358 _ A80.out).mono ?_
             rintro e w121 ⟨rfl, hb⟩
             refine ⟨_, rfl, ?_⟩
             have n0_ := am_ (Kd.R_below q147_ hb)
             have n1_ := am_ (Kd.R_below q148_ hb)
             have n2_ := am_ (Kd.R_below q149_ hb)
             have n3_ := am_ (Kd.R_below q161_ hb)
             have n4_ := am_ (Kd.R_below q162_ hb)
             have n5_ := am_ (blk_below (g := gb312) (o := .cells #[.int .i64 t305, .int .i64 t306, .int .i64 t307, .slice Ao94 x313003_2.length co94] 26 (0, 0)) q140_ hb)
             have n6_ := am_ (blk_below (g := gb318) (o := .cells #[.int .i64 t313, .int .i64 t314, .int .i64 t315, .int .i64 t316] 31 (0, 0)) q141_ hb)
             have n7_ := am_ (blk_below (g := gb326) (o := .cells #[.int .i64 t319, .int .i64 t320, .int .i64 t321, .slice Ao86 x327003_2.length co86] 26 (0, 0)) q142_ hb)
             have n8_ := am_ (blk_below (g := gb334) (o := .cells #[.int .i64 t327, .int .i64 t328, .int .i64 t329, u335003] 26 (0, 0)) q143_ hb)
             have n9_ := am_ (IsS54.below q9_ hb)
             have n10_ := am_ (blk_below (g := gb346) (o := .cells #[.int .i64 t339, .int .i64 t340, .int .i64 t341, .slice Ao103 t342.length co103] 26 (0, 0)) q144_ hb)
             have n11_ := am_ (blk_below (g := gb354) (o := .cells #[.int .i64 t347, .int .i64 t348, .int .i64 t349, .slice Ao114 t350.length co114] 26 (0, 0)) q145_ hb)
             have n12_ := am_ (below_step q11_ hb)
             clear HO_313003
             clear HO_327003
             clear HO_335003
             clear HO344
             clear HO352
             clear BK312
             clear BK318
             clear BK326
             clear BK334
             clear HI300
             clear BK346
             clear BK354
             clear HB
             have HO_313003 := n0_
             have HO_327003 := n1_
             have HO_335003 := n2_
             have HO344 := n3_
             have HO352 := n4_
             have BK312 := n5_
             have BK318 := n6_
             have BK326 := n7_
             have BK334 := n8_
             have HI300 := n9_
             have BK346 := n10_
             have BK354 := n11_
             have HB := n12_
             clear n0_ n1_ n2_ n3_ n4_ n5_ n6_ n7_ n8_ n9_ n10_ n11_ n12_
             (try clear hb)
             (try clear hb2)
             (try clear hk)
             (try clear hi)
             refine hK.out _ _ ⟨(blk_cell BK354.out 0).trans rfl, (blk_cell BK354.out 1).trans rfl, (blk_cell BK354.out 2).trans rfl, (blk_cell BK354.out 3).trans rfl, (blk_cell BK326.out 0).trans rfl, (blk_cell BK326.out 1).trans rfl, (blk_cell BK326.out 2).trans rfl, (blk_cell BK326.out 3).trans rfl, (blk_cell BK346.out 0).trans rfl, (blk_cell BK346.out 1).trans rfl, (blk_cell BK346.out 2).trans rfl, (blk_cell BK346.out 3).trans rfl, (blk_cell BK312.out 0).trans rfl, (blk_cell BK312.out 1).trans rfl, (blk_cell BK312.out 2).trans rfl, (blk_cell BK312.out 3).trans rfl⟩ (fun hHeld => ?_)
             clear hK K
             refine norm_ (a' := ?_) ?_ ?_
             rotate_left
             ·show Act.put _ (some 145) _ = _
              simp only [Act.put, List.setIfInBounds_toArray, List.set_cons_zero, List.set_cons_succ, i64_w, i32_w]
              rfl
             refine pure_ (i := 36) (N := some 146) (v := ?_) (a' := ?_) #[true, true, true, true, true, true, true, true, true, true, true, true, true, true, true, true, true, true, true, true, true, true, true, true, true, true, true, true, true, true, true, true, true, true, true, true, true, false] rfl rfl (any_of HT_.out (by kernel_rfl)) (fun _ _ _ h => h) (Or.inl ⟨by rfl, ?_⟩) ?_ ?_
             rotate_left
             ·intro w'
              go_simp
              with_reducible rfl
             rotate_left
             ·simp only [Act.put, List.setIfInBounds_toArray, List.set_cons_zero, List.set_cons_succ, i64_w, i32_w]
              rfl
             refine pure_ (i := 37) (N := some 4) (v := ?_) (a' := ?_) #[true, true, true, true, true, true, true, true, true, true, true, true, true, true, true, true, true, true, true, true, true, true, true, true, true, true, true, true, true, true, true, true, true, true, true, true, true, true] rfl rfl (any_of HT_.out (by kernel_rfl)) (fun _ _ _ h => h) (Or.inl ⟨by rfl, ?_⟩) ?_ ?_
             rotate_left
             ·intro w'
              go_simp
              with_reducible rfl
             rotate_left
             ·simp only [Act.put, List.setIfInBounds_toArray, List.set_cons_zero, List.set_cons_succ, i64_w, i32_w]
              rfl
             refine done_ (done_of HT_.out (by kernel_rfl)) ?_
             try go_wp2
             go_ret
             exact ⟨q164_, q11_⟩
            ·replace c79 := Bool.eq_false_iff.mpr c79
             subst c79
             have H1 : (if 0 ≤ t355 then (if t355 < (t342.length : Int) then (if t355 < (x313003_2.length : Int) then (if (rd t342 t355) = (rd x313003_2 t355) then ((tilefarmlaw4_sane.f k2).bind fun t361 => (some t361)) else (some false)) else (none)) else (none)) else (none)) = some r := by rw [if_neg (show ¬ (false = true) by decide)] at H; exact H
             clear H
             have H := H1
             clear H1
             by_cases c122 : 0 ≤ t355
             ·rw [if_pos c122] at H
              have c122b0 : decide (0 ≤ t355) = true := decide_eq_true c122
              clear c122
              by_cases c123 : t355 < (t342.length : Int)
              ·rw [if_pos c123] at H
               have c123b0 : decide (t355 < (t342.length : Int)) = true := decide_eq_true c123
               clear c123
               by_cases c124 : t355 < (x313003_2.length : Int)
               ·rw [if_pos c124] at H
                have c124b0 : decide (t355 < (x313003_2.length : Int)) = true := decide_eq_true c124
                clear c124
                by_cases c125 : (rd t342 t355) = (rd x313003_2 t355)
                ·rw [if_pos c125] at H
                 have c125b0 : ((rd t342 t355) == (rd x313003_2 t355)) = true := beq_iff_eq.mpr c125
                 have c125b1 : ((rd t342 t355) != (rd x313003_2 t355)) = false := bne_eq_false_iff_eq.mpr c125
                 clear c125
                 replace H := Option.bind_eq_some_iff.mp H
                 obtain ⟨t361, A1260, H⟩ := H
                 replace H : (some t361) = some r := H
                 have A126 := am_ A1260
                 clear A1260
                 obtain rfl := Option.some.inj H
                 have hnb127 := NB326_312.out
                 have hnc127 := NB312_326.out
                 have hnb128 := NB326_318.out
                 have hnc128 := NB318_326.out
                 have hnb129 := NB326_334.out
                 have hnc129 := NB334_326.out
                 have hnb130 := NB326_300.out
                 have hnc130 := NB300_326.out
                 have hcz131_0 : wr.cell? ⟨gb326, 0, none⟩ = some (.int .i64 t319) := (blk_cell BK326.out 0).trans rfl
                 have hcz131_1 : wr.cell? ⟨gb326, 1, none⟩ = some (.int .i64 t320) := (blk_cell BK326.out 1).trans rfl
                 have hcz131_2 : wr.cell? ⟨gb326, 2, none⟩ = some (.int .i64 t321) := (blk_cell BK326.out 2).trans rfl
                 have hcz131_3 : wr.cell? ⟨gb326, 3, none⟩ = some (u327003) := (blk_cell BK326.out 3).trans rfl
                 have hfz131_0 := blk_frozen BK326.out 0
                 have hfz131_1 := blk_frozen BK326.out 1
                 have hfz131_2 := blk_frozen BK326.out 2
                 have hfz131_3 := blk_frozen BK326.out 3
                 obtain ⟨Ao132, co132, eo132⟩ := Kd.R_slice HO_327003.out
                 subst eo132
                 have hnb133 := NB312_318.out
                 have hnc133 := NB318_312.out
                 have hnb134 := NB312_334.out
                 have hnc134 := NB334_312.out
                 have hnb135 := NB312_300.out
                 have hnc135 := NB300_312.out
                 have hcz136_0 : wr.cell? ⟨gb312, 0, none⟩ = some (.int .i64 t305) := (blk_cell BK312.out 0).trans rfl
                 have hcz136_1 : wr.cell? ⟨gb312, 1, none⟩ = some (.int .i64 t306) := (blk_cell BK312.out 1).trans rfl
                 have hcz136_2 : wr.cell? ⟨gb312, 2, none⟩ = some (.int .i64 t307) := (blk_cell BK312.out 2).trans rfl
                 have hcz136_3 : wr.cell? ⟨gb312, 3, none⟩ = some (u313003) := (blk_cell BK312.out 3).trans rfl
                 have hfz136_0 := blk_frozen BK312.out 0
                 have hfz136_1 := blk_frozen BK312.out 1
                 have hfz136_2 := blk_frozen BK312.out 2
                 have hfz136_3 := blk_frozen BK312.out 3
                 have hnb137 := NB318_334.out
                 have hnc137 := NB334_318.out
                 have hnb138 := NB318_300.out
                 have hnc138 := NB300_318.out
                 have hcz139_0 : wr.cell? ⟨gb318, 0, none⟩ = some (.int .i64 t313) := (blk_cell BK318.out 0).trans rfl
                 have hcz139_1 : wr.cell? ⟨gb318, 1, none⟩ = some (.int .i64 t314) := (blk_cell BK318.out 1).trans rfl
                 have hcz139_2 : wr.cell? ⟨gb318, 2, none⟩ = some (.int .i64 t315) := (blk_cell BK318.out 2).trans rfl
                 have hcz139_3 : wr.cell? ⟨gb318, 3, none⟩ = some (.int .i64 t316) := (blk_cell BK318.out 3).trans rfl
                 have hfz139_0 := blk_frozen BK318.out 0
                 have hfz139_1 := blk_frozen BK318.out 1
                 have hfz139_2 := blk_frozen BK318.out 2
                 have hfz139_3 := blk_frozen BK318.out 3
                 obtain ⟨Ao140, co140, eo140⟩ := Kd.R_slice HO_313003.out
                 subst eo140
                 try go_wp2_with (first | ((with_reducible refine gate_callee (f := 14) rfl ?_); refine goesL_ (some 86) rfl rfl Try.func14 (by kernel_rfl) rfl #[.agg #[.int .i64 t305, .int .i64 t306, .int .i64 t307, .slice Ao140 x313003_2.length co140], .agg #[.int .i64 t319, .int .i64 t320, .int .i64 t321, .slice Ao132 x327003_2.length co132], .int .i64 t313, .int .i64 t314] rfl q108_ ?_; (with_reducible refine (plane_Blit.calls k2 t305 t306 t307 _ _ x313003_2 t319 t320 t321 _ _ x327003_2 t313 t314 t339 t340 t341 t342 true _ ?side1 ?side2 ?side3 ?side4 A69.out).mono ?_); (case side1 => repeat (first | exact (Kd.R_reads' HO_313003.out).2.2 | (with_reducible refine Kd.C_alloc ?_ _) | (with_reducible refine Kd.C_drewN ?_ _) | (with_reducible refine Kd.C_drew ?_))); (case side2 => exact (Kd.R_reads' HO_313003.out).2.1); (case side3 => repeat (first | exact (Kd.R_reads' HO_327003.out).2.2 | (with_reducible refine Kd.C_alloc ?_ _) | (with_reducible refine Kd.C_drewN ?_ _) | (with_reducible refine Kd.C_drew ?_))); (case side4 => exact (Kd.R_reads' HO_327003.out).2.1); rintro e w141 ⟨v343, rfl, ho0, hb⟩; refine ⟨_, rfl, ?_⟩; have n0_ := am_ (Kd.R_elder' q147_ (Kd.R_base ho0) hb); have n1_ := am_ (Kd.R_elder' q148_ (Kd.R_base ho0) hb); have n2_ := am_ (Kd.R_elder' q149_ (Kd.R_base ho0) hb); have n3_ := am_ (Kd.R_lower (Kd.R_new' (Kd.R_new' (Kd.R_new' ho0 (Kd.R_lt q147_)) (Kd.R_lt q148_)) (Kd.R_lt q149_)) (below_size q15_)); have n4_ := am_ (blk_below (g := gb312) (o := .cells #[.int .i64 t305, .int .i64 t306, .int .i64 t307, .slice Ao140 x313003_2.length co140] 26 (0, 0)) q140_ hb); have n5_ := am_ (blk_below (g := gb318) (o := .cells #[.int .i64 t313, .int .i64 t314, .int .i64 t315, .int .i64 t316] 31 (0, 0)) q141_ hb); have n6_ := am_ (blk_below (g := gb326) (o := .cells #[.int .i64 t319, .int .i64 t320, .int .i64 t321, .slice Ao132 x327003_2.length co132] 26 (0, 0)) q142_ hb); have n7_ := am_ (blk_below (g := gb334) (o := .cells #[.int .i64 t327, .int .i64 t328, .int .i64 t329, u335003] 26 (0, 0)) q143_ hb); have n8_ := am_ (IsS54.below q14_ hb); have n9_ := am_ (below_step q15_ hb); clear HO_313003; clear HO_327003; clear HO_335003; clear BK312; clear BK318; clear BK326; clear BK334; clear HI300; clear HB; have HO_313003 := n0_; have HO_327003 := n1_; have HO_335003 := n2_; have HO344 := n3_; have BK312 := n4_; have BK318 := n5_; have BK326 := n6_; have BK334 := n7_; have HI300 := n8_; have HB := n9_; clear n0_ n1_ n2_ n3_ n4_ n5_ n6_ n7_ n8_ n9_; (try clear ho0)) | ((with_reducible refine gate_dst (N := 13) rfl ?_); (try (refine gate_guard (by rfl) ?_; dsimp only)); refine box_event ?hg (N := 13) ?hd (cs := #[.int .i64 0, .int .i64 0, .int .i64 0, .slice none 0 0]) (t := 26) ?hr ?_; (case hd => rfl); (case hg => rfl); (case hr => first | (go_simp; done) | (go_simp; rfl)); intro gb346 hg w142 hbox hb; have n0_ := am_ (Kd.R_below q147_ hb); have n1_ := am_ (Kd.R_below q148_ hb); have n2_ := am_ (Kd.R_below q149_ hb); have n3_ := am_ (Kd.R_below q161_ hb); have n4_ := am_ (blk_below (g := gb312) (o := .cells #[.int .i64 t305, .int .i64 t306, .int .i64 t307, .slice Ao140 x313003_2.length co140] 26 (0, 0)) q140_ hb); have n5_ := am_ (blk_below (g := gb318) (o := .cells #[.int .i64 t313, .int .i64 t314, .int .i64 t315, .int .i64 t316] 31 (0, 0)) q141_ hb); have n6_ := am_ (blk_below (g := gb326) (o := .cells #[.int .i64 t319, .int .i64 t320, .int .i64 t321, .slice Ao132 x327003_2.length co132] 26 (0, 0)) q142_ hb); have n7_ := am_ (blk_below (g := gb334) (o := .cells #[.int .i64 t327, .int .i64 t328, .int .i64 t329, u335003] 26 (0, 0)) q143_ hb); have n8_ := am_ (IsS54.below q14_ hb); have n9_ := am_ (below_step q15_ hb); have n10_ := am_ (hbox); have n11_ := am_ ((q12_ : w.heap.size ≤ gb346)); have n12_ := am_ ((q12_ : w.heap.size ≤ gb346)); have n13_ := am_ ((by rw [hg]; exact Nat.ne_of_lt (blk_lt (g := gb312) (o := .cells #[.int .i64 t305, .int .i64 t306, .int .i64 t307, .slice Ao140 x313003_2.length co140] 26 (0, 0)) q140_) : gb312 ≠ gb346)); have n14_ := am_ ((by rw [hg]; exact Nat.ne_of_gt (blk_lt (g := gb312) (o := .cells #[.int .i64 t305, .int .i64 t306, .int .i64 t307, .slice Ao140 x313003_2.length co140] 26 (0, 0)) q140_) : gb346 ≠ gb312)); have n15_ := am_ ((q39_ : gb318 ≠ gb346)); have n16_ := am_ ((q40_ : gb346 ≠ gb318)); have n17_ := am_ ((by rw [hg]; exact Nat.ne_of_lt (blk_lt (g := gb326) (o := .cells #[.int .i64 t319, .int .i64 t320, .int .i64 t321, .slice Ao132 x327003_2.length co132] 26 (0, 0)) q142_) : gb326 ≠ gb346)); have n18_ := am_ ((by rw [hg]; exact Nat.ne_of_gt (blk_lt (g := gb326) (o := .cells #[.int .i64 t319, .int .i64 t320, .int .i64 t321, .slice Ao132 x327003_2.length co132] 26 (0, 0)) q142_) : gb346 ≠ gb326)); have n19_ := am_ ((q44_ : gb334 ≠ gb346)); have n20_ := am_ ((q45_ : gb346 ≠ gb334)); have n21_ := am_ ((by rw [hg]; exact Nat.ne_of_lt (IsS54.lt (show IsS54 w _ g300 t298 x301001_2 from by repeat (first | (with_reducible first | exact HI300.out | apply IsS54.alloc | apply IsS54.drewN | apply IsS54.drew | apply IsS54.set_1 | refine IsS54.far ?_ NB300_312.out _ | refine IsS54.far ?_ NB300_318.out _ | refine IsS54.far ?_ NB300_326.out _ | refine IsS54.far ?_ NB300_334.out _) | exact HI300.out))) : g300 ≠ gb346)); have n22_ := am_ ((by rw [hg]; exact Nat.ne_of_gt (IsS54.lt (show IsS54 w _ g300 t298 x301001_2 from by repeat (first | (with_reducible first | exact HI300.out | apply IsS54.alloc | apply IsS54.drewN | apply IsS54.drew | apply IsS54.set_1 | refine IsS54.far ?_ NB300_312.out _ | refine IsS54.far ?_ NB300_318.out _ | refine IsS54.far ?_ NB300_326.out _ | refine IsS54.far ?_ NB300_334.out _) | exact HI300.out))) : gb346 ≠ g300)); clear HO_313003; clear HO_327003; clear HO_335003; clear HO344; clear BK312; clear BK318; clear BK326; clear BK334; clear HI300; clear HB; have HO_313003 := n0_; have HO_327003 := n1_; have HO_335003 := n2_; have HO344 := n3_; have BK312 := n4_; have BK318 := n5_; have BK326 := n6_; have BK334 := n7_; have HI300 := n8_; have HB := n9_; have BK346 := n10_; have GW346 := n11_; have GE346 := n12_; have NB312_346 := n13_; have NB346_312 := n14_; have NB318_346 := n15_; have NB346_318 := n16_; have NB326_346 := n17_; have NB346_326 := n18_; have NB334_346 := n19_; have NB346_334 := n20_; have NB300_346 := n21_; have NB346_300 := n22_; clear n0_ n1_ n2_ n3_ n4_ n5_ n6_ n7_ n8_ n9_ n10_ n11_ n12_ n13_ n14_ n15_ n16_ n17_ n18_ n19_ n20_ n21_ n22_; clear hb hbox hg; have hnb143 := NB346_312.out; have hnc143 := NB312_346.out; have hnb144 := NB346_318.out; have hnc144 := NB318_346.out; have hnb145 := NB346_326.out; have hnc145 := NB326_346.out; have hnb146 := NB346_334.out; have hnc146 := NB334_346.out; have hnb147 := NB346_300.out; have hnc147 := NB300_346.out; have hcz148_0 : w142.cell? ⟨gb346, 0, none⟩ = some (.int .i64 0) := (blk_cell BK346.out 0).trans rfl; have hcz148_1 : w142.cell? ⟨gb346, 1, none⟩ = some (.int .i64 0) := (blk_cell BK346.out 1).trans rfl; have hcz148_2 : w142.cell? ⟨gb346, 2, none⟩ = some (.int .i64 0) := (blk_cell BK346.out 2).trans rfl; have hcz148_3 : w142.cell? ⟨gb346, 3, none⟩ = some (.slice none 0 0) := (blk_cell BK346.out 3).trans rfl; have hfz148_0 := blk_frozen BK346.out 0; have hfz148_1 := blk_frozen BK346.out 1; have hfz148_2 := blk_frozen BK346.out 2; have hfz148_3 := blk_frozen BK346.out 3; obtain ⟨Ao149, co149, eo149⟩ := Kd.R_slice HO344.out; subst eo149; have hcz150_0 : w142.cell? ⟨gb318, 0, none⟩ = some (.int .i64 t313) := (blk_cell BK318.out 0).trans rfl; have hcz150_1 : w142.cell? ⟨gb318, 1, none⟩ = some (.int .i64 t314) := (blk_cell BK318.out 1).trans rfl; have hcz150_2 : w142.cell? ⟨gb318, 2, none⟩ = some (.int .i64 t315) := (blk_cell BK318.out 2).trans rfl; have hcz150_3 : w142.cell? ⟨gb318, 3, none⟩ = some (.int .i64 t316) := (blk_cell BK318.out 3).trans rfl; have hfz150_0 := blk_frozen BK318.out 0; have hfz150_1 := blk_frozen BK318.out 1; have hfz150_2 := blk_frozen BK318.out 2; have hfz150_3 := blk_frozen BK318.out 3) | ((with_reducible refine gate_callee (f := 13) rfl ?_); refine goesL_ (some 92) rfl rfl Try.func13 (by kernel_rfl) rfl #[.agg #[.int .i64 t339, .int .i64 t340, .int .i64 t341, .slice Ao149 t342.length co149], .agg #[.int .i64 t313, .int .i64 t314, .int .i64 t315, .int .i64 t316]] rfl q108_ ?_; (with_reducible refine (plane_Crop.calls k2 t339 t340 t341 _ _ t342 t313 t314 t315 t316 t347 t348 t349 t350 true _ ?side1 ?side2 A70.out).mono ?_); (case side1 => refine (Kd.R_reads' (e := 3) (base := w.heap.size) (ok := fun k_ => (((True ∧ some k_ ≠ (.slice Ao140 x313003_2.length co140 : Value).ownBlock) ∧ some k_ ≠ (.slice Ao132 x327003_2.length co132 : Value).ownBlock) ∧ some k_ ≠ (u335003 : Value).ownBlock)) (n := t342.length) (c := co149) ?_).2.2; exact q5_); (case side2 => exact (Kd.R_reads' HO344.out).2.1); rintro e w151 ⟨v351, rfl, ho0, hb⟩; refine ⟨_, rfl, ?_⟩; have n0_ := am_ (Kd.R_elder' (by (with_reducible repeat (first | apply Kd.R_alloc | apply Kd.R_drewN | apply Kd.R_drew)); exact (Kd.R_mono (Kd.R_far (p := ⟨gb346, 3, none⟩) (Kd.R_far (p := ⟨gb346, 2, none⟩) (Kd.R_far (p := ⟨gb346, 1, none⟩) (Kd.R_far (p := ⟨gb346, 0, none⟩) (Kd.R_types HO_313003.out BK346.out (by decide)) (fun _ hk => hk.2) (.int .i64 t339)) (fun _ hk => hk.2) (.int .i64 t340)) (fun _ hk => hk.2) (.int .i64 t341)) (fun _ hk => hk.2) (.slice Ao149 t342.length co149)) (fun _ h_ => h_.1))) (Kd.R_base ho0) hb); have n1_ := am_ (Kd.R_elder' (by (with_reducible repeat (first | apply Kd.R_alloc | apply Kd.R_drewN | apply Kd.R_drew)); exact (Kd.R_mono (Kd.R_far (p := ⟨gb346, 3, none⟩) (Kd.R_far (p := ⟨gb346, 2, none⟩) (Kd.R_far (p := ⟨gb346, 1, none⟩) (Kd.R_far (p := ⟨gb346, 0, none⟩) (Kd.R_types HO_327003.out BK346.out (by decide)) (fun _ hk => hk.2) (.int .i64 t339)) (fun _ hk => hk.2) (.int .i64 t340)) (fun _ hk => hk.2) (.int .i64 t341)) (fun _ hk => hk.2) (.slice Ao149 t342.length co149)) (fun _ h_ => h_.1))) (Kd.R_base ho0) hb); have n2_ := am_ (Kd.R_elder' (by (with_reducible repeat (first | apply Kd.R_alloc | apply Kd.R_drewN | apply Kd.R_drew)); exact (Kd.R_mono (Kd.R_far (p := ⟨gb346, 3, none⟩) (Kd.R_far (p := ⟨gb346, 2, none⟩) (Kd.R_far (p := ⟨gb346, 1, none⟩) (Kd.R_far (p := ⟨gb346, 0, none⟩) (Kd.R_types HO_335003.out BK346.out (by decide)) (fun _ hk => hk.2) (.int .i64 t339)) (fun _ hk => hk.2) (.int .i64 t340)) (fun _ hk => hk.2) (.int .i64 t341)) (fun _ hk => hk.2) (.slice Ao149 t342.length co149)) (fun _ h_ => h_.1))) (Kd.R_base ho0) hb); have n3_ := am_ (Kd.R_elder' q5_ (Kd.R_base ho0) hb); have n4_ := am_ (Kd.R_lower (Kd.R_new' (Kd.R_new' (Kd.R_new' (Kd.R_new' ho0 (Kd.R_lt (by (with_reducible repeat (first | apply Kd.R_alloc | apply Kd.R_drewN | apply Kd.R_drew)); exact (Kd.R_mono (Kd.R_far (p := ⟨gb346, 3, none⟩) (Kd.R_far (p := ⟨gb346, 2, none⟩) (Kd.R_far (p := ⟨gb346, 1, none⟩) (Kd.R_far (p := ⟨gb346, 0, none⟩) (Kd.R_types HO_313003.out BK346.out (by decide)) (fun _ hk => hk.2) (.int .i64 t339)) (fun _ hk => hk.2) (.int .i64 t340)) (fun _ hk => hk.2) (.int .i64 t341)) (fun _ hk => hk.2) (.slice Ao149 t342.length co149)) (fun _ h_ => h_.1))))) (Kd.R_lt (by (with_reducible repeat (first | apply Kd.R_alloc | apply Kd.R_drewN | apply Kd.R_drew)); exact (Kd.R_mono (Kd.R_far (p := ⟨gb346, 3, none⟩) (Kd.R_far (p := ⟨gb346, 2, none⟩) (Kd.R_far (p := ⟨gb346, 1, none⟩) (Kd.R_far (p := ⟨gb346, 0, none⟩) (Kd.R_types HO_327003.out BK346.out (by decide)) (fun _ hk => hk.2) (.int .i64 t339)) (fun _ hk => hk.2) (.int .i64 t340)) (fun _ hk => hk.2) (.int .i64 t341)) (fun _ hk => hk.2) (.slice Ao149 t342.length co149)) (fun _ h_ => h_.1))))) (Kd.R_lt (by (with_reducible repeat (first | apply Kd.R_alloc | apply Kd.R_drewN | apply Kd.R_drew)); exact (Kd.R_mono (Kd.R_far (p := ⟨gb346, 3, none⟩) (Kd.R_far (p := ⟨gb346, 2, none⟩) (Kd.R_far (p := ⟨gb346, 1, none⟩) (Kd.R_far (p := ⟨gb346, 0, none⟩) (Kd.R_types HO_335003.out BK346.out (by decide)) (fun _ hk => hk.2) (.int .i64 t339)) (fun _ hk => hk.2) (.int .i64 t340)) (fun _ hk => hk.2) (.int .i64 t341)) (fun _ hk => hk.2) (.slice Ao149 t342.length co149)) (fun _ h_ => h_.1))))) (Kd.R_lt q5_)) (below_size q13_)); have n5_ := am_ (blk_below (g := gb312) (o := .cells #[.int .i64 t305, .int .i64 t306, .int .i64 t307, .slice Ao140 x313003_2.length co140] 26 (0, 0)) (by (with_reducible repeat (first | refine blk_drewN ?_ _ | refine blk_drew ?_ | refine blk_alloc ?_ _)); refine blk_far ?_ NB312_346.out _; (with_reducible repeat (first | refine blk_drewN ?_ _ | refine blk_drew ?_ | refine blk_alloc ?_ _)); refine blk_far ?_ NB312_346.out _; (with_reducible repeat (first | refine blk_drewN ?_ _ | refine blk_drew ?_ | refine blk_alloc ?_ _)); refine blk_far ?_ NB312_346.out _; (with_reducible repeat (first | refine blk_drewN ?_ _ | refine blk_drew ?_ | refine blk_alloc ?_ _)); refine blk_far ?_ NB312_346.out _; (with_reducible repeat (first | refine blk_drewN ?_ _ | refine blk_drew ?_ | refine blk_alloc ?_ _)); exact BK312.out) hb); have n6_ := am_ (blk_below (g := gb318) (o := .cells #[.int .i64 t313, .int .i64 t314, .int .i64 t315, .int .i64 t316] 31 (0, 0)) (by (with_reducible repeat (first | refine blk_drewN ?_ _ | refine blk_drew ?_ | refine blk_alloc ?_ _)); refine blk_far ?_ NB318_346.out _; (with_reducible repeat (first | refine blk_drewN ?_ _ | refine blk_drew ?_ | refine blk_alloc ?_ _)); refine blk_far ?_ NB318_346.out _; (with_reducible repeat (first | refine blk_drewN ?_ _ | refine blk_drew ?_ | refine blk_alloc ?_ _)); refine blk_far ?_ NB318_346.out _; (with_reducible repeat (first | refine blk_drewN ?_ _ | refine blk_drew ?_ | refine blk_alloc ?_ _)); refine blk_far ?_ NB318_346.out _; (with_reducible repeat (first | refine blk_drewN ?_ _ | refine blk_drew ?_ | refine blk_alloc ?_ _)); exact BK318.out) hb); have n7_ := am_ (blk_below (g := gb326) (o := .cells #[.int .i64 t319, .int .i64 t320, .int .i64 t321, .slice Ao132 x327003_2.length co132] 26 (0, 0)) (by (with_reducible repeat (first | refine blk_drewN ?_ _ | refine blk_drew ?_ | refine blk_alloc ?_ _)); refine blk_far ?_ NB326_346.out _; (with_reducible repeat (first | refine blk_drewN ?_ _ | refine blk_drew ?_ | refine blk_alloc ?_ _)); refine blk_far ?_ NB326_346.out _; (with_reducible repeat (first | refine blk_drewN ?_ _ | refine blk_drew ?_ | refine blk_alloc ?_ _)); refine blk_far ?_ NB326_346.out _; (with_reducible repeat (first | refine blk_drewN ?_ _ | refine blk_drew ?_ | refine blk_alloc ?_ _)); refine blk_far ?_ NB326_346.out _; (with_reducible repeat (first | refine blk_drewN ?_ _ | refine blk_drew ?_ | refine blk_alloc ?_ _)); exact BK326.out) hb); have n8_ := am_ (blk_below (g := gb334) (o := .cells #[.int .i64 t327, .int .i64 t328, .int .i64 t329, u335003] 26 (0, 0)) (by (with_reducible repeat (first | refine blk_drewN ?_ _ | refine blk_drew ?_ | refine blk_alloc ?_ _)); refine blk_far ?_ NB334_346.out _; (with_reducible repeat (first | refine blk_drewN ?_ _ | refine blk_drew ?_ | refine blk_alloc ?_ _)); refine blk_far ?_ NB334_346.out _; (with_reducible repeat (first | refine blk_drewN ?_ _ | refine blk_drew ?_ | refine blk_alloc ?_ _)); refine blk_far ?_ NB334_346.out _; (with_reducible repeat (first | refine blk_drewN ?_ _ | refine blk_drew ?_ | refine blk_alloc ?_ _)); refine blk_far ?_ NB334_346.out _; (with_reducible repeat (first | refine blk_drewN ?_ _ | refine blk_drew ?_ | refine blk_alloc ?_ _)); exact BK334.out) hb); have n9_ := am_ (IsS54.below (show IsS54 w ((((w142.setCell ⟨gb346, 0, none⟩ (.int .i64 t339)).setCell ⟨gb346, 1, none⟩ (.int .i64 t340)).setCell ⟨gb346, 2, none⟩ (.int .i64 t341)).setCell ⟨gb346, 3, none⟩ (.slice Ao149 t342.length co149)) g300 t298 x301001_2 from by repeat (first | (with_reducible first | exact HI300.out | apply IsS54.alloc | apply IsS54.drewN | apply IsS54.drew | apply IsS54.set_1 | refine IsS54.far ?_ NB300_312.out _ | refine IsS54.far ?_ NB300_318.out _ | refine IsS54.far ?_ NB300_326.out _ | refine IsS54.far ?_ NB300_334.out _ | refine IsS54.far ?_ NB300_346.out _) | exact HI300.out)) hb); have n10_ := am_ (blk_below (g := gb346) (o := .cells #[.int .i64 t339, .int .i64 t340, .int .i64 t341, .slice Ao149 t342.length co149] 26 (0, 0)) (by (with_reducible repeat (first | refine blk_drewN ?_ _ | refine blk_drew ?_ | refine blk_alloc ?_ _)); refine blk_put (cs := #[.int .i64 t339, .int .i64 t340, .int .i64 t341, .slice none 0 0]) ?_ 3 _ rfl; (with_reducible repeat (first | refine blk_drewN ?_ _ | refine blk_drew ?_ | refine blk_alloc ?_ _)); refine blk_put (cs := #[.int .i64 t339, .int .i64 t340, .int .i64 0, .slice none 0 0]) ?_ 2 _ rfl; (with_reducible repeat (first | refine blk_drewN ?_ _ | refine blk_drew ?_ | refine blk_alloc ?_ _)); refine blk_put (cs := #[.int .i64 t339, .int .i64 0, .int .i64 0, .slice none 0 0]) ?_ 1 _ rfl; (with_reducible repeat (first | refine blk_drewN ?_ _ | refine blk_drew ?_ | refine blk_alloc ?_ _)); refine blk_put (cs := #[.int .i64 0, .int .i64 0, .int .i64 0, .slice none 0 0]) ?_ 0 _ rfl; (with_reducible repeat (first | refine blk_drewN ?_ _ | refine blk_drew ?_ | refine blk_alloc ?_ _)); exact BK346.out) hb); have n11_ := am_ (below_step q13_ hb); clear HO_313003; clear HO_327003; clear HO_335003; clear HO344; clear BK312; clear BK318; clear BK326; clear BK334; clear HI300; clear BK346; clear HB; have HO_313003 := n0_; have HO_327003 := n1_; have HO_335003 := n2_; have HO344 := n3_; have HO352 := n4_; have BK312 := n5_; have BK318 := n6_; have BK326 := n7_; have BK334 := n8_; have HI300 := n9_; have BK346 := n10_; have HB := n11_; clear n0_ n1_ n2_ n3_ n4_ n5_ n6_ n7_ n8_ n9_ n10_ n11_; (try clear ho0)) | ((with_reducible refine gate_dst (N := 15) rfl ?_); (try (refine gate_guard (by rfl) ?_; dsimp only)); refine box_event ?hg (N := 15) ?hd (cs := #[.int .i64 0, .int .i64 0, .int .i64 0, .slice none 0 0]) (t := 26) ?hr ?_; (case hd => rfl); (case hg => rfl); (case hr => first | (go_simp; done) | (go_simp; rfl)); intro gb354 hg w152 hbox hb; have n0_ := am_ (Kd.R_below q147_ hb); have n1_ := am_ (Kd.R_below q148_ hb); have n2_ := am_ (Kd.R_below q149_ hb); have n3_ := am_ (Kd.R_below q161_ hb); have n4_ := am_ (Kd.R_below q162_ hb); have n5_ := am_ (blk_below (g := gb312) (o := .cells #[.int .i64 t305, .int .i64 t306, .int .i64 t307, .slice Ao140 x313003_2.length co140] 26 (0, 0)) q140_ hb); have n6_ := am_ (blk_below (g := gb318) (o := .cells #[.int .i64 t313, .int .i64 t314, .int .i64 t315, .int .i64 t316] 31 (0, 0)) q141_ hb); have n7_ := am_ (blk_below (g := gb326) (o := .cells #[.int .i64 t319, .int .i64 t320, .int .i64 t321, .slice Ao132 x327003_2.length co132] 26 (0, 0)) q142_ hb); have n8_ := am_ (blk_below (g := gb334) (o := .cells #[.int .i64 t327, .int .i64 t328, .int .i64 t329, u335003] 26 (0, 0)) q143_ hb); have n9_ := am_ (IsS54.below (by repeat (first | (with_reducible first | exact HI300.out | apply IsS54.alloc | apply IsS54.drewN | apply IsS54.drew | apply IsS54.set_1 | refine IsS54.far ?_ NB300_312.out _ | refine IsS54.far ?_ NB300_318.out _ | refine IsS54.far ?_ NB300_326.out _ | refine IsS54.far ?_ NB300_334.out _ | refine IsS54.far ?_ NB300_346.out _) | exact HI300.out)) hb); have n10_ := am_ (blk_below (g := gb346) (o := .cells #[.int .i64 t339, .int .i64 t340, .int .i64 t341, .slice Ao149 t342.length co149] 26 (0, 0)) q144_ hb); have n11_ := am_ (below_step q13_ hb); have n12_ := am_ (hbox); have n13_ := am_ ((q10_ : w.heap.size ≤ gb354)); have n14_ := am_ ((q10_ : w.heap.size ≤ gb354)); have n15_ := am_ ((by rw [hg]; exact Nat.ne_of_lt (blk_lt (g := gb312) (o := .cells #[.int .i64 t305, .int .i64 t306, .int .i64 t307, .slice Ao140 x313003_2.length co140] 26 (0, 0)) q140_) : gb312 ≠ gb354)); have n16_ := am_ ((by rw [hg]; exact Nat.ne_of_gt (blk_lt (g := gb312) (o := .cells #[.int .i64 t305, .int .i64 t306, .int .i64 t307, .slice Ao140 x313003_2.length co140] 26 (0, 0)) q140_) : gb354 ≠ gb312)); have n17_ := am_ ((q39_ : gb318 ≠ gb354)); have n18_ := am_ ((q40_ : gb354 ≠ gb318)); have n19_ := am_ ((by rw [hg]; exact Nat.ne_of_lt (blk_lt (g := gb326) (o := .cells #[.int .i64 t319, .int .i64 t320, .int .i64 t321, .slice Ao132 x327003_2.length co132] 26 (0, 0)) q142_) : gb326 ≠ gb354)); have n20_ := am_ ((by rw [hg]; exact Nat.ne_of_gt (blk_lt (g := gb326) (o := .cells #[.int .i64 t319, .int .i64 t320, .int .i64 t321, .slice Ao132 x327003_2.length co132] 26 (0, 0)) q142_) : gb354 ≠ gb326)); have n21_ := am_ ((q44_ : gb334 ≠ gb354)); have n22_ := am_ ((q45_ : gb354 ≠ gb334)); have n23_ := am_ ((by rw [hg]; exact Nat.ne_of_lt (blk_lt (g := gb346) (o := .cells #[.int .i64 t339, .int .i64 t340, .int .i64 t341, .slice Ao149 t342.length co149] 26 (0, 0)) q144_) : gb346 ≠ gb354)); have n24_ := am_ ((by rw [hg]; exact Nat.ne_of_gt (blk_lt (g := gb346) (o := .cells #[.int .i64 t339, .int .i64 t340, .int .i64 t341, .slice Ao149 t342.length co149] 26 (0, 0)) q144_) : gb354 ≠ gb346)); have n25_ := am_ ((by rw [hg]; exact Nat.ne_of_lt (IsS54.lt (show IsS54 w _ g300 t298 x301001_2 from by repeat (first | (with_reducible first | exact HI300.out | apply IsS54.alloc | apply IsS54.drewN | apply IsS54.drew | apply IsS54.set_1 | refine IsS54.far ?_ NB300_312.out _ | refine IsS54.far ?_ NB300_318.out _ | refine IsS54.far ?_ NB300_326.out _ | refine IsS54.far ?_ NB300_334.out _ | refine IsS54.far ?_ NB300_346.out _) | exact HI300.out))) : g300 ≠ gb354)); have n26_ := am_ ((by rw [hg]; exact Nat.ne_of_gt (IsS54.lt (show IsS54 w _ g300 t298 x301001_2 from by repeat (first | (with_reducible first | exact HI300.out | apply IsS54.alloc | apply IsS54.drewN | apply IsS54.drew | apply IsS54.set_1 | refine IsS54.far ?_ NB300_312.out _ | refine IsS54.far ?_ NB300_318.out _ | refine IsS54.far ?_ NB300_326.out _ | refine IsS54.far ?_ NB300_334.out _ | refine IsS54.far ?_ NB300_346.out _) | exact HI300.out))) : gb354 ≠ g300)); clear HO_313003; clear HO_327003; clear HO_335003; clear HO344; clear HO352; clear BK312; clear BK318; clear BK326; clear BK334; clear HI300; clear BK346; clear HB; have HO_313003 := n0_; have HO_327003 := n1_; have HO_335003 := n2_; have HO344 := n3_; have HO352 := n4_; have BK312 := n5_; have BK318 := n6_; have BK326 := n7_; have BK334 := n8_; have HI300 := n9_; have BK346 := n10_; have HB := n11_; have BK354 := n12_; have GW354 := n13_; have GE354 := n14_; have NB312_354 := n15_; have NB354_312 := n16_; have NB318_354 := n17_; have NB354_318 := n18_; have NB326_354 := n19_; have NB354_326 := n20_; have NB334_354 := n21_; have NB354_334 := n22_; have NB346_354 := n23_; have NB354_346 := n24_; have NB300_354 := n25_; have NB354_300 := n26_; clear n0_ n1_ n2_ n3_ n4_ n5_ n6_ n7_ n8_ n9_ n10_ n11_ n12_ n13_ n14_ n15_ n16_ n17_ n18_ n19_ n20_ n21_ n22_ n23_ n24_ n25_ n26_; clear hb hbox hg; have hnb153 := NB354_312.out; have hnc153 := NB312_354.out; have hnb154 := NB354_318.out; have hnc154 := NB318_354.out; have hnb155 := NB354_326.out; have hnc155 := NB326_354.out; have hnb156 := NB354_334.out; have hnc156 := NB334_354.out; have hnb157 := NB354_346.out; have hnc157 := NB346_354.out; have hnb158 := NB354_300.out; have hnc158 := NB300_354.out; have hcz159_0 : w152.cell? ⟨gb354, 0, none⟩ = some (.int .i64 0) := (blk_cell BK354.out 0).trans rfl; have hcz159_1 : w152.cell? ⟨gb354, 1, none⟩ = some (.int .i64 0) := (blk_cell BK354.out 1).trans rfl; have hcz159_2 : w152.cell? ⟨gb354, 2, none⟩ = some (.int .i64 0) := (blk_cell BK354.out 2).trans rfl; have hcz159_3 : w152.cell? ⟨gb354, 3, none⟩ = some (.slice none 0 0) := (blk_cell BK354.out 3).trans rfl; have hfz159_0 := blk_frozen BK354.out 0; have hfz159_1 := blk_frozen BK354.out 1; have hfz159_2 := blk_frozen BK354.out 2; have hfz159_3 := blk_frozen BK354.out 3; obtain ⟨Ao160, co160, eo160⟩ := Kd.R_slice HO352.out; subst eo160; have hcz161_0 : w152.cell? ⟨gb312, 0, none⟩ = some (.int .i64 t305) := (blk_cell BK312.out 0).trans rfl; have hcz161_1 : w152.cell? ⟨gb312, 1, none⟩ = some (.int .i64 t306) := (blk_cell BK312.out 1).trans rfl; have hcz161_2 : w152.cell? ⟨gb312, 2, none⟩ = some (.int .i64 t307) := (blk_cell BK312.out 2).trans rfl; have hcz161_3 : w152.cell? ⟨gb312, 3, none⟩ = some (.slice Ao140 x313003_2.length co140) := (blk_cell BK312.out 3).trans rfl; have hfz161_0 := blk_frozen BK312.out 0; have hfz161_1 := blk_frozen BK312.out 1; have hfz161_2 := blk_frozen BK312.out 2; have hfz161_3 := blk_frozen BK312.out 3) | ((with_reducible refine gate_callee (f := 22) rfl ?_); refine goesL_ (some 99) rfl rfl Try.func22 (by kernel_rfl) rfl #[.int .i64 a1, .int .i64 (x313003_2.length : Int)] rfl q108_ ?_; (with_reducible refine (tilefarmgen_Mod.calls a1 (x313003_2.length : Int) t355 _ A71.out).mono ?_); rintro e w' ⟨rfl, ⟨nd, rfl⟩⟩; refine ⟨_, rfl, ?_⟩))
                 have n0_ : Aside0 (Kd.R (Kd.int .i64) 3 ((((w152.setCell ⟨gb354, 0, none⟩ (.int .i64 t347)).setCell ⟨gb354, 1, none⟩ (.int .i64 t348)).setCell ⟨gb354, 2, none⟩ (.int .i64 t349)).setCell ⟨gb354, 3, none⟩ (.slice Ao160 t350.length co160)) w.heap.size (fun k_ => some k_ ≠ (.slice Ao132 x327003_2.length co132 : Value).ownBlock ∧ some k_ ≠ (u335003 : Value).ownBlock ∧ some k_ ≠ (.slice Ao149 t342.length co149 : Value).ownBlock ∧ some k_ ≠ (.slice Ao160 t350.length co160 : Value).ownBlock) (.slice Ao140 x313003_2.length co140) x313003_2) := ⟨by (with_reducible repeat (first | apply Kd.R_alloc | apply Kd.R_drewN | apply Kd.R_drew)); exact Kd.R_mono (Kd.R_far (p := ⟨gb354, 3, none⟩) (Kd.R_far (p := ⟨gb354, 2, none⟩) (Kd.R_far (p := ⟨gb354, 1, none⟩) (Kd.R_far (p := ⟨gb354, 0, none⟩) (Kd.R_types HO_313003.out BK354.out (by decide)) (fun _ hk => hk.2) (.int .i64 t347)) (fun _ hk => hk.2) (.int .i64 t348)) (fun _ hk => hk.2) (.int .i64 t349)) (fun _ hk => hk.2) (.slice Ao160 t350.length co160)) (fun _ hk => ⟨hk.1.1.1.1, ⟨hk.1.1.1.2, ⟨hk.1.1.2, hk.1.2⟩⟩⟩)⟩
                 have n1_ : Aside0 (Kd.R (Kd.int .i64) 3 ((((w152.setCell ⟨gb354, 0, none⟩ (.int .i64 t347)).setCell ⟨gb354, 1, none⟩ (.int .i64 t348)).setCell ⟨gb354, 2, none⟩ (.int .i64 t349)).setCell ⟨gb354, 3, none⟩ (.slice Ao160 t350.length co160)) w.heap.size (fun k_ => some k_ ≠ (.slice Ao140 x313003_2.length co140 : Value).ownBlock ∧ some k_ ≠ (u335003 : Value).ownBlock ∧ some k_ ≠ (.slice Ao149 t342.length co149 : Value).ownBlock ∧ some k_ ≠ (.slice Ao160 t350.length co160 : Value).ownBlock) (.slice Ao132 x327003_2.length co132) x327003_2) := ⟨by (with_reducible repeat (first | apply Kd.R_alloc | apply Kd.R_drewN | apply Kd.R_drew)); exact Kd.R_mono (Kd.R_far (p := ⟨gb354, 3, none⟩) (Kd.R_far (p := ⟨gb354, 2, none⟩) (Kd.R_far (p := ⟨gb354, 1, none⟩) (Kd.R_far (p := ⟨gb354, 0, none⟩) (Kd.R_types HO_327003.out BK354.out (by decide)) (fun _ hk => hk.2) (.int .i64 t347)) (fun _ hk => hk.2) (.int .i64 t348)) (fun _ hk => hk.2) (.int .i64 t349)) (fun _ hk => hk.2) (.slice Ao160 t350.length co160)) (fun _ hk => ⟨hk.1.1.1.1, ⟨hk.1.1.1.2, ⟨hk.1.1.2, hk.1.2⟩⟩⟩)⟩
                 have n2_ : Aside0 (Kd.R (Kd.int .i64) 3 ((((w152.setCell ⟨gb354, 0, none⟩ (.int .i64 t347)).setCell ⟨gb354, 1, none⟩ (.int .i64 t348)).setCell ⟨gb354, 2, none⟩ (.int .i64 t349)).setCell ⟨gb354, 3, none⟩ (.slice Ao160 t350.length co160)) w.heap.size (fun k_ => some k_ ≠ (.slice Ao140 x313003_2.length co140 : Value).ownBlock ∧ some k_ ≠ (.slice Ao132 x327003_2.length co132 : Value).ownBlock ∧ some k_ ≠ (.slice Ao149 t342.length co149 : Value).ownBlock ∧ some k_ ≠ (.slice Ao160 t350.length co160 : Value).ownBlock) u335003 x335003_2) := ⟨by (with_reducible repeat (first | apply Kd.R_alloc | apply Kd.R_drewN | apply Kd.R_drew)); exact Kd.R_mono (Kd.R_far (p := ⟨gb354, 3, none⟩) (Kd.R_far (p := ⟨gb354, 2, none⟩) (Kd.R_far (p := ⟨gb354, 1, none⟩) (Kd.R_far (p := ⟨gb354, 0, none⟩) (Kd.R_types HO_335003.out BK354.out (by decide)) (fun _ hk => hk.2) (.int .i64 t347)) (fun _ hk => hk.2) (.int .i64 t348)) (fun _ hk => hk.2) (.int .i64 t349)) (fun _ hk => hk.2) (.slice Ao160 t350.length co160)) (fun _ hk => ⟨hk.1.1.1.1, ⟨hk.1.1.1.2, ⟨hk.1.1.2, hk.1.2⟩⟩⟩)⟩
                 have n3_ : Aside0 (Kd.R (Kd.int .i64) 3 ((((w152.setCell ⟨gb354, 0, none⟩ (.int .i64 t347)).setCell ⟨gb354, 1, none⟩ (.int .i64 t348)).setCell ⟨gb354, 2, none⟩ (.int .i64 t349)).setCell ⟨gb354, 3, none⟩ (.slice Ao160 t350.length co160)) w.heap.size (fun k_ => some k_ ≠ (.slice Ao140 x313003_2.length co140 : Value).ownBlock ∧ some k_ ≠ (.slice Ao132 x327003_2.length co132 : Value).ownBlock ∧ some k_ ≠ (u335003 : Value).ownBlock ∧ some k_ ≠ (.slice Ao160 t350.length co160 : Value).ownBlock) (.slice Ao149 t342.length co149) t342) := ⟨by (with_reducible repeat (first | apply Kd.R_alloc | apply Kd.R_drewN | apply Kd.R_drew)); exact Kd.R_mono (Kd.R_far (p := ⟨gb354, 3, none⟩) (Kd.R_far (p := ⟨gb354, 2, none⟩) (Kd.R_far (p := ⟨gb354, 1, none⟩) (Kd.R_far (p := ⟨gb354, 0, none⟩) (Kd.R_types HO344.out BK354.out (by decide)) (fun _ hk => hk.2) (.int .i64 t347)) (fun _ hk => hk.2) (.int .i64 t348)) (fun _ hk => hk.2) (.int .i64 t349)) (fun _ hk => hk.2) (.slice Ao160 t350.length co160)) (fun _ hk => ⟨hk.1.1.1.1.2, ⟨hk.1.1.1.2, ⟨hk.1.1.2, hk.1.2⟩⟩⟩)⟩
                 have n4_ : Aside0 (Kd.R (Kd.int .i64) 3 ((((w152.setCell ⟨gb354, 0, none⟩ (.int .i64 t347)).setCell ⟨gb354, 1, none⟩ (.int .i64 t348)).setCell ⟨gb354, 2, none⟩ (.int .i64 t349)).setCell ⟨gb354, 3, none⟩ (.slice Ao160 t350.length co160)) w.heap.size (fun k_ => some k_ ≠ (.slice Ao140 x313003_2.length co140 : Value).ownBlock ∧ some k_ ≠ (.slice Ao132 x327003_2.length co132 : Value).ownBlock ∧ some k_ ≠ (u335003 : Value).ownBlock ∧ some k_ ≠ (.slice Ao149 t342.length co149 : Value).ownBlock) (.slice Ao160 t350.length co160) t350) := ⟨by (with_reducible repeat (first | apply Kd.R_alloc | apply Kd.R_drewN | apply Kd.R_drew)); exact Kd.R_mono (Kd.R_far (p := ⟨gb354, 3, none⟩) (Kd.R_far (p := ⟨gb354, 2, none⟩) (Kd.R_far (p := ⟨gb354, 1, none⟩) (Kd.R_far (p := ⟨gb354, 0, none⟩) (Kd.R_types HO352.out BK354.out (by decide)) (fun _ hk => hk.2) (.int .i64 t347)) (fun _ hk => hk.2) (.int .i64 t348)) (fun _ hk => hk.2) (.int .i64 t349)) (fun _ hk => hk.2) (.slice Ao160 t350.length co160)) (fun _ hk => ⟨hk.1.1.1.1.2, ⟨hk.1.1.1.2, ⟨hk.1.1.2, hk.1.2⟩⟩⟩)⟩
                 have n5_ : Aside0 (((((w152.setCell ⟨gb354, 0, none⟩ (.int .i64 t347)).setCell ⟨gb354, 1, none⟩ (.int .i64 t348)).setCell ⟨gb354, 2, none⟩ (.int .i64 t349)).setCell ⟨gb354, 3, none⟩ (.slice Ao160 t350.length co160)).heap[gb312]? = some (.cells #[.int .i64 t305, .int .i64 t306, .int .i64 t307, .slice Ao140 x313003_2.length co140] 26 (0, 0))) := ⟨by (with_reducible repeat (first | refine blk_drewN ?_ _ | refine blk_drew ?_ | refine blk_alloc ?_ _)); refine blk_far ?_ NB312_354.out _; (with_reducible repeat (first | refine blk_drewN ?_ _ | refine blk_drew ?_ | refine blk_alloc ?_ _)); refine blk_far ?_ NB312_354.out _; (with_reducible repeat (first | refine blk_drewN ?_ _ | refine blk_drew ?_ | refine blk_alloc ?_ _)); refine blk_far ?_ NB312_354.out _; (with_reducible repeat (first | refine blk_drewN ?_ _ | refine blk_drew ?_ | refine blk_alloc ?_ _)); refine blk_far ?_ NB312_354.out _; (with_reducible repeat (first | refine blk_drewN ?_ _ | refine blk_drew ?_ | refine blk_alloc ?_ _)); exact BK312.out⟩
                 have n6_ : Aside0 (((((w152.setCell ⟨gb354, 0, none⟩ (.int .i64 t347)).setCell ⟨gb354, 1, none⟩ (.int .i64 t348)).setCell ⟨gb354, 2, none⟩ (.int .i64 t349)).setCell ⟨gb354, 3, none⟩ (.slice Ao160 t350.length co160)).heap[gb318]? = some (.cells #[.int .i64 t313, .int .i64 t314, .int .i64 t315, .int .i64 t316] 31 (0, 0))) := ⟨by (with_reducible repeat (first | refine blk_drewN ?_ _ | refine blk_drew ?_ | refine blk_alloc ?_ _)); refine blk_far ?_ NB318_354.out _; (with_reducible repeat (first | refine blk_drewN ?_ _ | refine blk_drew ?_ | refine blk_alloc ?_ _)); refine blk_far ?_ NB318_354.out _; (with_reducible repeat (first | refine blk_drewN ?_ _ | refine blk_drew ?_ | refine blk_alloc ?_ _)); refine blk_far ?_ NB318_354.out _; (with_reducible repeat (first | refine blk_drewN ?_ _ | refine blk_drew ?_ | refine blk_alloc ?_ _)); refine blk_far ?_ NB318_354.out _; (with_reducible repeat (first | refine blk_drewN ?_ _ | refine blk_drew ?_ | refine blk_alloc ?_ _)); exact BK318.out⟩
                 have n7_ : Aside0 (((((w152.setCell ⟨gb354, 0, none⟩ (.int .i64 t347)).setCell ⟨gb354, 1, none⟩ (.int .i64 t348)).setCell ⟨gb354, 2, none⟩ (.int .i64 t349)).setCell ⟨gb354, 3, none⟩ (.slice Ao160 t350.length co160)).heap[gb326]? = some (.cells #[.int .i64 t319, .int .i64 t320, .int .i64 t321, .slice Ao132 x327003_2.length co132] 26 (0, 0))) := ⟨by (with_reducible repeat (first | refine blk_drewN ?_ _ | refine blk_drew ?_ | refine blk_alloc ?_ _)); refine blk_far ?_ NB326_354.out _; (with_reducible repeat (first | refine blk_drewN ?_ _ | refine blk_drew ?_ | refine blk_alloc ?_ _)); refine blk_far ?_ NB326_354.out _; (with_reducible repeat (first | refine blk_drewN ?_ _ | refine blk_drew ?_ | refine blk_alloc ?_ _)); refine blk_far ?_ NB326_354.out _; (with_reducible repeat (first | refine blk_drewN ?_ _ | refine blk_drew ?_ | refine blk_alloc ?_ _)); refine blk_far ?_ NB326_354.out _; (with_reducible repeat (first | refine blk_drewN ?_ _ | refine blk_drew ?_ | refine blk_alloc ?_ _)); exact BK326.out⟩
                 have n8_ : Aside0 (((((w152.setCell ⟨gb354, 0, none⟩ (.int .i64 t347)).setCell ⟨gb354, 1, none⟩ (.int .i64 t348)).setCell ⟨gb354, 2, none⟩ (.int .i64 t349)).setCell ⟨gb354, 3, none⟩ (.slice Ao160 t350.length co160)).heap[gb334]? = some (.cells #[.int .i64 t327, .int .i64 t328, .int .i64 t329, u335003] 26 (0, 0))) := ⟨by (with_reducible repeat (first | refine blk_drewN ?_ _ | refine blk_drew ?_ | refine blk_alloc ?_ _)); refine blk_far ?_ NB334_354.out _; (with_reducible repeat (first | refine blk_drewN ?_ _ | refine blk_drew ?_ | refine blk_alloc ?_ _)); refine blk_far ?_ NB334_354.out _; (with_reducible repeat (first | refine blk_drewN ?_ _ | refine blk_drew ?_ | refine blk_alloc ?_ _)); refine blk_far ?_ NB334_354.out _; (with_reducible repeat (first | refine blk_drewN ?_ _ | refine blk_drew ?_ | refine blk_alloc ?_ _)); refine blk_far ?_ NB334_354.out _; (with_reducible repeat (first | refine blk_drewN ?_ _ | refine blk_drew ?_ | refine blk_alloc ?_ _)); exact BK334.out⟩
                 have n9_ : Aside0 (((((w152.setCell ⟨gb354, 0, none⟩ (.int .i64 t347)).setCell ⟨gb354, 1, none⟩ (.int .i64 t348)).setCell ⟨gb354, 2, none⟩ (.int .i64 t349)).setCell ⟨gb354, 3, none⟩ (.slice Ao160 t350.length co160)).heap[gb346]? = some (.cells #[.int .i64 t339, .int .i64 t340, .int .i64 t341, .slice Ao149 t342.length co149] 26 (0, 0))) := ⟨by (with_reducible repeat (first | refine blk_drewN ?_ _ | refine blk_drew ?_ | refine blk_alloc ?_ _)); refine blk_far ?_ NB346_354.out _; (with_reducible repeat (first | refine blk_drewN ?_ _ | refine blk_drew ?_ | refine blk_alloc ?_ _)); refine blk_far ?_ NB346_354.out _; (with_reducible repeat (first | refine blk_drewN ?_ _ | refine blk_drew ?_ | refine blk_alloc ?_ _)); refine blk_far ?_ NB346_354.out _; (with_reducible repeat (first | refine blk_drewN ?_ _ | refine blk_drew ?_ | refine blk_alloc ?_ _)); refine blk_far ?_ NB346_354.out _; (with_reducible repeat (first | refine blk_drewN ?_ _ | refine blk_drew ?_ | refine blk_alloc ?_ _)); exact BK346.out⟩
                 have n10_ : Aside0 (((((w152.setCell ⟨gb354, 0, none⟩ (.int .i64 t347)).setCell ⟨gb354, 1, none⟩ (.int .i64 t348)).setCell ⟨gb354, 2, none⟩ (.int .i64 t349)).setCell ⟨gb354, 3, none⟩ (.slice Ao160 t350.length co160)).heap[gb354]? = some (.cells #[.int .i64 t347, .int .i64 t348, .int .i64 t349, .slice Ao160 t350.length co160] 26 (0, 0))) := ⟨by (with_reducible repeat (first | refine blk_drewN ?_ _ | refine blk_drew ?_ | refine blk_alloc ?_ _)); refine blk_put (cs := #[.int .i64 t347, .int .i64 t348, .int .i64 t349, .slice none 0 0]) ?_ 3 _ rfl; (with_reducible repeat (first | refine blk_drewN ?_ _ | refine blk_drew ?_ | refine blk_alloc ?_ _)); refine blk_put (cs := #[.int .i64 t347, .int .i64 t348, .int .i64 0, .slice none 0 0]) ?_ 2 _ rfl; (with_reducible repeat (first | refine blk_drewN ?_ _ | refine blk_drew ?_ | refine blk_alloc ?_ _)); refine blk_put (cs := #[.int .i64 t347, .int .i64 0, .int .i64 0, .slice none 0 0]) ?_ 1 _ rfl; (with_reducible repeat (first | refine blk_drewN ?_ _ | refine blk_drew ?_ | refine blk_alloc ?_ _)); refine blk_put (cs := #[.int .i64 0, .int .i64 0, .int .i64 0, .slice none 0 0]) ?_ 0 _ rfl; (with_reducible repeat (first | refine blk_drewN ?_ _ | refine blk_drew ?_ | refine blk_alloc ?_ _)); exact BK354.out⟩
                 have n11_ : Aside0 (IsS54 w ((((w152.setCell ⟨gb354, 0, none⟩ (.int .i64 t347)).setCell ⟨gb354, 1, none⟩ (.int .i64 t348)).setCell ⟨gb354, 2, none⟩ (.int .i64 t349)).setCell ⟨gb354, 3, none⟩ (.slice Ao160 t350.length co160)) g300 t298 x301001_2) := ⟨q9_⟩
                 have n12_ : Aside0 (Below w.heap.size w ((((w152.setCell ⟨gb354, 0, none⟩ (.int .i64 t347)).setCell ⟨gb354, 1, none⟩ (.int .i64 t348)).setCell ⟨gb354, 2, none⟩ (.int .i64 t349)).setCell ⟨gb354, 3, none⟩ (.slice Ao160 t350.length co160))) := ⟨q11_⟩
                 (try clear HO_313003)
                 (try clear HO_327003)
                 (try clear HO_335003)
                 (try clear HO344)
                 (try clear HO352)
                 (try clear BK312)
                 (try clear BK318)
                 (try clear BK326)
                 (try clear BK334)
                 (try clear BK346)
                 (try clear BK354)
                 (try clear HI300)
                 (try clear HB)
                 generalize ((((w152.setCell ⟨gb354, 0, none⟩ (.int .i64 t347)).setCell ⟨gb354, 1, none⟩ (.int .i64 t348)).setCell ⟨gb354, 2, none⟩ (.int .i64 t349)).setCell ⟨gb354, 3, none⟩ (.slice Ao160 t350.length co160)) = w162 at n0_ n1_ n2_ n3_ n4_ n5_ n6_ n7_ n8_ n9_ n10_ n11_ n12_ ⊢
                 have HO_313003 := n0_
                 have HO_327003 := n1_
                 have HO_335003 := n2_
                 have HO344 := n3_
                 have HO352 := n4_
                 have BK312 := n5_
                 have BK318 := n6_
                 have BK326 := n7_
                 have BK334 := n8_
                 have BK346 := n9_
                 have BK354 := n10_
                 have HI300 := n11_
                 have HB := n12_
                 clear n0_ n1_ n2_ n3_ n4_ n5_ n6_ n7_ n8_ n9_ n10_ n11_ n12_
                 (try (rw [drewN_self w162]; generalize hq_ : World.drewN w162 _ = w162; have n0_ : Aside0 (Kd.R (Kd.int .i64) 3 w162 w.heap.size (fun k_ => some k_ ≠ (.slice Ao160 t350.length co160 : Value).ownBlock ∧ some k_ ≠ (.slice Ao140 x313003_2.length co140 : Value).ownBlock ∧ some k_ ≠ (.slice Ao132 x327003_2.length co132 : Value).ownBlock ∧ some k_ ≠ (u335003 : Value).ownBlock) (.slice Ao149 t342.length co149) t342) := ⟨by rw [← hq_]; exact (by (with_reducible repeat (first | apply Kd.R_alloc | apply Kd.R_drewN | apply Kd.R_drew)); exact Kd.R_mono HO344.out (fun _ hk => ⟨hk.2.2.2, ⟨hk.1, ⟨hk.2.1, hk.2.2.1⟩⟩⟩))⟩; have n1_ : Aside0 (Kd.R (Kd.int .i64) 3 w162 w.heap.size (fun k_ => some k_ ≠ (.slice Ao149 t342.length co149 : Value).ownBlock ∧ some k_ ≠ (.slice Ao140 x313003_2.length co140 : Value).ownBlock ∧ some k_ ≠ (.slice Ao132 x327003_2.length co132 : Value).ownBlock ∧ some k_ ≠ (u335003 : Value).ownBlock) (.slice Ao160 t350.length co160) t350) := ⟨by rw [← hq_]; exact (by (with_reducible repeat (first | apply Kd.R_alloc | apply Kd.R_drewN | apply Kd.R_drew)); exact Kd.R_mono HO352.out (fun _ hk => ⟨hk.2.2.2, ⟨hk.1, ⟨hk.2.1, hk.2.2.1⟩⟩⟩))⟩; have n2_ : Aside0 (Kd.R (Kd.int .i64) 3 w162 w.heap.size (fun k_ => some k_ ≠ (.slice Ao149 t342.length co149 : Value).ownBlock ∧ some k_ ≠ (.slice Ao160 t350.length co160 : Value).ownBlock ∧ some k_ ≠ (.slice Ao132 x327003_2.length co132 : Value).ownBlock ∧ some k_ ≠ (u335003 : Value).ownBlock) (.slice Ao140 x313003_2.length co140) x313003_2) := ⟨by rw [← hq_]; exact (by (with_reducible repeat (first | apply Kd.R_alloc | apply Kd.R_drewN | apply Kd.R_drew)); exact Kd.R_mono HO_313003.out (fun _ hk => ⟨hk.2.2.1, ⟨hk.2.2.2, ⟨hk.1, hk.2.1⟩⟩⟩))⟩; have n3_ : Aside0 (Kd.R (Kd.int .i64) 3 w162 w.heap.size (fun k_ => some k_ ≠ (.slice Ao149 t342.length co149 : Value).ownBlock ∧ some k_ ≠ (.slice Ao160 t350.length co160 : Value).ownBlock ∧ some k_ ≠ (.slice Ao140 x313003_2.length co140 : Value).ownBlock ∧ some k_ ≠ (u335003 : Value).ownBlock) (.slice Ao132 x327003_2.length co132) x327003_2) := ⟨by rw [← hq_]; exact (by (with_reducible repeat (first | apply Kd.R_alloc | apply Kd.R_drewN | apply Kd.R_drew)); exact Kd.R_mono HO_327003.out (fun _ hk => ⟨hk.2.2.1, ⟨hk.2.2.2, ⟨hk.1, hk.2.1⟩⟩⟩))⟩; have n4_ : Aside0 (Kd.R (Kd.int .i64) 3 w162 w.heap.size (fun k_ => some k_ ≠ (.slice Ao149 t342.length co149 : Value).ownBlock ∧ some k_ ≠ (.slice Ao160 t350.length co160 : Value).ownBlock ∧ some k_ ≠ (.slice Ao140 x313003_2.length co140 : Value).ownBlock ∧ some k_ ≠ (.slice Ao132 x327003_2.length co132 : Value).ownBlock) u335003 x335003_2) := ⟨by rw [← hq_]; exact (by (with_reducible repeat (first | apply Kd.R_alloc | apply Kd.R_drewN | apply Kd.R_drew)); exact Kd.R_mono HO_335003.out (fun _ hk => ⟨hk.2.2.1, ⟨hk.2.2.2, ⟨hk.1, hk.2.1⟩⟩⟩))⟩; have n5_ : Aside0 (w162.heap[gb312]? = some (.cells #[.int .i64 t305, .int .i64 t306, .int .i64 t307, .slice Ao140 x313003_2.length co140] 26 (0, 0))) := ⟨by rw [← hq_]; exact q140_⟩; have n6_ : Aside0 (w162.heap[gb318]? = some (.cells #[.int .i64 t313, .int .i64 t314, .int .i64 t315, .int .i64 t316] 31 (0, 0))) := ⟨by rw [← hq_]; exact q141_⟩; have n7_ : Aside0 (w162.heap[gb326]? = some (.cells #[.int .i64 t319, .int .i64 t320, .int .i64 t321, .slice Ao132 x327003_2.length co132] 26 (0, 0))) := ⟨by rw [← hq_]; exact q142_⟩; have n8_ : Aside0 (w162.heap[gb334]? = some (.cells #[.int .i64 t327, .int .i64 t328, .int .i64 t329, u335003] 26 (0, 0))) := ⟨by rw [← hq_]; exact q143_⟩; have n9_ : Aside0 (w162.heap[gb346]? = some (.cells #[.int .i64 t339, .int .i64 t340, .int .i64 t341, .slice Ao149 t342.length co149] 26 (0, 0))) := ⟨by rw [← hq_]; exact q144_⟩; have n10_ : Aside0 (w162.heap[gb354]? = some (.cells #[.int .i64 t347, .int .i64 t348, .int .i64 t349, .slice Ao160 t350.length co160] 26 (0, 0))) := ⟨by rw [← hq_]; exact q145_⟩; have n11_ : Aside0 (IsS54 w w162 g300 t298 x301001_2) := ⟨by rw [← hq_]; exact q9_⟩; have n12_ : Aside0 (Below w.heap.size w w162) := ⟨by rw [← hq_]; exact q11_⟩; clear HO344 HO352 HO_313003 HO_327003 HO_335003 BK312 BK318 BK326 BK334 BK346 BK354 HI300 HB hq_; have HO344 := n0_; have HO352 := n1_; have HO_313003 := n2_; have HO_327003 := n3_; have HO_335003 := n4_; have BK312 := n5_; have BK318 := n6_; have BK326 := n7_; have BK334 := n8_; have BK346 := n9_; have BK354 := n10_; have HI300 := n11_; have HB := n12_; clear n0_ n1_ n2_ n3_ n4_ n5_ n6_ n7_ n8_ n9_ n10_ n11_ n12_))
                 have n0_ := am_ (Kd.R_drew HO_313003.out)
                 have n1_ := am_ (Kd.R_drew HO_327003.out)
                 have n2_ := am_ (Kd.R_drew HO_335003.out)
                 have n3_ := am_ (Kd.R_drew HO344.out)
                 have n4_ := am_ (Kd.R_drew HO352.out)
                 have n5_ := am_ (blk_drew BK312.out)
                 have n6_ := am_ (blk_drew BK318.out)
                 have n7_ := am_ (blk_drew BK326.out)
                 have n8_ := am_ (blk_drew BK334.out)
                 have n9_ := am_ (blk_drew BK346.out)
                 have n10_ := am_ (blk_drew BK354.out)
                 have n11_ := am_ (IsS54.drew HI300.out)
                 have n12_ := am_ (below_drew1 HB.out)
                 clear HO_313003
                 clear HO_327003
                 clear HO_335003
                 clear HO344
                 clear HO352
                 clear BK312
                 clear BK318
                 clear BK326
                 clear BK334
                 clear BK346
                 clear BK354
                 clear HI300
                 clear HB
                 have HO_313003 := n0_
                 have HO_327003 := n1_
                 have HO_335003 := n2_
                 have HO344 := n3_
                 have HO352 := n4_
                 have BK312 := n5_
                 have BK318 := n6_
                 have BK326 := n7_
                 have BK334 := n8_
                 have BK346 := n9_
                 have BK354 := n10_
                 have HI300 := n11_
                 have HB := n12_
                 clear n0_ n1_ n2_ n3_ n4_ n5_ n6_ n7_ n8_ n9_ n10_ n11_ n12_
                 refine start_ (n := 11) (S := fun w' => w'.cell? ⟨gb318, 0, none⟩ = some (.int .i64 t313) ∧ w'.cell? ⟨gb318, 1, none⟩ = some (.int .i64 t314) ∧ w'.cell? ⟨gb318, 2, none⟩ = some (.int .i64 t315) ∧ w'.cell? ⟨gb318, 3, none⟩ = some (.int .i64 t316) ∧ w'.cell? ⟨gb312, 0, none⟩ = some (.int .i64 t305) ∧ w'.cell? ⟨gb312, 1, none⟩ = some (.int .i64 t306) ∧ w'.cell? ⟨gb312, 2, none⟩ = some (.int .i64 t307) ∧ w'.cell? ⟨gb312, 3, none⟩ = some (.slice Ao140 x313003_2.length co140)) (ds := []) #[false, false, false, false, false, false, false, false, false, false, false] (by kernel_rfl) rfl rfl ⟨(blk_cell BK318.out 0).trans rfl, (blk_cell BK318.out 1).trans rfl, (blk_cell BK318.out 2).trans rfl, (blk_cell BK318.out 3).trans rfl, (blk_cell BK312.out 0).trans rfl, (blk_cell BK312.out 1).trans rfl, (blk_cell BK312.out 2).trans rfl, (blk_cell BK312.out 3).trans rfl⟩ (fun hHeld => ?_); refine with_tabW tilefarmlaw4_PlaneBlits.tab15 tilefarmlaw4_PlaneBlits.bits15 (fun HT_ HW_ => ?_)
                 generalize w162.drew = w163 at HO_313003 HO_327003 HO_335003 HO344 HO352 BK312 BK318 BK326 BK334 BK346 BK354 HI300 HB hHeld ⊢
                 refine pure_ (i := 1) (N := some 101) (v := ?_) (a' := ?_) #[false, true, false, false, false, false, false, false, false, false, false] rfl rfl (any_of HT_.out (by kernel_rfl)) (fun _ _ _ h => h) (Or.inl ⟨by rfl, ?_⟩) ?_ ?_
                 rotate_left
                 ·intro w'
                  go_simp
                  with_reducible rfl
                 rotate_left
                 ·simp only [Act.put, List.setIfInBounds_toArray, List.set_cons_zero, List.set_cons_succ, i64_w, i32_w]
                  rfl
                 refine pure_ (i := 2) (N := some 102) (v := ?_) (a' := ?_) #[false, true, true, false, false, false, false, false, false, false, false] rfl rfl (any_of HT_.out (by kernel_rfl)) (fun _ _ _ h => h) (Or.inl ⟨by rfl, ?_⟩) ?_ ?_
                 rotate_left
                 ·intro w'
                  go_simp
                  with_reducible rfl
                 rotate_left
                 ·simp only [Act.put, List.setIfInBounds_toArray, List.set_cons_zero, List.set_cons_succ, i64_w, i32_w]
                  rfl
                 refine pure_ (i := 5) (N := some 105) (v := ?_) (a' := ?_) #[false, true, true, false, false, true, false, false, false, false, false] rfl rfl (any_of HT_.out (by kernel_rfl)) (fun _ _ _ h => h) (Or.inl ⟨by rfl, ?_⟩) ?_ ?_
                 rotate_left
                 ·intro w'
                  go_simp
                  with_reducible rfl
                 rotate_left
                 ·simp only [Act.put, List.setIfInBounds_toArray, List.set_cons_zero, List.set_cons_succ, i64_w, i32_w]
                  rfl
                 refine pure_ (i := 6) (N := some 106) (v := ?_) (a' := ?_) #[false, true, true, false, false, true, true, false, false, false, false] rfl rfl (any_of HT_.out (by kernel_rfl)) (fun _ _ _ h => h) (Or.inl ⟨by rfl, ?_⟩) ?_ ?_
                 rotate_left
                 ·intro w'
                  go_simp
                  with_reducible rfl
                 rotate_left
                 ·simp only [Act.put, List.setIfInBounds_toArray, List.set_cons_zero, List.set_cons_succ, i64_w, i32_w]
                  rfl
                 refine take_ (i := 0) (N := some 100) (v := ?_) (a' := ?_) #[true, true, true, false, false, true, true, false, false, false, false] rfl rfl (take_ofW HT_.out HW_.out (by kernel_rfl)) (fun _ _ _ h => h) (Or.inl ⟨by rfl, ?_⟩) hHeld ?_ ?_
                 rotate_left
                 ·rintro w' ⟨s0, s1, s2, s3, s4, s5, s6, s7⟩
                  go_simp
                  with_reducible rfl
                 rotate_left
                 ·simp only [Act.put, List.setIfInBounds_toArray, List.set_cons_zero, List.set_cons_succ, i64_w, i32_w]
                  rfl
                 refine take_ (i := 3) (N := some 103) (v := ?_) (a' := ?_) #[true, true, true, true, false, true, true, false, false, false, false] rfl rfl (take_ofW HT_.out HW_.out (by kernel_rfl)) (fun _ _ _ h => h) (Or.inl ⟨by rfl, ?_⟩) hHeld ?_ ?_
                 rotate_left
                 ·rintro w' ⟨s0, s1, s2, s3, s4, s5, s6, s7⟩
                  go_simp
                  with_reducible rfl
                 rotate_left
                 ·simp only [Act.put, List.setIfInBounds_toArray, List.set_cons_zero, List.set_cons_succ, i64_w, i32_w]
                  rfl
                 refine pure_ (i := 4) (N := some 104) (v := ?_) (a' := ?_) #[true, true, true, true, true, true, true, false, false, false, false] rfl rfl (any_of HT_.out (by kernel_rfl)) (fun _ _ _ h => h) (Or.inl ⟨by rfl, ?_⟩) ?_ ?_
                 rotate_left
                 ·intro w'
                  go_simp
                  with_reducible rfl
                 rotate_left
                 ·simp only [Act.put, List.setIfInBounds_toArray, List.set_cons_zero, List.set_cons_succ, i64_w, i32_w]
                  rfl
                 refine take_ (i := 7) (N := some 107) (v := ?_) (a' := ?_) #[true, true, true, true, true, true, true, true, false, false, false] rfl rfl (take_ofW HT_.out HW_.out (by kernel_rfl)) (fun _ _ _ h => h) (Or.inl ⟨by rfl, ?_⟩) hHeld ?_ ?_
                 rotate_left
                 ·rintro w' ⟨s0, s1, s2, s3, s4, s5, s6, s7⟩
                  go_simp
                  with_reducible rfl
                 rotate_left
                 ·simp only [Act.put, List.setIfInBounds_toArray, List.set_cons_zero, List.set_cons_succ, i64_w, i32_w]
                  rfl
                 refine pure_ (i := 8) (N := some 108) (v := ?_) (a' := ?_) #[true, true, true, true, true, true, true, true, true, false, false] rfl rfl (any_of HT_.out (by kernel_rfl)) (fun _ _ _ h => h) (Or.inl ⟨by rfl, ?_⟩) ?_ ?_
                 rotate_left
                 ·intro w'
                  go_simp
                  with_reducible rfl
                 rotate_left
                 ·simp only [Act.put, List.setIfInBounds_toArray, List.set_cons_zero, List.set_cons_succ, i64_w, i32_w]
                  rfl
                 refine one_ (i := 9) (N := some 109) #[true, true, true, true, true, true, true, true, true, true, false] rfl rfl (one_of HT_.out (by kernel_rfl)) (by decide) (fun K hK => ?_)
                 refine goes_ Try.func31 (by kernel_rfl) rfl #[.agg #[.int .i64 t313, .int .i64 t314, .int .i64 t315, .int .i64 t316], .int .i64 (Int.tmod t355 t305), .int .i64 (wrap64 (Int.tdiv t355 t305))] (by rfl) rfl rfl q108_ ?_
                 with_reducible refine (tilefarmref2_Contains.calls t313 t314 t315 t316 (Int.tmod t355 t305) (wrap64 (Int.tdiv t355 t305)) false _ A73.out).mono ?_
                 rintro e w164 ⟨rfl, hb⟩
                 refine ⟨_, rfl, ?_⟩
                 have n0_ := am_ (Kd.R_below q147_ hb)
                 have n1_ := am_ (Kd.R_below q148_ hb)
                 have n2_ := am_ (Kd.R_below q149_ hb)
                 have n3_ := am_ (Kd.R_below q161_ hb)
                 have n4_ := am_ (Kd.R_below q162_ hb)
                 have n5_ := am_ (blk_below (g := gb312) (o := .cells #[.int .i64 t305, .int .i64 t306, .int .i64 t307, .slice Ao140 x313003_2.length co140] 26 (0, 0)) q140_ hb)
                 have n6_ := am_ (blk_below (g := gb318) (o := .cells #[.int .i64 t313, .int .i64 t314, .int .i64 t315, .int .i64 t316] 31 (0, 0)) q141_ hb)
                 have n7_ := am_ (blk_below (g := gb326) (o := .cells #[.int .i64 t319, .int .i64 t320, .int .i64 t321, .slice Ao132 x327003_2.length co132] 26 (0, 0)) q142_ hb)
                 have n8_ := am_ (blk_below (g := gb334) (o := .cells #[.int .i64 t327, .int .i64 t328, .int .i64 t329, u335003] 26 (0, 0)) q143_ hb)
                 have n9_ := am_ (IsS54.below q9_ hb)
                 have n10_ := am_ (blk_below (g := gb346) (o := .cells #[.int .i64 t339, .int .i64 t340, .int .i64 t341, .slice Ao149 t342.length co149] 26 (0, 0)) q144_ hb)
                 have n11_ := am_ (blk_below (g := gb354) (o := .cells #[.int .i64 t347, .int .i64 t348, .int .i64 t349, .slice Ao160 t350.length co160] 26 (0, 0)) q145_ hb)
                 have n12_ := am_ (below_step q11_ hb)
                 clear HO_313003
                 clear HO_327003
                 clear HO_335003
                 clear HO344
                 clear HO352
                 clear BK312
                 clear BK318
                 clear BK326
                 clear BK334
                 clear HI300
                 clear BK346
                 clear BK354
                 clear HB
                 have HO_313003 := n0_
                 have HO_327003 := n1_
                 have HO_335003 := n2_
                 have HO344 := n3_
                 have HO352 := n4_
                 have BK312 := n5_
                 have BK318 := n6_
                 have BK326 := n7_
                 have BK334 := n8_
                 have HI300 := n9_
                 have BK346 := n10_
                 have BK354 := n11_
                 have HB := n12_
                 clear n0_ n1_ n2_ n3_ n4_ n5_ n6_ n7_ n8_ n9_ n10_ n11_ n12_
                 (try clear hb)
                 (try clear hb2)
                 (try clear hk)
                 (try clear hi)
                 refine hK.out _ _ ⟨(blk_cell BK318.out 0).trans rfl, (blk_cell BK318.out 1).trans rfl, (blk_cell BK318.out 2).trans rfl, (blk_cell BK318.out 3).trans rfl, (blk_cell BK312.out 0).trans rfl, (blk_cell BK312.out 1).trans rfl, (blk_cell BK312.out 2).trans rfl, (blk_cell BK312.out 3).trans rfl⟩ (fun hHeld => ?_)
                 clear hK K
                 refine norm_ (a' := ?_) ?_ ?_
                 rotate_left
                 ·show Act.put _ (some 109) _ = _
                  simp only [Act.put, List.setIfInBounds_toArray, List.set_cons_zero, List.set_cons_succ, i64_w, i32_w]
                  rfl
                 refine pure_ (i := 10) (N := some 18) (v := ?_) (a' := ?_) #[true, true, true, true, true, true, true, true, true, true, true] rfl rfl (any_of HT_.out (by kernel_rfl)) (fun _ _ _ h => h) (Or.inl ⟨by rfl, ?_⟩) ?_ ?_
                 rotate_left
                 ·intro w'
                  go_simp
                  with_reducible rfl
                 rotate_left
                 ·simp only [Act.put, List.setIfInBounds_toArray, List.set_cons_zero, List.set_cons_succ, i64_w, i32_w]
                  rfl
                 refine done_ (done_of HT_.out (by kernel_rfl)) ?_
                 try go_wp2
                 have n0_ := am_ (Kd.R_drew HO_313003.out)
                 have n1_ := am_ (Kd.R_drew HO_327003.out)
                 have n2_ := am_ (Kd.R_drew HO_335003.out)
                 have n3_ := am_ (Kd.R_drew HO344.out)
                 have n4_ := am_ (Kd.R_drew HO352.out)
                 have n5_ := am_ (blk_drew BK312.out)
                 have n6_ := am_ (blk_drew BK318.out)
                 have n7_ := am_ (blk_drew BK326.out)
                 have n8_ := am_ (blk_drew BK334.out)
                 have n9_ := am_ (blk_drew BK346.out)
                 have n10_ := am_ (blk_drew BK354.out)
                 have n11_ := am_ (IsS54.drew HI300.out)
                 have n12_ := am_ (below_drew1 HB.out)
                 clear HO_313003
                 clear HO_327003
                 clear HO_335003
                 clear HO344
                 clear HO352
                 clear BK312
                 clear BK318
                 clear BK326
                 clear BK334
                 clear BK346
                 clear BK354
                 clear HI300
                 clear HB
                 have HO_313003 := n0_
                 have HO_327003 := n1_
                 have HO_335003 := n2_
                 have HO344 := n3_
                 have HO352 := n4_
                 have BK312 := n5_
                 have BK318 := n6_
                 have BK326 := n7_
                 have BK334 := n8_
                 have BK346 := n9_
                 have BK354 := n10_
                 have HI300 := n11_
                 have HB := n12_
                 clear n0_ n1_ n2_ n3_ n4_ n5_ n6_ n7_ n8_ n9_ n10_ n11_ n12_
                 have p359 : 0 ≤ (t355 : Int) := of_decide_eq_true q166_
                 have q359 : t355 < (t342.length : Int) := of_decide_eq_true q166_
                 obtain ⟨ad359, e359, hx359_0⟩ := Kd.at_int (Kd.R_reads' HO344.out).2.2 t355 p359 q359
                 cases e359
                 replace p359 := eq_true p359
                 replace q359 := eq_true q359
                 have p360 : 0 ≤ (t355 : Int) := of_decide_eq_true q166_
                 have q360 : t355 < (x313003_2.length : Int) := of_decide_eq_true q166_
                 obtain ⟨ad360, e360, hx360_0⟩ := Kd.at_int (Kd.R_reads' HO_313003.out).2.2 t355 p360 q360
                 cases e360
                 replace p360 := eq_true p360
                 replace q360 := eq_true q360
                 refine start_ (n := 38) (S := fun w' => w'.cell? ⟨gb354, 0, none⟩ = some (.int .i64 t347) ∧ w'.cell? ⟨gb354, 1, none⟩ = some (.int .i64 t348) ∧ w'.cell? ⟨gb354, 2, none⟩ = some (.int .i64 t349) ∧ w'.cell? ⟨gb354, 3, none⟩ = some (.slice Ao160 t350.length co160) ∧ w'.cell? ⟨gb326, 0, none⟩ = some (.int .i64 t319) ∧ w'.cell? ⟨gb326, 1, none⟩ = some (.int .i64 t320) ∧ w'.cell? ⟨gb326, 2, none⟩ = some (.int .i64 t321) ∧ w'.cell? ⟨gb326, 3, none⟩ = some (.slice Ao132 x327003_2.length co132) ∧ w'.cell? ⟨gb346, 0, none⟩ = some (.int .i64 t339) ∧ w'.cell? ⟨gb346, 1, none⟩ = some (.int .i64 t340) ∧ w'.cell? ⟨gb346, 2, none⟩ = some (.int .i64 t341) ∧ w'.cell? ⟨gb346, 3, none⟩ = some (.slice (some ad359) t342.length co149) ∧ w'.cell? ⟨gb312, 0, none⟩ = some (.int .i64 t305) ∧ w'.cell? ⟨gb312, 1, none⟩ = some (.int .i64 t306) ∧ w'.cell? ⟨gb312, 2, none⟩ = some (.int .i64 t307) ∧ w'.cell? ⟨gb312, 3, none⟩ = some (.slice (some ad360) x313003_2.length co140) ∧ w'.cell? (ad359.add (t355).toNat) = some (.int .i64 (rd t342 t355)) ∧ w'.cell? (ad360.add (t355).toNat) = some (.int .i64 (rd x313003_2 t355))) (ds := []) #[false, false, false, false, false, false, false, false, false, false, false, false, false, false, false, false, false, false, false, false, false, false, false, false, false, false, false, false, false, false, false, false, false, false, false, false, false, false] (by kernel_rfl) rfl rfl ⟨(blk_cell BK354.out 0).trans rfl, (blk_cell BK354.out 1).trans rfl, (blk_cell BK354.out 2).trans rfl, (blk_cell BK354.out 3).trans rfl, (blk_cell BK326.out 0).trans rfl, (blk_cell BK326.out 1).trans rfl, (blk_cell BK326.out 2).trans rfl, (blk_cell BK326.out 3).trans rfl, (blk_cell BK346.out 0).trans rfl, (blk_cell BK346.out 1).trans rfl, (blk_cell BK346.out 2).trans rfl, (blk_cell BK346.out 3).trans rfl, (blk_cell BK312.out 0).trans rfl, (blk_cell BK312.out 1).trans rfl, (blk_cell BK312.out 2).trans rfl, (blk_cell BK312.out 3).trans rfl, hx359_0, hx360_0⟩ (fun hHeld => ?_); refine with_tabW tilefarmlaw4_PlaneBlits.tab16 tilefarmlaw4_PlaneBlits.bits16 (fun HT_ HW_ => ?_)
                 generalize w164.drew = w165 at HO_313003 HO_327003 HO_335003 HO344 HO352 BK312 BK318 BK326 BK334 BK346 BK354 HI300 HB hx359_0 hx360_0 hHeld ⊢
                 refine pure_ (i := 0) (N := some 110) (v := ?_) (a' := ?_) #[true, false, false, false, false, false, false, false, false, false, false, false, false, false, false, false, false, false, false, false, false, false, false, false, false, false, false, false, false, false, false, false, false, false, false, false, false, false] rfl rfl (any_of HT_.out (by kernel_rfl)) (fun _ _ _ h => h) (Or.inl ⟨by rfl, ?_⟩) ?_ ?_
                 rotate_left
                 ·intro w'
                  go_simp
                  with_reducible rfl
                 rotate_left
                 ·simp only [Act.put, List.setIfInBounds_toArray, List.set_cons_zero, List.set_cons_succ, i64_w, i32_w]
                  rfl
                 refine pure_ (i := 1) (N := some 111) (v := ?_) (a' := ?_) #[true, true, false, false, false, false, false, false, false, false, false, false, false, false, false, false, false, false, false, false, false, false, false, false, false, false, false, false, false, false, false, false, false, false, false, false, false, false] rfl rfl (any_of HT_.out (by kernel_rfl)) (fun _ _ _ h => h) (Or.inl ⟨by rfl, ?_⟩) ?_ ?_
                 rotate_left
                 ·intro w'
                  go_simp
                  with_reducible rfl
                 rotate_left
                 ·simp only [Act.put, List.setIfInBounds_toArray, List.set_cons_zero, List.set_cons_succ, i64_w, i32_w]
                  rfl
                 refine pure_ (i := 2) (N := some 112) (v := ?_) (a' := ?_) #[true, true, true, false, false, false, false, false, false, false, false, false, false, false, false, false, false, false, false, false, false, false, false, false, false, false, false, false, false, false, false, false, false, false, false, false, false, false] rfl rfl (any_of HT_.out (by kernel_rfl)) (fun _ _ _ h => h) (Or.inl ⟨by rfl, ?_⟩) ?_ ?_
                 rotate_left
                 ·intro w'
                  go_simp
                  with_reducible rfl
                 rotate_left
                 ·simp only [Act.put, List.setIfInBounds_toArray, List.set_cons_zero, List.set_cons_succ, i64_w, i32_w]
                  rfl
                 refine pure_ (i := 3) (N := some 113) (v := ?_) (a' := ?_) #[true, true, true, true, false, false, false, false, false, false, false, false, false, false, false, false, false, false, false, false, false, false, false, false, false, false, false, false, false, false, false, false, false, false, false, false, false, false] rfl rfl (any_of HT_.out (by kernel_rfl)) (fun _ _ _ h => h) (Or.inl ⟨by rfl, ?_⟩) ?_ ?_
                 rotate_left
                 ·intro w'
                  go_simp
                  with_reducible rfl
                 rotate_left
                 ·simp only [Act.put, List.setIfInBounds_toArray, List.set_cons_zero, List.set_cons_succ, i64_w, i32_w]
                  rfl
                 refine pure_ (i := 4) (N := some 114) (v := ?_) (a' := ?_) #[true, true, true, true, true, false, false, false, false, false, false, false, false, false, false, false, false, false, false, false, false, false, false, false, false, false, false, false, false, false, false, false, false, false, false, false, false, false] rfl rfl (any_of HT_.out (by kernel_rfl)) (fun _ _ _ h => h) (Or.inl ⟨by rfl, ?_⟩) ?_ ?_
                 rotate_left
                 ·intro w'
                  go_simp
                  with_reducible rfl
                 rotate_left
                 ·simp only [Act.put, List.setIfInBounds_toArray, List.set_cons_zero, List.set_cons_succ, i64_w, i32_w]
                  rfl
                 refine take_ (i := 5) (N := some 115) (v := ?_) (a' := ?_) #[true, true, true, true, true, true, false, false, false, false, false, false, false, false, false, false, false, false, false, false, false, false, false, false, false, false, false, false, false, false, false, false, false, false, false, false, false, false] rfl rfl (take_ofW HT_.out HW_.out (by kernel_rfl)) (fun _ _ _ h => h) (Or.inl ⟨by rfl, ?_⟩) hHeld ?_ ?_
                 rotate_left
                 ·rintro w' ⟨s0, s1, s2, s3, s4, s5, s6, s7, s8, s9, s10, s11, s12, s13, s14, s15, s16, s17⟩
                  go_simp
                  with_reducible rfl
                 rotate_left
                 ·simp only [Act.put, List.setIfInBounds_toArray, List.set_cons_zero, List.set_cons_succ, i64_w, i32_w]
                  rfl
                 refine take_ (i := 6) (N := some 116) (v := ?_) (a' := ?_) #[true, true, true, true, true, true, true, false, false, false, false, false, false, false, false, false, false, false, false, false, false, false, false, false, false, false, false, false, false, false, false, false, false, false, false, false, false, false] rfl rfl (take_ofW HT_.out HW_.out (by kernel_rfl)) (fun _ _ _ h => h) (Or.inl ⟨by rfl, ?_⟩) hHeld ?_ ?_
                 rotate_left
                 ·rintro w' ⟨s0, s1, s2, s3, s4, s5, s6, s7, s8, s9, s10, s11, s12, s13, s14, s15, s16, s17⟩
                  go_simp
                  with_reducible rfl
                 rotate_left
                 ·simp only [Act.put, List.setIfInBounds_toArray, List.set_cons_zero, List.set_cons_succ, i64_w, i32_w]
                  rfl
                 refine one_ (i := 7) (N := some 117) #[true, true, true, true, true, true, true, true, false, false, false, false, false, false, false, false, false, false, false, false, false, false, false, false, false, false, false, false, false, false, false, false, false, false, false, false, false, false] rfl rfl (one_of HT_.out (by kernel_rfl)) (by decide) (fun K hK => ?_)
                 refine goes_ Try.func15 (by kernel_rfl) rfl #[.agg #[.int .i64 t347, .int .i64 t348, .int .i64 t349, .slice Ao160 t350.length co160], .agg #[.int .i64 t319, .int .i64 t320, .int .i64 t321, .slice Ao132 x327003_2.length co132]] (by rfl) rfl rfl q108_ ?_
                 with_reducible refine (plane_Equal.calls k2 t347 t348 t349 _ _ t350 t319 t320 t321 _ _ x327003_2 true _ ?side1 ?side2 ?side3 ?side4 A76.out).mono ?_
                 (case side1 => repeat (first | exact (Kd.R_reads' HO352.out).2.2 | (with_reducible refine Kd.C_alloc ?_ _) | (with_reducible refine Kd.C_drewN ?_ _) | (with_reducible refine Kd.C_drew ?_)))
                 (case side2 => exact (Kd.R_reads' HO352.out).2.1)
                 (case side3 => repeat (first | exact (Kd.R_reads' HO_327003.out).2.2 | (with_reducible refine Kd.C_alloc ?_ _) | (with_reducible refine Kd.C_drewN ?_ _) | (with_reducible refine Kd.C_drew ?_)))
                 (case side4 => exact (Kd.R_reads' HO_327003.out).2.1)
                 rintro e w166 ⟨rfl, hb⟩
                 have HS16_ := (hb.cell (World.block_lt_of_cell? _ _ (hHeld.2.2.2.2.2.2.2.2.2.2.2.2.2.2.2.2.1))).trans (hHeld.2.2.2.2.2.2.2.2.2.2.2.2.2.2.2.2.1)
                 have HS17_ := (hb.cell (World.block_lt_of_cell? _ _ (hHeld.2.2.2.2.2.2.2.2.2.2.2.2.2.2.2.2.2))).trans (hHeld.2.2.2.2.2.2.2.2.2.2.2.2.2.2.2.2.2)
                 refine ⟨_, rfl, ?_⟩
                 have n0_ := am_ (Kd.R_below q147_ hb)
                 have n1_ := am_ (Kd.R_below q148_ hb)
                 have n2_ := am_ (Kd.R_below q149_ hb)
                 have n3_ := am_ (Kd.R_below q161_ hb)
                 have n4_ := am_ (Kd.R_below q162_ hb)
                 have n5_ := am_ (blk_below (g := gb312) (o := .cells #[.int .i64 t305, .int .i64 t306, .int .i64 t307, .slice (some ad360) x313003_2.length co140] 26 (0, 0)) q140_ hb)
                 have n6_ := am_ (blk_below (g := gb318) (o := .cells #[.int .i64 t313, .int .i64 t314, .int .i64 t315, .int .i64 t316] 31 (0, 0)) q141_ hb)
                 have n7_ := am_ (blk_below (g := gb326) (o := .cells #[.int .i64 t319, .int .i64 t320, .int .i64 t321, .slice Ao132 x327003_2.length co132] 26 (0, 0)) q142_ hb)
                 have n8_ := am_ (blk_below (g := gb334) (o := .cells #[.int .i64 t327, .int .i64 t328, .int .i64 t329, u335003] 26 (0, 0)) q143_ hb)
                 have n9_ := am_ (IsS54.below q9_ hb)
                 have n10_ := am_ (blk_below (g := gb346) (o := .cells #[.int .i64 t339, .int .i64 t340, .int .i64 t341, .slice (some ad359) t342.length co149] 26 (0, 0)) q144_ hb)
                 have n11_ := am_ (blk_below (g := gb354) (o := .cells #[.int .i64 t347, .int .i64 t348, .int .i64 t349, .slice Ao160 t350.length co160] 26 (0, 0)) q145_ hb)
                 have n12_ := am_ (below_step q11_ hb)
                 clear HO_313003
                 clear HO_327003
                 clear HO_335003
                 clear HO344
                 clear HO352
                 clear BK312
                 clear BK318
                 clear BK326
                 clear BK334
                 clear HI300
                 clear BK346
                 clear BK354
                 clear HB
                 have HO_313003 := n0_
                 have HO_327003 := n1_
                 have HO_335003 := n2_
                 have HO344 := n3_
                 have HO352 := n4_
                 have BK312 := n5_
                 have BK318 := n6_
                 have BK326 := n7_
                 have BK334 := n8_
                 have HI300 := n9_
                 have BK346 := n10_
                 have BK354 := n11_
                 have HB := n12_
                 clear n0_ n1_ n2_ n3_ n4_ n5_ n6_ n7_ n8_ n9_ n10_ n11_ n12_
                 (try clear hb)
                 (try clear hb2)
                 (try clear hk)
                 (try clear hi)
                 refine hK.out _ _ ⟨(blk_cell BK354.out 0).trans rfl, (blk_cell BK354.out 1).trans rfl, (blk_cell BK354.out 2).trans rfl, (blk_cell BK354.out 3).trans rfl, (blk_cell BK326.out 0).trans rfl, (blk_cell BK326.out 1).trans rfl, (blk_cell BK326.out 2).trans rfl, (blk_cell BK326.out 3).trans rfl, (blk_cell BK346.out 0).trans rfl, (blk_cell BK346.out 1).trans rfl, (blk_cell BK346.out 2).trans rfl, (blk_cell BK346.out 3).trans rfl, (blk_cell BK312.out 0).trans rfl, (blk_cell BK312.out 1).trans rfl, (blk_cell BK312.out 2).trans rfl, (blk_cell BK312.out 3).trans rfl, HS16_, HS17_⟩ (fun hHeld => ?_)
                 clear hK K
                 refine norm_ (a' := ?_) ?_ ?_
                 rotate_left
                 ·show Act.put _ (some 117) _ = _
                  simp only [Act.put, List.setIfInBounds_toArray, List.set_cons_zero, List.set_cons_succ, i64_w, i32_w]
                  rfl
                 refine pure_ (i := 8) (N := some 118) (v := ?_) (a' := ?_) #[true, true, true, true, true, true, true, true, true, false, false, false, false, false, false, false, false, false, false, false, false, false, false, false, false, false, false, false, false, false, false, false, false, false, false, false, false, false] rfl rfl (any_of HT_.out (by kernel_rfl)) (fun _ _ _ h => h) (Or.inl ⟨by rfl, ?_⟩) ?_ ?_
                 rotate_left
                 ·intro w'
                  go_simp
                  with_reducible rfl
                 rotate_left
                 ·simp only [Act.put, List.setIfInBounds_toArray, List.set_cons_zero, List.set_cons_succ, i64_w, i32_w]
                  rfl
                 refine pure_ (i := 9) (N := some 119) (v := ?_) (a' := ?_) #[true, true, true, true, true, true, true, true, true, true, false, false, false, false, false, false, false, false, false, false, false, false, false, false, false, false, false, false, false, false, false, false, false, false, false, false, false, false] rfl rfl (any_of HT_.out (by kernel_rfl)) (fun _ _ _ h => h) (Or.inl ⟨by rfl, ?_⟩) ?_ ?_
                 rotate_left
                 ·intro w'
                  go_simp
                  with_reducible rfl
                 rotate_left
                 ·simp only [Act.put, List.setIfInBounds_toArray, List.set_cons_zero, List.set_cons_succ, i64_w, i32_w]
                  rfl
                 refine pure_ (i := 10) (N := some 120) (v := ?_) (a' := ?_) #[true, true, true, true, true, true, true, true, true, true, true, false, false, false, false, false, false, false, false, false, false, false, false, false, false, false, false, false, false, false, false, false, false, false, false, false, false, false] rfl rfl (any_of HT_.out (by kernel_rfl)) (fun _ _ _ h => h) (Or.inl ⟨by rfl, ?_⟩) ?_ ?_
                 rotate_left
                 ·intro w'
                  go_simp
                  with_reducible rfl
                 rotate_left
                 ·simp only [Act.put, List.setIfInBounds_toArray, List.set_cons_zero, List.set_cons_succ, i64_w, i32_w]
                  rfl
                 refine pure_ (i := 13) (N := some 123) (v := ?_) (a' := ?_) #[true, true, true, true, true, true, true, true, true, true, true, false, false, true, false, false, false, false, false, false, false, false, false, false, false, false, false, false, false, false, false, false, false, false, false, false, false, false] rfl rfl (any_of HT_.out (by kernel_rfl)) (fun _ _ _ h => h) (Or.inl ⟨by rfl, ?_⟩) ?_ ?_
                 rotate_left
                 ·intro w'
                  go_simp
                  with_reducible rfl
                 rotate_left
                 ·simp only [Act.put, List.setIfInBounds_toArray, List.set_cons_zero, List.set_cons_succ, i64_w, i32_w]
                  rfl
                 refine take_ (i := 11) (N := some 121) (v := ?_) (a' := ?_) #[true, true, true, true, true, true, true, true, true, true, true, true, false, true, false, false, false, false, false, false, false, false, false, false, false, false, false, false, false, false, false, false, false, false, false, false, false, false] rfl rfl (take_ofW HT_.out HW_.out (by kernel_rfl)) (fun _ _ _ h => h) (Or.inl ⟨by rfl, ?_⟩) hHeld ?_ ?_
                 rotate_left
                 ·rintro w' ⟨s0, s1, s2, s3, s4, s5, s6, s7, s8, s9, s10, s11, s12, s13, s14, s15, s16, s17⟩
                  go_simp
                  with_reducible rfl
                 rotate_left
                 ·simp only [Act.put, List.setIfInBounds_toArray, List.set_cons_zero, List.set_cons_succ, i64_w, i32_w]
                  rfl
                 refine pure_ (i := 12) (N := some 122) (v := ?_) (a' := ?_) #[true, true, true, true, true, true, true, true, true, true, true, true, true, true, false, false, false, false, false, false, false, false, false, false, false, false, false, false, false, false, false, false, false, false, false, false, false, false] rfl rfl (any_of HT_.out (by kernel_rfl)) (fun _ _ _ h => h) (Or.inl ⟨by rfl, ?_⟩) ?_ ?_
                 rotate_left
                 ·intro w'
                  go_simp
                  with_reducible rfl
                 rotate_left
                 ·simp only [Act.put, List.setIfInBounds_toArray, List.set_cons_zero, List.set_cons_succ, i64_w, i32_w]
                  rfl
                 refine take_ (i := 14) (N := some 124) (v := ?_) (a' := ?_) #[true, true, true, true, true, true, true, true, true, true, true, true, true, true, true, false, false, false, false, false, false, false, false, false, false, false, false, false, false, false, false, false, false, false, false, false, false, false] rfl rfl (take_ofW HT_.out HW_.out (by kernel_rfl)) (fun _ _ _ h => h) (Or.inl ⟨by rfl, ?_⟩) hHeld ?_ ?_
                 rotate_left
                 ·rintro w' ⟨s0, s1, s2, s3, s4, s5, s6, s7, s8, s9, s10, s11, s12, s13, s14, s15, s16, s17⟩
                  go_simp
                  with_reducible rfl
                 rotate_left
                 ·simp only [Act.put, List.setIfInBounds_toArray, List.set_cons_zero, List.set_cons_succ, i64_w, i32_w]
                  rfl
                 refine pure_ (i := 15) (N := some 125) (v := ?_) (a' := ?_) #[true, true, true, true, true, true, true, true, true, true, true, true, true, true, true, true, false, false, false, false, false, false, false, false, false, false, false, false, false, false, false, false, false, false, false, false, false, false] rfl rfl (any_of HT_.out (by kernel_rfl)) (fun _ _ _ h => h) (Or.inl ⟨by rfl, ?_⟩) ?_ ?_
                 rotate_left
                 ·intro w'
                  go_simp
                  with_reducible rfl
                 rotate_left
                 ·simp only [Act.put, List.setIfInBounds_toArray, List.set_cons_zero, List.set_cons_succ, i64_w, i32_w]
                  rfl
                 refine pure_ (i := 16) (N := some 126) (v := ?_) (a' := ?_) #[true, true, true, true, true, true, true, true, true, true, true, true, true, true, true, true, true, false, false, false, false, false, false, false, false, false, false, false, false, false, false, false, false, false, false, false, false, false] rfl rfl (any_of HT_.out (by kernel_rfl)) (fun _ _ _ h => h) (Or.inl ⟨by rfl, ?_⟩) ?_ ?_
                 rotate_left
                 ·intro w'
                  go_simp
                  with_reducible rfl
                 rotate_left
                 ·simp only [Act.put, List.setIfInBounds_toArray, List.set_cons_zero, List.set_cons_succ, i64_w, i32_w]
                  rfl
                 refine pure_ (i := 17) (N := some 127) (v := ?_) (a' := ?_) #[true, true, true, true, true, true, true, true, true, true, true, true, true, true, true, true, true, true, false, false, false, false, false, false, false, false, false, false, false, false, false, false, false, false, false, false, false, false] rfl rfl (any_of HT_.out (by kernel_rfl)) (fun _ _ _ h => h) (Or.inl ⟨by rfl, ?_⟩) ?_ ?_
                 rotate_left
                 ·intro w'
                  go_simp
                  with_reducible rfl
                 rotate_left
                 ·simp only [Act.put, List.setIfInBounds_toArray, List.set_cons_zero, List.set_cons_succ, i64_w, i32_w]
                  rfl
                 refine pure_ (i := 18) (N := some 128) (v := ?_) (a' := ?_) #[true, true, true, true, true, true, true, true, true, true, true, true, true, true, true, true, true, true, true, false, false, false, false, false, false, false, false, false, false, false, false, false, false, false, false, false, false, false] rfl rfl (any_of HT_.out (by kernel_rfl)) (fun _ _ _ h => h) (Or.inl ⟨by rfl, ?_⟩) ?_ ?_
                 rotate_left
                 ·intro w'
                  go_simp
                  with_reducible rfl
                 rotate_left
                 ·simp only [Act.put, List.setIfInBounds_toArray, List.set_cons_zero, List.set_cons_succ, i64_w, i32_w]
                  rfl
                 refine pure_ (i := 19) (N := some 129) (v := ?_) (a' := ?_) #[true, true, true, true, true, true, true, true, true, true, true, true, true, true, true, true, true, true, true, true, false, false, false, false, false, false, false, false, false, false, false, false, false, false, false, false, false, false] rfl rfl (any_of HT_.out (by kernel_rfl)) (fun _ _ _ h => h) (Or.inl ⟨by rfl, ?_⟩) ?_ ?_
                 rotate_left
                 ·intro w'
                  go_simp
                  with_reducible rfl
                 rotate_left
                 ·simp only [Act.put, List.setIfInBounds_toArray, List.set_cons_zero, List.set_cons_succ, i64_w, i32_w]
                  rfl
                 refine pure_ (i := 20) (N := some 130) (v := ?_) (a' := ?_) #[true, true, true, true, true, true, true, true, true, true, true, true, true, true, true, true, true, true, true, true, true, false, false, false, false, false, false, false, false, false, false, false, false, false, false, false, false, false] rfl rfl (any_of HT_.out (by kernel_rfl)) (fun _ _ _ h => h) (Or.inl ⟨by rfl, ?_⟩) ?_ ?_
                 rotate_left
                 ·intro w'
                  go_simp
                  with_reducible rfl
                 rotate_left
                 ·simp only [Act.put, List.setIfInBounds_toArray, List.set_cons_zero, List.set_cons_succ, i64_w, i32_w]
                  rfl
                 refine pure_ (i := 21) (N := some 131) (v := ?_) (a' := ?_) #[true, true, true, true, true, true, true, true, true, true, true, true, true, true, true, true, true, true, true, true, true, true, false, false, false, false, false, false, false, false, false, false, false, false, false, false, false, false] rfl rfl (any_of HT_.out (by kernel_rfl)) (fun _ _ _ h => h) (Or.inl ⟨by rfl, ?_⟩) ?_ ?_
                 rotate_left
                 ·intro w'
                  go_simp
                  with_reducible rfl
                 rotate_left
                 ·simp only [Act.put, List.setIfInBounds_toArray, List.set_cons_zero, List.set_cons_succ, i64_w, i32_w]
                  rfl
                 refine pure_ (i := 23) (N := some 133) (v := ?_) (a' := ?_) #[true, true, true, true, true, true, true, true, true, true, true, true, true, true, true, true, true, true, true, true, true, true, false, true, false, false, false, false, false, false, false, false, false, false, false, false, false, false] rfl rfl (any_of HT_.out (by kernel_rfl)) (fun _ _ _ h => h) (Or.inl ⟨by rfl, ?_⟩) ?_ ?_
                 rotate_left
                 ·intro w'
                  go_simp
                  with_reducible rfl
                 rotate_left
                 ·simp only [Act.put, List.setIfInBounds_toArray, List.set_cons_zero, List.set_cons_succ, i64_w, i32_w]
                  rfl
                 refine pure_ (i := 26) (N := some 136) (v := ?_) (a' := ?_) #[true, true, true, true, true, true, true, true, true, true, true, true, true, true, true, true, true, true, true, true, true, true, false, true, false, false, true, false, false, false, false, false, false, false, false, false, false, false] rfl rfl (any_of HT_.out (by kernel_rfl)) (fun _ _ _ h => h) (Or.inl ⟨by rfl, ?_⟩) ?_ ?_
                 rotate_left
                 ·intro w'
                  go_simp
                  with_reducible rfl
                 rotate_left
                 ·simp only [Act.put, List.setIfInBounds_toArray, List.set_cons_zero, List.set_cons_succ, i64_w, i32_w]
                  rfl
                 refine pure_ (i := 28) (N := some 138) (v := ?_) (a' := ?_) #[true, true, true, true, true, true, true, true, true, true, true, true, true, true, true, true, true, true, true, true, true, true, false, true, false, false, true, false, true, false, false, false, false, false, false, false, false, false] rfl rfl (any_of HT_.out (by kernel_rfl)) (fun _ _ _ h => h) (Or.inl ⟨by rfl, ?_⟩) ?_ ?_
                 rotate_left
                 ·intro w'
                  go_simp
                  with_reducible rfl
                 rotate_left
                 ·simp only [Act.put, List.setIfInBounds_toArray, List.set_cons_zero, List.set_cons_succ, i64_w, i32_w]
                  rfl
                 refine take_ (i := 22) (N := some 132) (v := ?_) (a' := ?_) #[true, true, true, true, true, true, true, true, true, true, true, true, true, true, true, true, true, true, true, true, true, true, true, true, false, false, true, false, true, false, false, false, false, false, false, false, false, false] rfl rfl (take_ofW HT_.out HW_.out (by kernel_rfl)) (fun _ _ _ h => h) (Or.inl ⟨by rfl, ?_⟩) hHeld ?_ ?_
                 rotate_left
                 ·rintro w' ⟨s0, s1, s2, s3, s4, s5, s6, s7, s8, s9, s10, s11, s12, s13, s14, s15, s16, s17⟩
                  go_simp
                  with_reducible rfl
                 rotate_left
                 ·simp only [Act.put, List.setIfInBounds_toArray, List.set_cons_zero, List.set_cons_succ, i64_w, i32_w]
                  rfl
                 refine pure_ (i := 24) (N := some 134) (v := ?_) (a' := ?_) #[true, true, true, true, true, true, true, true, true, true, true, true, true, true, true, true, true, true, true, true, true, true, true, true, true, false, true, false, true, false, false, false, false, false, false, false, false, false] rfl rfl (any_of HT_.out (by kernel_rfl)) (fun _ _ _ h => h) (Or.inl ⟨by rfl, ?_⟩) ?_ ?_
                 rotate_left
                 ·intro w'
                  go_simp
                  with_reducible rfl
                 rotate_left
                 ·simp only [Act.put, List.setIfInBounds_toArray, List.set_cons_zero, List.set_cons_succ, i64_w, i32_w]
                  rfl
                 refine take_ (i := 25) (N := some 135) (v := ?_) (a' := ?_) #[true, true, true, true, true, true, true, true, true, true, true, true, true, true, true, true, true, true, true, true, true, true, true, true, true, true, true, false, true, false, false, false, false, false, false, false, false, false] rfl rfl (take_ofW HT_.out HW_.out (by kernel_rfl)) (fun _ _ _ h => h) (Or.inl ⟨by rfl, ?_⟩) hHeld ?_ ?_
                 rotate_left
                 ·rintro w' ⟨s0, s1, s2, s3, s4, s5, s6, s7, s8, s9, s10, s11, s12, s13, s14, s15, s16, s17⟩
                  go_simp
                  with_reducible rfl
                 rotate_left
                 ·simp only [Act.put, List.setIfInBounds_toArray, List.set_cons_zero, List.set_cons_succ, i64_w, i32_w]
                  rfl
                 refine take_ (i := 27) (N := some 137) (v := ?_) (a' := ?_) #[true, true, true, true, true, true, true, true, true, true, true, true, true, true, true, true, true, true, true, true, true, true, true, true, true, true, true, true, true, false, false, false, false, false, false, false, false, false] rfl rfl (take_ofW HT_.out HW_.out (by kernel_rfl)) (fun _ _ _ h => h) (Or.inl ⟨by rfl, ?_⟩) hHeld ?_ ?_
                 rotate_left
                 ·rintro w' ⟨s0, s1, s2, s3, s4, s5, s6, s7, s8, s9, s10, s11, s12, s13, s14, s15, s16, s17⟩
                  go_simp
                  with_reducible rfl
                 rotate_left
                 ·simp only [Act.put, List.setIfInBounds_toArray, List.set_cons_zero, List.set_cons_succ, i64_w, i32_w]
                  rfl
                 refine pure_ (i := 29) (N := some 139) (v := ?_) (a' := ?_) #[true, true, true, true, true, true, true, true, true, true, true, true, true, true, true, true, true, true, true, true, true, true, true, true, true, true, true, true, true, true, false, false, false, false, false, false, false, false] rfl rfl (any_of HT_.out (by kernel_rfl)) (fun _ _ _ h => h) (Or.inl ⟨by rfl, ?_⟩) ?_ ?_
                 rotate_left
                 ·intro w'
                  go_simp
                  with_reducible rfl
                 rotate_left
                 ·simp only [Act.put, List.setIfInBounds_toArray, List.set_cons_zero, List.set_cons_succ, i64_w, i32_w]
                  rfl
                 refine take_ (i := 30) (N := some 140) (v := ?_) (a' := ?_) #[true, true, true, true, true, true, true, true, true, true, true, true, true, true, true, true, true, true, true, true, true, true, true, true, true, true, true, true, true, true, true, false, false, false, false, false, false, false] rfl rfl (take_ofW HT_.out HW_.out (by kernel_rfl)) (fun _ _ _ h => h) (Or.inl ⟨by rfl, ?_⟩) hHeld ?_ ?_
                 rotate_left
                 ·rintro w' ⟨s0, s1, s2, s3, s4, s5, s6, s7, s8, s9, s10, s11, s12, s13, s14, s15, s16, s17⟩
                  go_simp
                  with_reducible rfl
                 rotate_left
                 ·simp only [Act.put, List.setIfInBounds_toArray, List.set_cons_zero, List.set_cons_succ, i64_w, i32_w]
                  rfl
                 refine pure_ (i := 31) (N := some 141) (v := ?_) (a' := ?_) #[true, true, true, true, true, true, true, true, true, true, true, true, true, true, true, true, true, true, true, true, true, true, true, true, true, true, true, true, true, true, true, true, false, false, false, false, false, false] rfl rfl (any_of HT_.out (by kernel_rfl)) (fun _ _ _ h => h) (Or.inl ⟨by rfl, ?_⟩) ?_ ?_
                 rotate_left
                 ·intro w'
                  go_simp
                  with_reducible rfl
                 rotate_left
                 ·simp only [Act.put, List.setIfInBounds_toArray, List.set_cons_zero, List.set_cons_succ, i64_w, i32_w]
                  rfl
                 refine pure_ (i := 32) (N := some 142) (v := ?_) (a' := ?_) #[true, true, true, true, true, true, true, true, true, true, true, true, true, true, true, true, true, true, true, true, true, true, true, true, true, true, true, true, true, true, true, true, true, false, false, false, false, false] rfl rfl (any_of HT_.out (by kernel_rfl)) (fun _ _ _ h => h) (Or.inl ⟨by rfl, ?_⟩) ?_ ?_
                 rotate_left
                 ·intro w'
                  go_simp
                  with_reducible rfl
                 rotate_left
                 ·simp only [Act.put, List.setIfInBounds_toArray, List.set_cons_zero, List.set_cons_succ, i64_w, i32_w]
                  rfl
                 refine pure_ (i := 33) (N := some 143) (v := ?_) (a' := ?_) #[true, true, true, true, true, true, true, true, true, true, true, true, true, true, true, true, true, true, true, true, true, true, true, true, true, true, true, true, true, true, true, true, true, true, false, false, false, false] rfl rfl (any_of HT_.out (by kernel_rfl)) (fun _ _ _ h => h) (Or.inl ⟨by rfl, ?_⟩) ?_ ?_
                 rotate_left
                 ·intro w'
                  go_simp
                  with_reducible rfl
                 rotate_left
                 ·simp only [Act.put, List.setIfInBounds_toArray, List.set_cons_zero, List.set_cons_succ, i64_w, i32_w]
                  rfl
                 refine pure_ (i := 34) (N := some 144) (v := ?_) (a' := ?_) #[true, true, true, true, true, true, true, true, true, true, true, true, true, true, true, true, true, true, true, true, true, true, true, true, true, true, true, true, true, true, true, true, true, true, true, false, false, false] rfl rfl (any_of HT_.out (by kernel_rfl)) (fun _ _ _ h => h) (Or.inl ⟨by rfl, ?_⟩) ?_ ?_
                 rotate_left
                 ·intro w'
                  go_simp
                  with_reducible rfl
                 rotate_left
                 ·simp only [Act.put, List.setIfInBounds_toArray, List.set_cons_zero, List.set_cons_succ, i64_w, i32_w]
                  rfl
                 refine one_ (i := 35) (N := some 145) #[true, true, true, true, true, true, true, true, true, true, true, true, true, true, true, true, true, true, true, true, true, true, true, true, true, true, true, true, true, true, true, true, true, true, true, true, false, false] rfl rfl (one_of HT_.out (by kernel_rfl)) (by decide) (fun K hK => ?_)
                 refine goes_ Try.func18 (by kernel_rfl) rfl #[] (by rfl) rfl rfl q108_ ?_
                 with_reducible refine (tilefarmlaw4_sane.calls k2  t361 _ A126.out).mono ?_
                 rintro e w167 ⟨rfl, hb⟩
                 have HS16_ := (hb.cell (World.block_lt_of_cell? _ _ (hHeld.2.2.2.2.2.2.2.2.2.2.2.2.2.2.2.2.1))).trans (hHeld.2.2.2.2.2.2.2.2.2.2.2.2.2.2.2.2.1)
                 have HS17_ := (hb.cell (World.block_lt_of_cell? _ _ (hHeld.2.2.2.2.2.2.2.2.2.2.2.2.2.2.2.2.2))).trans (hHeld.2.2.2.2.2.2.2.2.2.2.2.2.2.2.2.2.2)
                 refine ⟨_, rfl, ?_⟩
                 have n0_ := am_ (Kd.R_below q147_ hb)
                 have n1_ := am_ (Kd.R_below q148_ hb)
                 have n2_ := am_ (Kd.R_below q149_ hb)
                 have n3_ := am_ (Kd.R_below q161_ hb)
                 have n4_ := am_ (Kd.R_below q162_ hb)
                 have n5_ := am_ (blk_below (g := gb312) (o := .cells #[.int .i64 t305, .int .i64 t306, .int .i64 t307, .slice (some ad360) x313003_2.length co140] 26 (0, 0)) q140_ hb)
                 have n6_ := am_ (blk_below (g := gb318) (o := .cells #[.int .i64 t313, .int .i64 t314, .int .i64 t315, .int .i64 t316] 31 (0, 0)) q141_ hb)
                 have n7_ := am_ (blk_below (g := gb326) (o := .cells #[.int .i64 t319, .int .i64 t320, .int .i64 t321, .slice Ao132 x327003_2.length co132] 26 (0, 0)) q142_ hb)
                 have n8_ := am_ (blk_below (g := gb334) (o := .cells #[.int .i64 t327, .int .i64 t328, .int .i64 t329, u335003] 26 (0, 0)) q143_ hb)
                 have n9_ := am_ (IsS54.below q9_ hb)
                 have n10_ := am_ (blk_below (g := gb346) (o := .cells #[.int .i64 t339, .int .i64 t340, .int .i64 t341, .slice (some ad359) t342.length co149] 26 (0, 0)) q144_ hb)
                 have n11_ := am_ (blk_below (g := gb354) (o := .cells #[.int .i64 t347, .int .i64 t348, .int .i64 t349, .slice Ao160 t350.length co160] 26 (0, 0)) q145_ hb)
                 have n12_ := am_ (below_step q11_ hb)
                 clear HO_313003
                 clear HO_327003
                 clear HO_335003
                 clear HO344
                 clear HO352
                 clear BK312
                 clear BK318
                 clear BK326
                 clear BK334
                 clear HI300
                 clear BK346
                 clear BK354
                 clear HB
                 have HO_313003 := n0_
                 have HO_327003 := n1_
                 have HO_335003 := n2_
                 have HO344 := n3_
                 have HO352 := n4_
                 have BK312 := n5_
                 have BK318 := n6_
                 have BK326 := n7_
                 have BK334 := n8_
                 have HI300 := n9_
                 have BK346 := n10_
                 have BK354 := n11_
                 have HB := n12_
                 clear n0_ n1_ n2_ n3_ n4_ n5_ n6_ n7_ n8_ n9_ n10_ n11_ n12_
                 (try clear hb)
                 (try clear hb2)
                 (try clear hk)
                 (try clear hi)
                 refine hK.out _ _ ⟨(blk_cell BK354.out 0).trans rfl, (blk_cell BK354.out 1).trans rfl, (blk_cell BK354.out 2).trans rfl, (blk_cell BK354.out 3).trans rfl, (blk_cell BK326.out 0).trans rfl, (blk_cell BK326.out 1).trans rfl, (blk_cell BK326.out 2).trans rfl, (blk_cell BK326.out 3).trans rfl, (blk_cell BK346.out 0).trans rfl, (blk_cell BK346.out 1).trans rfl, (blk_cell BK346.out 2).trans rfl, (blk_cell BK346.out 3).trans rfl, (blk_cell BK312.out 0).trans rfl, (blk_cell BK312.out 1).trans rfl, (blk_cell BK312.out 2).trans rfl, (blk_cell BK312.out 3).trans rfl, HS16_, HS17_⟩ (fun hHeld => ?_)
                 clear hK K
                 refine norm_ (a' := ?_) ?_ ?_
                 rotate_left
                 ·show Act.put _ (some 145) _ = _
                  simp only [Act.put, List.setIfInBounds_toArray, List.set_cons_zero, List.set_cons_succ, i64_w, i32_w]
                  rfl
                 refine pure_ (i := 36) (N := some 146) (v := ?_) (a' := ?_) #[true, true, true, true, true, true, true, true, true, true, true, true, true, true, true, true, true, true, true, true, true, true, true, true, true, true, true, true, true, true, true, true, true, true, true, true, true, false] rfl rfl (any_of HT_.out (by kernel_rfl)) (fun _ _ _ h => h) (Or.inl ⟨by rfl, ?_⟩) ?_ ?_
                 rotate_left
                 ·intro w'
                  go_simp
                  with_reducible rfl
                 rotate_left
                 ·simp only [Act.put, List.setIfInBounds_toArray, List.set_cons_zero, List.set_cons_succ, i64_w, i32_w]
                  rfl
                 refine pure_ (i := 37) (N := some 4) (v := ?_) (a' := ?_) #[true, true, true, true, true, true, true, true, true, true, true, true, true, true, true, true, true, true, true, true, true, true, true, true, true, true, true, true, true, true, true, true, true, true, true, true, true, true] rfl rfl (any_of HT_.out (by kernel_rfl)) (fun _ _ _ h => h) (Or.inl ⟨by rfl, ?_⟩) ?_ ?_
                 rotate_left
                 ·intro w'
                  go_simp
                  with_reducible rfl
                 rotate_left
                 ·simp only [Act.put, List.setIfInBounds_toArray, List.set_cons_zero, List.set_cons_succ, i64_w, i32_w]
                  rfl
                 refine done_ (done_of HT_.out (by kernel_rfl)) ?_
                 try go_wp2
                 go_ret
                 exact ⟨q164_, q11_⟩
                ·rw [if_neg c125] at H
                 have c125b0 : ((rd t342 t355) == (rd x313003_2 t355)) = false := beq_eq_false_iff_ne.mpr c125
                 have c125b1 : ((rd t342 t355) != (rd x313003_2 t355)) = true := bne_iff_ne.mpr c125
                 exact absurd ((Option.some.inj H).trans HT.out) (by decide)
               ·rw [if_neg c124] at H
                exact absurd H (by simp)
              ·rw [if_neg c123] at H
               exact absurd H (by simp)
             ·rw [if_neg c122] at H
              exact absurd H (by simp)
           ·rw [if_neg c78] at H
            have c78b0 : ((t342.length : Int) == (x313003_2.length : Int)) = false := beq_eq_false_iff_ne.mpr c78
            have c78b1 : ((t342.length : Int) != (x313003_2.length : Int)) = true := bne_iff_ne.mpr c78
            have c78b2 : (t342.length == x313003_2.length) = false := by first | simpa using c78 | (simp at c78 ⊢; omega)
            exact absurd ((Option.some.inj H).trans HT.out) (by decide)
          ·replace c77 := Bool.eq_false_iff.mpr c77
           subst c77
           have H1 : (some false) = some r := by rw [if_neg (show ¬ (false = true) by decide)] at H; exact H
           clear H
           have H := H1
           clear H1
           exact absurd ((Option.some.inj H).trans HT.out) (by decide)
         ·replace c75 := Bool.eq_false_iff.mpr c75
          subst c75
          have H1 : (some false) = some r := by rw [if_neg (show ¬ (false = true) by decide)] at H; exact H
          clear H
          have H := H1
          clear H1
          exact absurd ((Option.some.inj H).trans HT.out) (by decide)
        ·replace c74 := Bool.eq_false_iff.mpr c74
         subst c74
         have H1 : (some false) = some r := by rw [if_neg (show ¬ (false = true) by decide)] at H; exact H
         clear H
         have H := H1
         clear H1
         exact absurd ((Option.some.inj H).trans HT.out) (by decide)


def tilefarmlaw4_PlaneBlits.Pure : Prop := ∀ (l0 : List Int) (a1 : Int), l0.length ≤ maxLen → l0.length * 8 ≤ 140737488351232 → (∀ x ∈ l0, (Lit.int .i64 x).wf = true) → (Lit.int .i64 a1).wf = true → ∃ k, tilefarmlaw4_PlaneBlits.f k l0 a1 = some true
theorem tilefarmlaw4_PlaneBlits.walk (P : tilefarmlaw4_PlaneBlits.Pure) (a0 : Option Addr) (len0 cap0 : Nat) (z0 : List Int) (a1 : Int) (w : World) (w0 : (a0 = none ∧ len0 = 0 ∧ cap0 = 0 ∧ z0 = []) ∨ ∃ x, a0 = some x ∧ len0 ≤ cap0 ∧ cap0 ≤ maxLen ∧ z0.length = cap0 ∧ (∀ i, i < z0.length → w.cell? (x.add i) = some (.int .i64 (z0.getD i 0))) ∧ ∀ n ∈ z0, (Lit.int .i64 n).wf = true) (y0 : len0 * 8 ≤ 140737488351232) (w1 : (Lit.int .i64 a1).wf = true) :
  Calls Try.prog 7 #[.slice a0 len0 cap0, .int .i64 a1] w fun e w' => e = .returned (.bool true) ∧ Below w.heap.size w w' := by
 obtain ⟨l0, rfl, hr0, hm0, hw0, hc0⟩ := ReadsInt.ofRowC w0
 obtain ⟨k, h⟩ := P l0 a1 hm0 y0 hw0 w1
 refine (tilefarmlaw4_PlaneBlits.calls k _ _ l0 a1 true w (Kd.C_of_reads (d := (0 : Int)) (h1 := fun _ => rfl) hr0) hc0 h).mono ?_
 rintro e w' ⟨rfl, hd⟩
 exact ⟨rfl, hd⟩

end Go.Proofs.Ytgkccacenlcebaa.PPlaneBlits
