-- PRINTED BY print.sh 35421559b90ae4d0a3588c463048766b98c2df88dd9212a6774a882060cdf62d: not written by this session
import Derived.Test.YtdkmgcckcimhfaaPRectPointsx0
import Derived.Test.YtdkmgcckcimhfaaPRectPointsx2
import Derived.Test.YtdkmgcckcimhfaaPRectPointsx3
import Derived.Test.YtdkmgcckcimhfaaPRectPointsx4
import Derived.Test.YtdkmgcckcimhfaaPRectPointsx5
import Derived.Test.YtdkmgcckcimhfaaPRectPointsx6
namespace Go.Proofs.Ytdkmgcckcimhfaa.PRectPoints
open Go.RowKit Go.Proofs.YtdkmgcckcimhfaaW.PrintWords Go.Proofs.YtdkmgcckcimhfaaW.PrintLast Go.Proofs.YtdkmgcckcimhfaaW.PrintMore
attribute [local go_sem] max2_int min2_int max_two min_two max_three min_three max_four min_four   -- for this text's walks alone
set_option linter.unusedVariables false
set_option linter.unusedSimpArgs false

/-! ### tilefarmlaw2_RectPoints: function 4 -/
mutual
def tilefarmlaw2_RectPoints.j0 : Nat → Int → Int → Bool → Int → Int → Int → Int → Int → Int → Int → Int → Option (Bool)
  | 0, _, _, _, _, _, _, _, _, _, _, _ => none
  | k + 1, x1, x2, x31, x206000, x206001, x206002, x206003, x207000, x207001, x207002, x207003 => if x31 = true then ((tilefarmlaw2_sane.f k).bind fun t209 => (some t209)) else ((tilefarmgen_Mod.f x1 14).bind fun t210 => ((tilefarmgen_Mod.f x2 14).bind fun t211 => ((rect_Contains.f x206000 x206001 x206002 x206003 (wrap64 (t210 - 4)) (wrap64 (t211 - 4))).bind fun t212 => ((rect_Contains.f x207000 x207001 x207002 x207003 (wrap64 (t210 - 4)) (wrap64 (t211 - 4))).bind fun t213 => ((rect_Subtract.f k x206000 x206001 x206002 x206003 x207000 x207001 x207002 x207003).bind fun t214 => (tilefarmlaw2_RectPoints.l0 k (wrap64 (t210 - 4)) (wrap64 (t211 - 4)) t212 t213 t214 0 0 x206000 x206001 x206002 x206003 x207000 x207001 x207002 x207003))))))
def tilefarmlaw2_RectPoints.l0 : Nat → Int → Int → Bool → Bool → List (S26) → Int → Int → Int → Int → Int → Int → Int → Int → Int → Int → Option (Bool)
  | 0, _, _, _, _, _, _, _, _, _, _, _, _, _, _, _ => none
  | k + 1, x10, x11, x12, x13, x14, x15, x16, x206000, x206001, x206002, x206003, x207000, x207001, x207002, x207003 => if x16 < (x14.length : Int) then (if 0 ≤ x16 then ((rect_Contains.f ((rd_T26 x14 x16).f0) ((rd_T26 x14 x16).f1) ((rd_T26 x14 x16).f2) ((rd_T26 x14 x16).f3) x10 x11).bind fun t218 => (if t218 = true then (tilefarmlaw2_RectPoints.l0 k x10 x11 x12 x13 x14 (wrap64 (x15 + 1)) (wrap64 (x16 + 1)) x206000 x206001 x206002 x206003 x207000 x207001 x207002 x207003) else (tilefarmlaw2_RectPoints.l0 k x10 x11 x12 x13 x14 x15 (wrap64 (x16 + 1)) x206000 x206001 x206002 x206003 x207000 x207001 x207002 x207003))) else (none)) else (if x12 = true then (tilefarmlaw2_RectPoints.j2 k x10 x11 x12 x13 x15 0 (!x13) x206000 x206001 x206002 x206003 x207000 x207001 x207002 x207003) else (tilefarmlaw2_RectPoints.j2 k x10 x11 x12 x13 x15 0 false x206000 x206001 x206002 x206003 x207000 x207001 x207002 x207003))
def tilefarmlaw2_RectPoints.j2 : Nat → Int → Int → Bool → Bool → Int → Int → Bool → Int → Int → Int → Int → Int → Int → Int → Int → Option (Bool)
  | 0, _, _, _, _, _, _, _, _, _, _, _, _, _, _, _ => none
  | k + 1, x10, x11, x12, x13, x15, x17, x69, x206000, x206001, x206002, x206003, x207000, x207001, x207002, x207003 => if x69 = true then (tilefarmlaw2_RectPoints.j3 k x10 x11 x12 x13 x15 1 x206000 x206001 x206002 x206003 x207000 x207001 x207002 x207003) else (tilefarmlaw2_RectPoints.j3 k x10 x11 x12 x13 x15 x17 x206000 x206001 x206002 x206003 x207000 x207001 x207002 x207003)
def tilefarmlaw2_RectPoints.j3 : Nat → Int → Int → Bool → Bool → Int → Int → Int → Int → Int → Int → Int → Int → Int → Int → Option (Bool)
  | 0, _, _, _, _, _, _, _, _, _, _, _, _, _, _ => none
  | k + 1, x10, x11, x12, x13, x15, x17, x206000, x206001, x206002, x206003, x207000, x207001, x207002, x207003 => (rect_Intersect.f k x206000 x206001 x206002 x206003 x207000 x207001 x207002 x207003).bind fun bt219 => ((rect_Contains.f bt219.1 bt219.2.1 bt219.2.2.1 bt219.2.2.2 x10 x11).bind fun t223 => (if x12 = true then (if (t223 == x13) = true then ((rect_Hull.f k x206000 x206001 x206002 x206003 x207000 x207001 x207002 x207003).bind fun bt224 => ((rect_Contains.f bt224.1 bt224.2.1 bt224.2.2.1 bt224.2.2.2 x10 x11).bind fun t228 => (if t228 = true then (if x15 = x17 then ((tilefarmlaw2_sane.f k).bind fun t229 => (some t229)) else (some false)) else (some false)))) else (some false)) else (if (t223 == false) = true then (if x13 = true then ((rect_Hull.f k x206000 x206001 x206002 x206003 x207000 x207001 x207002 x207003).bind fun bt230 => ((rect_Contains.f bt230.1 bt230.2.1 bt230.2.2.1 bt230.2.2.2 x10 x11).bind fun t234 => (if t234 = true then (if x15 = x17 then ((tilefarmlaw2_sane.f k).bind fun t235 => (some t235)) else (some false)) else (some false)))) else (if x15 = x17 then ((tilefarmlaw2_sane.f k).bind fun t236 => (some t236)) else (some false))) else (some false))))
end
def tilefarmlaw2_RectPoints.f (k : Nat) (l0 : List Int) (a1 : Int) (a2 : Int) : Option (Bool) := (tilefarmgen_New.f l0).bind fun bt192 => ((tilefarmgen_Tape_Rect.f bt192.1 bt192.2).bind fun bt195 => ((tilefarmgen_Tape_Rect.f bt192.1 bt195.2.2.2.2).bind fun bt200 => ((tilefarmref2_Valid.f bt195.1 bt195.2.1 bt195.2.2.1 bt195.2.2.2.1).bind fun t207 => (if t207 = true then ((tilefarmref2_Valid.f bt200.1 bt200.2.1 bt200.2.2.1 bt200.2.2.2.1).bind fun t208 => (tilefarmlaw2_RectPoints.j0 k a1 a2 (!t208) bt195.1 bt195.2.1 bt195.2.2.1 bt195.2.2.2.1 bt200.1 bt200.2.1 bt200.2.2.1 bt200.2.2.2.1)) else (tilefarmlaw2_RectPoints.j0 k a1 a2 true bt195.1 bt195.2.1 bt195.2.2.1 bt195.2.2.2.1 bt200.1 bt200.2.1 bt200.2.2.1 bt200.2.2.2.1)))))
theorem tilefarmlaw2_RectPoints.mono_l : ∀ k, (∀ y0 y1 y2 y3 y4 y5 y6 y7 y8 y9 y10, LeO (tilefarmlaw2_RectPoints.j0 k y0 y1 y2 y3 y4 y5 y6 y7 y8 y9 y10) (tilefarmlaw2_RectPoints.j0 (k + 1) y0 y1 y2 y3 y4 y5 y6 y7 y8 y9 y10)) ∧ (∀ y0 y1 y2 y3 y4 y5 y6 y7 y8 y9 y10 y11 y12 y13 y14, LeO (tilefarmlaw2_RectPoints.l0 k y0 y1 y2 y3 y4 y5 y6 y7 y8 y9 y10 y11 y12 y13 y14) (tilefarmlaw2_RectPoints.l0 (k + 1) y0 y1 y2 y3 y4 y5 y6 y7 y8 y9 y10 y11 y12 y13 y14)) ∧ (∀ y0 y1 y2 y3 y4 y5 y6 y7 y8 y9 y10 y11 y12 y13 y14, LeO (tilefarmlaw2_RectPoints.j2 k y0 y1 y2 y3 y4 y5 y6 y7 y8 y9 y10 y11 y12 y13 y14) (tilefarmlaw2_RectPoints.j2 (k + 1) y0 y1 y2 y3 y4 y5 y6 y7 y8 y9 y10 y11 y12 y13 y14)) ∧ (∀ y0 y1 y2 y3 y4 y5 y6 y7 y8 y9 y10 y11 y12 y13, LeO (tilefarmlaw2_RectPoints.j3 k y0 y1 y2 y3 y4 y5 y6 y7 y8 y9 y10 y11 y12 y13) (tilefarmlaw2_RectPoints.j3 (k + 1) y0 y1 y2 y3 y4 y5 y6 y7 y8 y9 y10 y11 y12 y13))
  | 0 => ⟨fun _ _ _ _ _ _ _ _ _ _ _ r h => by simp [tilefarmlaw2_RectPoints.j0] at h, fun _ _ _ _ _ _ _ _ _ _ _ _ _ _ _ r h => by simp [tilefarmlaw2_RectPoints.l0] at h, fun _ _ _ _ _ _ _ _ _ _ _ _ _ _ _ r h => by simp [tilefarmlaw2_RectPoints.j2] at h, fun _ _ _ _ _ _ _ _ _ _ _ _ _ _ r h => by simp [tilefarmlaw2_RectPoints.j3] at h⟩
  | k + 1 => by
    obtain ⟨ih0, ih1, ih2, ih3⟩ := tilefarmlaw2_RectPoints.mono_l k
    refine ⟨?_, ?_, ?_, ?_⟩
    · intro y0 y1 y2 y3 y4 y5 y6 y7 y8 y9 y10
      unfold tilefarmlaw2_RectPoints.j0
      repeat' first
      | (with_reducible exact ih0 _ _ _ _ _ _ _ _ _ _ _)
      | (with_reducible exact ih1 _ _ _ _ _ _ _ _ _ _ _ _ _ _ _)
      | (with_reducible exact ih2 _ _ _ _ _ _ _ _ _ _ _ _ _ _ _)
      | (with_reducible exact ih3 _ _ _ _ _ _ _ _ _ _ _ _ _ _)
      | (with_reducible exact rect_Hull.mono _ _ _ _ _ _ _ _ _)
      | (with_reducible exact rect_Intersect.mono _ _ _ _ _ _ _ _ _)
      | (with_reducible exact rect_Subtract.mono _ _ _ _ _ _ _ _ _)
      | (with_reducible exact tilefarmlaw2_sane.mono _)
      | (with_reducible exact LeO.refl _)
      | (with_reducible exact LeO.none _)
      | (with_reducible refine LeO.ite ?_ ?_)
      | (with_reducible refine LeO.bind ?_ (fun _ => ?_))
      | exact ih0 _ _ _ _ _ _ _ _ _ _ _
      | exact ih1 _ _ _ _ _ _ _ _ _ _ _ _ _ _ _
      | exact ih2 _ _ _ _ _ _ _ _ _ _ _ _ _ _ _
      | exact ih3 _ _ _ _ _ _ _ _ _ _ _ _ _ _
      | exact rect_Hull.mono _ _ _ _ _ _ _ _ _
      | exact rect_Intersect.mono _ _ _ _ _ _ _ _ _
      | exact rect_Subtract.mono _ _ _ _ _ _ _ _ _
      | exact tilefarmlaw2_sane.mono _
      | exact LeO.none _
      | refine LeO.ite ?_ ?_
      | refine LeO.bind ?_ (fun _ => ?_)
    · intro y0 y1 y2 y3 y4 y5 y6 y7 y8 y9 y10 y11 y12 y13 y14
      unfold tilefarmlaw2_RectPoints.l0
      repeat' first
      | (with_reducible exact ih0 _ _ _ _ _ _ _ _ _ _ _)
      | (with_reducible exact ih1 _ _ _ _ _ _ _ _ _ _ _ _ _ _ _)
      | (with_reducible exact ih2 _ _ _ _ _ _ _ _ _ _ _ _ _ _ _)
      | (with_reducible exact ih3 _ _ _ _ _ _ _ _ _ _ _ _ _ _)
      | (with_reducible exact rect_Hull.mono _ _ _ _ _ _ _ _ _)
      | (with_reducible exact rect_Intersect.mono _ _ _ _ _ _ _ _ _)
      | (with_reducible exact rect_Subtract.mono _ _ _ _ _ _ _ _ _)
      | (with_reducible exact tilefarmlaw2_sane.mono _)
      | (with_reducible exact LeO.refl _)
      | (with_reducible exact LeO.none _)
      | (with_reducible refine LeO.ite ?_ ?_)
      | (with_reducible refine LeO.bind ?_ (fun _ => ?_))
      | exact ih0 _ _ _ _ _ _ _ _ _ _ _
      | exact ih1 _ _ _ _ _ _ _ _ _ _ _ _ _ _ _
      | exact ih2 _ _ _ _ _ _ _ _ _ _ _ _ _ _ _
      | exact ih3 _ _ _ _ _ _ _ _ _ _ _ _ _ _
      | exact rect_Hull.mono _ _ _ _ _ _ _ _ _
      | exact rect_Intersect.mono _ _ _ _ _ _ _ _ _
      | exact rect_Subtract.mono _ _ _ _ _ _ _ _ _
      | exact tilefarmlaw2_sane.mono _
      | exact LeO.none _
      | refine LeO.ite ?_ ?_
      | refine LeO.bind ?_ (fun _ => ?_)
    · intro y0 y1 y2 y3 y4 y5 y6 y7 y8 y9 y10 y11 y12 y13 y14
      unfold tilefarmlaw2_RectPoints.j2
      repeat' first
      | (with_reducible exact ih0 _ _ _ _ _ _ _ _ _ _ _)
      | (with_reducible exact ih1 _ _ _ _ _ _ _ _ _ _ _ _ _ _ _)
      | (with_reducible exact ih2 _ _ _ _ _ _ _ _ _ _ _ _ _ _ _)
      | (with_reducible exact ih3 _ _ _ _ _ _ _ _ _ _ _ _ _ _)
      | (with_reducible exact rect_Hull.mono _ _ _ _ _ _ _ _ _)
      | (with_reducible exact rect_Intersect.mono _ _ _ _ _ _ _ _ _)
      | (with_reducible exact rect_Subtract.mono _ _ _ _ _ _ _ _ _)
      | (with_reducible exact tilefarmlaw2_sane.mono _)
      | (with_reducible exact LeO.refl _)
      | (with_reducible exact LeO.none _)
      | (with_reducible refine LeO.ite ?_ ?_)
      | (with_reducible refine LeO.bind ?_ (fun _ => ?_))
      | exact ih0 _ _ _ _ _ _ _ _ _ _ _
      | exact ih1 _ _ _ _ _ _ _ _ _ _ _ _ _ _ _
      | exact ih2 _ _ _ _ _ _ _ _ _ _ _ _ _ _ _
      | exact ih3 _ _ _ _ _ _ _ _ _ _ _ _ _ _
      | exact rect_Hull.mono _ _ _ _ _ _ _ _ _
      | exact rect_Intersect.mono _ _ _ _ _ _ _ _ _
      | exact rect_Subtract.mono _ _ _ _ _ _ _ _ _
      | exact tilefarmlaw2_sane.mono _
      | exact LeO.none _
      | refine LeO.ite ?_ ?_
      | refine LeO.bind ?_ (fun _ => ?_)
    · intro y0 y1 y2 y3 y4 y5 y6 y7 y8 y9 y10 y11 y12 y13
      unfold tilefarmlaw2_RectPoints.j3
      repeat' first
      | (with_reducible exact ih0 _ _ _ _ _ _ _ _ _ _ _)
      | (with_reducible exact ih1 _ _ _ _ _ _ _ _ _ _ _ _ _ _ _)
      | (with_reducible exact ih2 _ _ _ _ _ _ _ _ _ _ _ _ _ _ _)
      | (with_reducible exact ih3 _ _ _ _ _ _ _ _ _ _ _ _ _ _)
      | (with_reducible exact rect_Hull.mono _ _ _ _ _ _ _ _ _)
      | (with_reducible exact rect_Intersect.mono _ _ _ _ _ _ _ _ _)
      | (with_reducible exact rect_Subtract.mono _ _ _ _ _ _ _ _ _)
      | (with_reducible exact tilefarmlaw2_sane.mono _)
      | (with_reducible exact LeO.refl _)
      | (with_reducible exact LeO.none _)
      | (with_reducible refine LeO.ite ?_ ?_)
      | (with_reducible refine LeO.bind ?_ (fun _ => ?_))
      | exact ih0 _ _ _ _ _ _ _ _ _ _ _
      | exact ih1 _ _ _ _ _ _ _ _ _ _ _ _ _ _ _
      | exact ih2 _ _ _ _ _ _ _ _ _ _ _ _ _ _ _
      | exact ih3 _ _ _ _ _ _ _ _ _ _ _ _ _ _
      | exact rect_Hull.mono _ _ _ _ _ _ _ _ _
      | exact rect_Intersect.mono _ _ _ _ _ _ _ _ _
      | exact rect_Subtract.mono _ _ _ _ _ _ _ _ _
      | exact tilefarmlaw2_sane.mono _
      | exact LeO.none _
      | refine LeO.ite ?_ ?_
      | refine LeO.bind ?_ (fun _ => ?_)
theorem tilefarmlaw2_RectPoints.mono : ∀ a0 a1 a2 k, LeO (tilefarmlaw2_RectPoints.f k a0 a1 a2) (tilefarmlaw2_RectPoints.f (k + 1) a0 a1 a2) := by
  intro a0 a1 a2 k
  obtain ⟨ih0, ih1, ih2, ih3⟩ := tilefarmlaw2_RectPoints.mono_l k
  unfold tilefarmlaw2_RectPoints.f
  repeat' first
      | (with_reducible exact ih0 _ _ _ _ _ _ _ _ _ _ _)
      | (with_reducible exact ih1 _ _ _ _ _ _ _ _ _ _ _ _ _ _ _)
      | (with_reducible exact ih2 _ _ _ _ _ _ _ _ _ _ _ _ _ _ _)
      | (with_reducible exact ih3 _ _ _ _ _ _ _ _ _ _ _ _ _ _)
      | (with_reducible exact rect_Hull.mono _ _ _ _ _ _ _ _ _)
      | (with_reducible exact rect_Intersect.mono _ _ _ _ _ _ _ _ _)
      | (with_reducible exact rect_Subtract.mono _ _ _ _ _ _ _ _ _)
      | (with_reducible exact tilefarmlaw2_sane.mono _)
      | (with_reducible exact LeO.refl _)
      | (with_reducible exact LeO.none _)
      | (with_reducible refine LeO.ite ?_ ?_)
      | (with_reducible refine LeO.bind ?_ (fun _ => ?_))
      | exact ih0 _ _ _ _ _ _ _ _ _ _ _
      | exact ih1 _ _ _ _ _ _ _ _ _ _ _ _ _ _ _
      | exact ih2 _ _ _ _ _ _ _ _ _ _ _ _ _ _ _
      | exact ih3 _ _ _ _ _ _ _ _ _ _ _ _ _ _
      | exact rect_Hull.mono _ _ _ _ _ _ _ _ _
      | exact rect_Intersect.mono _ _ _ _ _ _ _ _ _
      | exact rect_Subtract.mono _ _ _ _ _ _ _ _ _
      | exact tilefarmlaw2_sane.mono _
      | exact LeO.none _
      | refine LeO.ite ?_ ?_
      | refine LeO.bind ?_ (fun _ => ?_)
def tilefarmlaw2_RectPoints.T6 : Bool × List (List Nat × List Nat) := (true, [([], []), ([], []), ([], []), ([0, 1, 2], [0, 1, 2]), ([], []), ([], []), ([], []), ([4, 5, 6, 3], [4, 5, 6]), ([3, 7, 0, 1, 2, 3], [3]), ([7, 8, 0, 1, 2, 3, 4, 5, 6, 7, 8], [7])])
def tilefarmlaw2_RectPoints.B6 : List Nat := [0, 0, 0, 7, 0, 0, 0, 127, 255, 511]
theorem tilefarmlaw2_RectPoints.tab6 : rtab .any (opsOf Try.f4 6) = tilefarmlaw2_RectPoints.T6 := by kernel_rfl
theorem tilefarmlaw2_RectPoints.bits6 : waitsOk tilefarmlaw2_RectPoints.T6.2 tilefarmlaw2_RectPoints.B6 = true := by kernel_rfl
set_option maxHeartbeats 8000000 in
set_option maxRecDepth 100000 in
theorem tilefarmlaw2_RectPoints.calls (k : Nat) (A0 : Option Addr) (c0 : Nat) (l0 : List Int) (a1 : Int) (a2 : Int) (r : Bool) (w : World) (hr0 : Kd.C (Kd.int .i64) w A0 l0.length l0) (hc0 : l0.length ≤ c0) (h : tilefarmlaw2_RectPoints.f k l0 a1 a2 = some r) :
    Calls Try.prog 4 #[.slice A0 l0.length c0, .int .i64 a1, .int .i64 a2] w fun e w' => e = .returned (.bool r) ∧ Below w.heap.size w w' := by
  have hu26 := Try.underlying26
  have HR0 := Aside0.mk hr0
  have HC0 := Aside0.mk hc0
  clear hr0 hc0
  have HB := Aside0.mk (Below.refl w.heap.size w)
  have H : ((tilefarmgen_New.f l0).bind fun bt192 => ((tilefarmgen_Tape_Rect.f bt192.1 bt192.2).bind fun bt195 => ((tilefarmgen_Tape_Rect.f bt192.1 bt195.2.2.2.2).bind fun bt200 => ((tilefarmref2_Valid.f bt195.1 bt195.2.1 bt195.2.2.1 bt195.2.2.2.1).bind fun t207 => (if t207 = true then ((tilefarmref2_Valid.f bt200.1 bt200.2.1 bt200.2.2.1 bt200.2.2.2.1).bind fun t208 => (tilefarmlaw2_RectPoints.j0 k a1 a2 (!t208) bt195.1 bt195.2.1 bt195.2.2.1 bt195.2.2.2.1 bt200.1 bt200.2.1 bt200.2.2.1 bt200.2.2.2.1)) else (tilefarmlaw2_RectPoints.j0 k a1 a2 true bt195.1 bt195.2.1 bt195.2.2.1 bt195.2.2.2.1 bt200.1 bt200.2.1 bt200.2.2.1 bt200.2.2.2.1)))))) = some r := h
  clear h
  replace H := Option.bind_eq_some_iff.mp H
  obtain ⟨⟨t192, t193⟩, A40, H⟩ := H
  replace H : ((tilefarmgen_Tape_Rect.f t192 t193).bind fun bt195 => ((tilefarmgen_Tape_Rect.f t192 bt195.2.2.2.2).bind fun bt200 => ((tilefarmref2_Valid.f bt195.1 bt195.2.1 bt195.2.2.1 bt195.2.2.2.1).bind fun t207 => (if t207 = true then ((tilefarmref2_Valid.f bt200.1 bt200.2.1 bt200.2.2.1 bt200.2.2.2.1).bind fun t208 => (tilefarmlaw2_RectPoints.j0 k a1 a2 (!t208) bt195.1 bt195.2.1 bt195.2.2.1 bt195.2.2.2.1 bt200.1 bt200.2.1 bt200.2.2.1 bt200.2.2.2.1)) else (tilefarmlaw2_RectPoints.j0 k a1 a2 true bt195.1 bt195.2.1 bt195.2.2.1 bt195.2.2.2.1 bt200.1 bt200.2.1 bt200.2.2.1 bt200.2.2.2.1))))) = some r := H
  have A4 := Aside0.mk A40
  clear A40
  replace H := Option.bind_eq_some_iff.mp H
  obtain ⟨⟨t195, t196, t197, t198, t199⟩, A50, H⟩ := H
  replace H : ((tilefarmgen_Tape_Rect.f t192 t199).bind fun bt200 => ((tilefarmref2_Valid.f t195 t196 t197 t198).bind fun t207 => (if t207 = true then ((tilefarmref2_Valid.f bt200.1 bt200.2.1 bt200.2.2.1 bt200.2.2.2.1).bind fun t208 => (tilefarmlaw2_RectPoints.j0 k a1 a2 (!t208) t195 t196 t197 t198 bt200.1 bt200.2.1 bt200.2.2.1 bt200.2.2.2.1)) else (tilefarmlaw2_RectPoints.j0 k a1 a2 true t195 t196 t197 t198 bt200.1 bt200.2.1 bt200.2.2.1 bt200.2.2.2.1)))) = some r := H
  have A5 := Aside0.mk A50
  clear A50
  replace H := Option.bind_eq_some_iff.mp H
  obtain ⟨⟨t200, t201, t202, t203, t204⟩, A60, H⟩ := H
  replace H : ((tilefarmref2_Valid.f t195 t196 t197 t198).bind fun t207 => (if t207 = true then ((tilefarmref2_Valid.f t200 t201 t202 t203).bind fun t208 => (tilefarmlaw2_RectPoints.j0 k a1 a2 (!t208) t195 t196 t197 t198 t200 t201 t202 t203)) else (tilefarmlaw2_RectPoints.j0 k a1 a2 true t195 t196 t197 t198 t200 t201 t202 t203))) = some r := H
  have A6 := Aside0.mk A60
  clear A60
  have HC7 := Aside0.mk H
  clear H
  go_enter Try.func4, Try.ntmps4
  go_upto_region 3 with (first | ((with_reducible refine gate_callee (f := 7) rfl ?_); refine goesL_ (some 19) rfl rfl Try.func7 (by kernel_rfl) rfl #[.slice A0 l0.length c0] rfl (by (try simp only [List.map_toArray, List.map_cons, List.map_nil]); first | done | rfl | (simp only [List.length_drop, List.length_take]; rfl)) ?_; (with_reducible refine (tilefarmgen_New.calls _ _ l0 t192 t193 w _ ?side1 ?side2 ?side3 A4.out).mono ?_); (case side1 => repeat (first | (with_reducible first | exact HB.out | apply below_alloc | apply pw_below_drewN | apply below_drew1) | exact HB.out)); (case side2 => exact HR0.out); (case side3 => exact HC0.out); rintro e w8 ⟨g194, rfl, hi, hb, hb2⟩; refine ⟨_, rfl, ?_⟩; have n0_ := Aside0.mk (hb); have n1_ := Aside0.mk (hi); clear HB; have HB := n0_; have HI194 := n1_; clear n0_ n1_; (try clear hb); (try clear hb2); (try clear hk); (try clear hi)) | ((with_reducible refine gate_callee (f := 8) rfl ?_); refine goesL_ (some 21) rfl rfl Try.func8 (by kernel_rfl) rfl #[.pointer (some ⟨g194, 0, none⟩)] rfl (by (try simp only [List.map_toArray, List.map_cons, List.map_nil]); first | done | rfl | (simp only [List.length_drop, List.length_take]; rfl)) ?_; (with_reducible refine (tilefarmgen_Tape_Rect.calls g194 t192 t193 t195 t196 t197 t198 t199 w _ ?side1 ?side2 A5.out).mono ?_); (case side1 => repeat (first | (with_reducible first | exact HI194.out | apply IsS46.alloc | apply IsS46.drewN | apply IsS46.drew | apply IsS46.set_1) | exact HI194.out)); (case side2 => repeat (first | (with_reducible first | exact HB.out | apply below_alloc | apply pw_below_drewN | apply below_drew1 | refine below_set ?_ (IsS46.ge HI194.out)) | exact HB.out)); rintro e w9 ⟨rfl, hi, hb, hk⟩; refine ⟨_, rfl, ?_⟩; have n0_ := Aside0.mk (hb); have n1_ := Aside0.mk (hi); clear HB; clear HI194; have HB := n0_; have HI194 := n1_; clear n0_ n1_; (try clear hb); (try clear hb2); (try clear hk); (try clear hi)) | ((with_reducible refine gate_callee (f := 8) rfl ?_); refine goesL_ (some 23) rfl rfl Try.func8 (by kernel_rfl) rfl #[.pointer (some ⟨g194, 0, none⟩)] rfl (by (try simp only [List.map_toArray, List.map_cons, List.map_nil]); first | done | rfl | (simp only [List.length_drop, List.length_take]; rfl)) ?_; (with_reducible refine (tilefarmgen_Tape_Rect.calls g194 t192 t199 t200 t201 t202 t203 t204 w _ ?side1 ?side2 A6.out).mono ?_); (case side1 => repeat (first | (with_reducible first | exact HI194.out | apply IsS46.alloc | apply IsS46.drewN | apply IsS46.drew | apply IsS46.set_1) | exact HI194.out)); (case side2 => repeat (first | (with_reducible first | exact HB.out | apply below_alloc | apply pw_below_drewN | apply below_drew1 | refine below_set ?_ (IsS46.ge HI194.out)) | exact HB.out)); rintro e w10 ⟨rfl, hi, hb, hk⟩; refine ⟨_, rfl, ?_⟩; have n0_ := Aside0.mk (hb); have n1_ := Aside0.mk (hi); clear HB; clear HI194; have HB := n0_; have HI194 := n1_; clear n0_ n1_; (try clear hb); (try clear hb2); (try clear hk); (try clear hi)) | ((with_reducible refine gate_dst (N := 8) rfl ?_); refine box_event ?hg (N := 8) ?hd (cs := #[.int .i64 0, .int .i64 0, .int .i64 0, .int .i64 0]) (t := 26) ?hr ?_; (case hd => rfl); (case hg => rfl); (case hr => first | (go_simp; done) | (go_simp; rfl)); intro gb205 hg w11 hbox hb; have n0_ := Aside0.mk (IsS46.below (by repeat (first | (with_reducible first | exact HI194.out | apply IsS46.alloc | apply IsS46.drewN | apply IsS46.drew | apply IsS46.set_1) | exact HI194.out)) hb); have n1_ := Aside0.mk (below_step (by repeat (first | (with_reducible first | exact HB.out | apply below_alloc | apply pw_below_drewN | apply below_drew1 | refine below_set ?_ (IsS46.ge HI194.out)) | exact HB.out)) hb); have n2_ := Aside0.mk (hbox); have n3_ := Aside0.mk ((by rw [hg]; exact (below_size (by repeat (first | (with_reducible first | exact HB.out | apply below_alloc | apply pw_below_drewN | apply below_drew1 | refine below_set ?_ (IsS46.ge HI194.out)) | exact HB.out))) : w.heap.size ≤ gb205)); have n4_ := Aside0.mk ((by rw [hg]; exact (below_size (by repeat (first | (with_reducible first | exact HB.out | apply below_alloc | apply pw_below_drewN | apply below_drew1 | refine below_set ?_ (IsS46.ge HI194.out)) | exact HB.out))) : w.heap.size ≤ gb205)); have n5_ := Aside0.mk ((by rw [hg]; exact Nat.ne_of_lt (IsS46.lt (show IsS46 w _ g194 t192 t204 from by repeat (first | (with_reducible first | exact HI194.out | apply IsS46.alloc | apply IsS46.drewN | apply IsS46.drew | apply IsS46.set_1) | exact HI194.out))) : g194 ≠ gb205)); have n6_ := Aside0.mk ((by rw [hg]; exact Nat.ne_of_gt (IsS46.lt (show IsS46 w _ g194 t192 t204 from by repeat (first | (with_reducible first | exact HI194.out | apply IsS46.alloc | apply IsS46.drewN | apply IsS46.drew | apply IsS46.set_1) | exact HI194.out))) : gb205 ≠ g194)); clear HI194; clear HB; have HI194 := n0_; have HB := n1_; have BK205 := n2_; have GW205 := n3_; have GE205 := n4_; have NB194_205 := n5_; have NB205_194 := n6_; clear n0_ n1_ n2_ n3_ n4_ n5_ n6_; clear hb hbox hg) | ((with_reducible refine gate_dst (N := 9) rfl ?_); refine box_event ?hg (N := 9) ?hd (cs := #[.int .i64 0, .int .i64 0, .int .i64 0, .int .i64 0]) (t := 26) ?hr ?_; (case hd => rfl); (case hg => rfl); (case hr => first | (go_simp; done) | (go_simp; rfl)); intro gb206 hg w12 hbox hb; have n0_ := Aside0.mk (IsS46.below (by repeat (first | (with_reducible first | exact HI194.out | apply IsS46.alloc | apply IsS46.drewN | apply IsS46.drew | apply IsS46.set_1 | refine IsS46.far ?_ NB194_205.out _) | exact HI194.out)) hb); have n1_ := Aside0.mk (blk_below (g := gb205) (o := .cells #[.int .i64 0, .int .i64 0, .int .i64 0, .int .i64 0] 26 (0, 0)) (by (with_reducible repeat (first | refine blk_drewN ?_ _ | refine blk_drew ?_ | refine blk_alloc ?_ _)); exact BK205.out) hb); have n2_ := Aside0.mk (below_step (by repeat (first | (with_reducible first | exact HB.out | apply below_alloc | apply pw_below_drewN | apply below_drew1 | refine below_set ?_ (IsS46.ge HI194.out) | refine below_set ?_ GE205.out) | exact HB.out)) hb); have n3_ := Aside0.mk (hbox); have n4_ := Aside0.mk ((by rw [hg]; exact (below_size (by repeat (first | (with_reducible first | exact HB.out | apply below_alloc | apply pw_below_drewN | apply below_drew1 | refine below_set ?_ (IsS46.ge HI194.out) | refine below_set ?_ GE205.out) | exact HB.out))) : w.heap.size ≤ gb206)); have n5_ := Aside0.mk ((by rw [hg]; exact (below_size (by repeat (first | (with_reducible first | exact HB.out | apply below_alloc | apply pw_below_drewN | apply below_drew1 | refine below_set ?_ (IsS46.ge HI194.out) | refine below_set ?_ GE205.out) | exact HB.out))) : w.heap.size ≤ gb206)); have n6_ := Aside0.mk ((by rw [hg]; exact Nat.ne_of_lt (blk_lt (g := gb205) (o := .cells #[.int .i64 0, .int .i64 0, .int .i64 0, .int .i64 0] 26 (0, 0)) (by (with_reducible repeat (first | refine blk_drewN ?_ _ | refine blk_drew ?_ | refine blk_alloc ?_ _)); exact BK205.out)) : gb205 ≠ gb206)); have n7_ := Aside0.mk ((by rw [hg]; exact Nat.ne_of_gt (blk_lt (g := gb205) (o := .cells #[.int .i64 0, .int .i64 0, .int .i64 0, .int .i64 0] 26 (0, 0)) (by (with_reducible repeat (first | refine blk_drewN ?_ _ | refine blk_drew ?_ | refine blk_alloc ?_ _)); exact BK205.out)) : gb206 ≠ gb205)); have n8_ := Aside0.mk ((by rw [hg]; exact Nat.ne_of_lt (IsS46.lt (show IsS46 w _ g194 t192 t204 from by repeat (first | (with_reducible first | exact HI194.out | apply IsS46.alloc | apply IsS46.drewN | apply IsS46.drew | apply IsS46.set_1 | refine IsS46.far ?_ NB194_205.out _) | exact HI194.out))) : g194 ≠ gb206)); have n9_ := Aside0.mk ((by rw [hg]; exact Nat.ne_of_gt (IsS46.lt (show IsS46 w _ g194 t192 t204 from by repeat (first | (with_reducible first | exact HI194.out | apply IsS46.alloc | apply IsS46.drewN | apply IsS46.drew | apply IsS46.set_1 | refine IsS46.far ?_ NB194_205.out _) | exact HI194.out))) : gb206 ≠ g194)); clear HI194; clear BK205; clear HB; have HI194 := n0_; have BK205 := n1_; have HB := n2_; have BK206 := n3_; have GW206 := n4_; have GE206 := n5_; have NB205_206 := n6_; have NB206_205 := n7_; have NB194_206 := n8_; have NB206_194 := n9_; clear n0_ n1_ n2_ n3_ n4_ n5_ n6_ n7_ n8_ n9_; clear hb hbox hg; have hnb13 := NB205_206.out; have hnc13 := NB206_205.out; have hnb14 := NB205_194.out; have hnc14 := NB194_205.out; have hcz15_0 : w12.cell? ⟨gb205, 0, none⟩ = some (.int .i64 0) := (blk_cell BK205.out 0).trans rfl; have hcz15_1 : w12.cell? ⟨gb205, 1, none⟩ = some (.int .i64 0) := (blk_cell BK205.out 1).trans rfl; have hcz15_2 : w12.cell? ⟨gb205, 2, none⟩ = some (.int .i64 0) := (blk_cell BK205.out 2).trans rfl; have hcz15_3 : w12.cell? ⟨gb205, 3, none⟩ = some (.int .i64 0) := (blk_cell BK205.out 3).trans rfl; have hfz15_0 := blk_frozen BK205.out 0; have hfz15_1 := blk_frozen BK205.out 1; have hfz15_2 := blk_frozen BK205.out 2; have hfz15_3 := blk_frozen BK205.out 3; have hnb16 := NB206_194.out; have hnc16 := NB194_206.out; have hcz17_0 : w12.cell? ⟨gb206, 0, none⟩ = some (.int .i64 0) := (blk_cell BK206.out 0).trans rfl; have hcz17_1 : w12.cell? ⟨gb206, 1, none⟩ = some (.int .i64 0) := (blk_cell BK206.out 1).trans rfl; have hcz17_2 : w12.cell? ⟨gb206, 2, none⟩ = some (.int .i64 0) := (blk_cell BK206.out 2).trans rfl; have hcz17_3 : w12.cell? ⟨gb206, 3, none⟩ = some (.int .i64 0) := (blk_cell BK206.out 3).trans rfl; have hfz17_0 := blk_frozen BK206.out 0; have hfz17_1 := blk_frozen BK206.out 1; have hfz17_2 := blk_frozen BK206.out 2; have hfz17_3 := blk_frozen BK206.out 3))
  (try simp only [Act.put, List.setIfInBounds_toArray, List.set_cons_zero, List.set_cons_succ])
  go_cut [31] (fun v31 wc => ∃ (kq : Nat) (x31_6 : Bool), v31 = .bool x31_6 ∧ Aside0 (tilefarmlaw2_RectPoints.j0 kq a1 a2 x31_6 t195 t196 t197 t198 t200 t201 t202 t203 = some r) ∧ Aside0 (kq ≤ k) ∧ Aside0 (wc.heap[gb205]? = some (.cells #[.int .i64 t195, .int .i64 t196, .int .i64 t197, .int .i64 t198] 26 (0, 0))) ∧ Aside0 (wc.heap[gb206]? = some (.cells #[.int .i64 t200, .int .i64 t201, .int .i64 t202, .int .i64 t203] 26 (0, 0))) ∧ Aside0 (Below w.heap.size w wc))
  case first =>
    have H := HC7.out
    clear HC7
    replace H := Option.bind_eq_some_iff.mp H
    obtain ⟨t207, A180, H⟩ := H
    replace H : (if t207 = true then ((tilefarmref2_Valid.f t200 t201 t202 t203).bind fun t208 => (tilefarmlaw2_RectPoints.j0 k a1 a2 (!t208) t195 t196 t197 t198 t200 t201 t202 t203)) else (tilefarmlaw2_RectPoints.j0 k a1 a2 true t195 t196 t197 t198 t200 t201 t202 t203)) = some r := H
    have A18 := Aside0.mk A180
    clear A180
    by_cases c19 : t207 = true
    · subst c19
      have H1 : ((tilefarmref2_Valid.f t200 t201 t202 t203).bind fun t208 => (tilefarmlaw2_RectPoints.j0 k a1 a2 (!t208) t195 t196 t197 t198 t200 t201 t202 t203)) = some r := by rw [if_pos rfl] at H; exact H
      clear H
      have H := H1
      clear H1
      replace H := Option.bind_eq_some_iff.mp H
      obtain ⟨t208, A200, H⟩ := H
      replace H : (tilefarmlaw2_RectPoints.j0 k a1 a2 (!t208) t195 t196 t197 t198 t200 t201 t202 t203) = some r := H
      have A20 := Aside0.mk A200
      clear A200
      have H' := Aside0.mk H
      clear H
      have hnb21 := NB205_206.out
      have hnc21 := NB206_205.out
      have hnb22 := NB205_194.out
      have hnc22 := NB194_205.out
      have hcz23_0 : w12.cell? ⟨gb205, 0, none⟩ = some (.int .i64 0) := (blk_cell BK205.out 0).trans rfl
      have hcz23_1 : w12.cell? ⟨gb205, 1, none⟩ = some (.int .i64 0) := (blk_cell BK205.out 1).trans rfl
      have hcz23_2 : w12.cell? ⟨gb205, 2, none⟩ = some (.int .i64 0) := (blk_cell BK205.out 2).trans rfl
      have hcz23_3 : w12.cell? ⟨gb205, 3, none⟩ = some (.int .i64 0) := (blk_cell BK205.out 3).trans rfl
      have hfz23_0 := blk_frozen BK205.out 0
      have hfz23_1 := blk_frozen BK205.out 1
      have hfz23_2 := blk_frozen BK205.out 2
      have hfz23_3 := blk_frozen BK205.out 3
      go_wp2_with (first | ((with_reducible refine gate_callee (f := 9) rfl ?_); refine goesL_ (some 25) rfl rfl Try.func9 (by kernel_rfl) rfl #[.agg #[.int .i64 t195, .int .i64 t196, .int .i64 t197, .int .i64 t198]] rfl (by (try simp only [List.map_toArray, List.map_cons, List.map_nil]); first | done | rfl | (simp only [List.length_drop, List.length_take]; rfl)) ?_; (with_reducible refine (tilefarmref2_Valid.calls t195 t196 t197 t198 true _ A18.out).mono ?_); rintro e w24 ⟨rfl, hb⟩; refine ⟨_, rfl, ?_⟩; have n0_ := Aside0.mk (IsS46.below (show IsS46 w ((((((((w12.setCell ⟨gb205, 0, none⟩ (.int .i64 t195)).setCell ⟨gb205, 1, none⟩ (.int .i64 t196)).setCell ⟨gb205, 2, none⟩ (.int .i64 t197)).setCell ⟨gb205, 3, none⟩ (.int .i64 t198)).setCell ⟨gb206, 0, none⟩ (.int .i64 t200)).setCell ⟨gb206, 1, none⟩ (.int .i64 t201)).setCell ⟨gb206, 2, none⟩ (.int .i64 t202)).setCell ⟨gb206, 3, none⟩ (.int .i64 t203)) g194 t192 t204 from by repeat (first | (with_reducible first | exact HI194.out | apply IsS46.alloc | apply IsS46.drewN | apply IsS46.drew | apply IsS46.set_1 | refine IsS46.far ?_ NB194_205.out _ | refine IsS46.far ?_ NB194_206.out _) | exact HI194.out)) hb); have n1_ := Aside0.mk (blk_below (g := gb205) (o := .cells #[.int .i64 t195, .int .i64 t196, .int .i64 t197, .int .i64 t198] 26 (0, 0)) (by (with_reducible repeat (first | refine blk_drewN ?_ _ | refine blk_drew ?_ | refine blk_alloc ?_ _)); refine blk_far ?_ NB205_206.out _; (with_reducible repeat (first | refine blk_drewN ?_ _ | refine blk_drew ?_ | refine blk_alloc ?_ _)); refine blk_far ?_ NB205_206.out _; (with_reducible repeat (first | refine blk_drewN ?_ _ | refine blk_drew ?_ | refine blk_alloc ?_ _)); refine blk_far ?_ NB205_206.out _; (with_reducible repeat (first | refine blk_drewN ?_ _ | refine blk_drew ?_ | refine blk_alloc ?_ _)); refine blk_far ?_ NB205_206.out _; (with_reducible repeat (first | refine blk_drewN ?_ _ | refine blk_drew ?_ | refine blk_alloc ?_ _)); refine blk_put (cs := #[.int .i64 t195, .int .i64 t196, .int .i64 t197, .int .i64 0]) ?_ 3 _ rfl; (with_reducible repeat (first | refine blk_drewN ?_ _ | refine blk_drew ?_ | refine blk_alloc ?_ _)); refine blk_put (cs := #[.int .i64 t195, .int .i64 t196, .int .i64 0, .int .i64 0]) ?_ 2 _ rfl; (with_reducible repeat (first | refine blk_drewN ?_ _ | refine blk_drew ?_ | refine blk_alloc ?_ _)); refine blk_put (cs := #[.int .i64 t195, .int .i64 0, .int .i64 0, .int .i64 0]) ?_ 1 _ rfl; (with_reducible repeat (first | refine blk_drewN ?_ _ | refine blk_drew ?_ | refine blk_alloc ?_ _)); refine blk_put (cs := #[.int .i64 0, .int .i64 0, .int .i64 0, .int .i64 0]) ?_ 0 _ rfl; (with_reducible repeat (first | refine blk_drewN ?_ _ | refine blk_drew ?_ | refine blk_alloc ?_ _)); exact BK205.out) hb); have n2_ := Aside0.mk (blk_below (g := gb206) (o := .cells #[.int .i64 t200, .int .i64 t201, .int .i64 t202, .int .i64 t203] 26 (0, 0)) (by (with_reducible repeat (first | refine blk_drewN ?_ _ | refine blk_drew ?_ | refine blk_alloc ?_ _)); refine blk_put (cs := #[.int .i64 t200, .int .i64 t201, .int .i64 t202, .int .i64 0]) ?_ 3 _ rfl; (with_reducible repeat (first | refine blk_drewN ?_ _ | refine blk_drew ?_ | refine blk_alloc ?_ _)); refine blk_put (cs := #[.int .i64 t200, .int .i64 t201, .int .i64 0, .int .i64 0]) ?_ 2 _ rfl; (with_reducible repeat (first | refine blk_drewN ?_ _ | refine blk_drew ?_ | refine blk_alloc ?_ _)); refine blk_put (cs := #[.int .i64 t200, .int .i64 0, .int .i64 0, .int .i64 0]) ?_ 1 _ rfl; (with_reducible repeat (first | refine blk_drewN ?_ _ | refine blk_drew ?_ | refine blk_alloc ?_ _)); refine blk_put (cs := #[.int .i64 0, .int .i64 0, .int .i64 0, .int .i64 0]) ?_ 0 _ rfl; (with_reducible repeat (first | refine blk_drewN ?_ _ | refine blk_drew ?_ | refine blk_alloc ?_ _)); refine blk_far ?_ NB206_205.out _; (with_reducible repeat (first | refine blk_drewN ?_ _ | refine blk_drew ?_ | refine blk_alloc ?_ _)); refine blk_far ?_ NB206_205.out _; (with_reducible repeat (first | refine blk_drewN ?_ _ | refine blk_drew ?_ | refine blk_alloc ?_ _)); refine blk_far ?_ NB206_205.out _; (with_reducible repeat (first | refine blk_drewN ?_ _ | refine blk_drew ?_ | refine blk_alloc ?_ _)); refine blk_far ?_ NB206_205.out _; (with_reducible repeat (first | refine blk_drewN ?_ _ | refine blk_drew ?_ | refine blk_alloc ?_ _)); exact BK206.out) hb); have n3_ := Aside0.mk (below_step (by repeat (first | (with_reducible first | exact HB.out | apply below_alloc | apply pw_below_drewN | apply below_drew1 | refine below_set ?_ (IsS46.ge HI194.out) | refine below_set ?_ GE205.out | refine below_set ?_ GE206.out) | exact HB.out)) hb); clear HI194; clear BK205; clear BK206; clear HB; have HI194 := n0_; have BK205 := n1_; have BK206 := n2_; have HB := n3_; clear n0_ n1_ n2_ n3_; (try clear hb); (try clear hb2); (try clear hk); (try clear hi); have hnb25 := NB206_194.out; have hnc25 := NB194_206.out; have hcz26_0 : w24.cell? ⟨gb206, 0, none⟩ = some (.int .i64 t200) := (blk_cell BK206.out 0).trans rfl; have hcz26_1 : w24.cell? ⟨gb206, 1, none⟩ = some (.int .i64 t201) := (blk_cell BK206.out 1).trans rfl; have hcz26_2 : w24.cell? ⟨gb206, 2, none⟩ = some (.int .i64 t202) := (blk_cell BK206.out 2).trans rfl; have hcz26_3 : w24.cell? ⟨gb206, 3, none⟩ = some (.int .i64 t203) := (blk_cell BK206.out 3).trans rfl; have hfz26_0 := blk_frozen BK206.out 0; have hfz26_1 := blk_frozen BK206.out 1; have hfz26_2 := blk_frozen BK206.out 2; have hfz26_3 := blk_frozen BK206.out 3) | (go_at_call 9; (with_reducible refine (tilefarmref2_Valid.calls t200 t201 t202 t203 t208 _ A20.out).mono ?_); rintro e w27 ⟨rfl, hb⟩; have n0_ := Aside0.mk (IsS46.below (by repeat (first | (with_reducible first | exact HI194.out | apply IsS46.alloc | apply IsS46.drewN | apply IsS46.drew | apply IsS46.set_1 | refine IsS46.far ?_ NB194_205.out _ | refine IsS46.far ?_ NB194_206.out _) | exact HI194.out)) hb); have n1_ := Aside0.mk (blk_below (g := gb205) (o := .cells #[.int .i64 t195, .int .i64 t196, .int .i64 t197, .int .i64 t198] 26 (0, 0)) (by (with_reducible repeat (first | refine blk_drewN ?_ _ | refine blk_drew ?_ | refine blk_alloc ?_ _)); exact BK205.out) hb); have n2_ := Aside0.mk (blk_below (g := gb206) (o := .cells #[.int .i64 t200, .int .i64 t201, .int .i64 t202, .int .i64 t203] 26 (0, 0)) (by (with_reducible repeat (first | refine blk_drewN ?_ _ | refine blk_drew ?_ | refine blk_alloc ?_ _)); exact BK206.out) hb); have n3_ := Aside0.mk (below_step (by repeat (first | (with_reducible first | exact HB.out | apply below_alloc | apply pw_below_drewN | apply below_drew1 | refine below_set ?_ (IsS46.ge HI194.out) | refine below_set ?_ GE205.out | refine below_set ?_ GE206.out) | exact HB.out)) hb); clear HI194; clear BK205; clear BK206; clear HB; have HI194 := n0_; have BK205 := n1_; have BK206 := n2_; have HB := n3_; clear n0_ n1_ n2_ n3_; (try clear hb); (try clear hb2); (try clear hk); (try clear hi)))
      go_meet
      case rel => exact ⟨_, (!t208), (by first | rfl | (simp; done) | (simp [*]; done)), H', ⟨by first | omega | exact Nat.le_refl _⟩, ⟨by (with_reducible repeat (first | refine blk_drewN ?_ _ | refine blk_drew ?_ | refine blk_alloc ?_ _)); exact BK205.out⟩, ⟨by (with_reducible repeat (first | refine blk_drewN ?_ _ | refine blk_drew ?_ | refine blk_alloc ?_ _)); exact BK206.out⟩, ⟨by repeat (first | (with_reducible first | exact HB.out | apply below_alloc | apply pw_below_drewN | apply below_drew1 | refine below_set ?_ (IsS46.ge HI194.out) | refine below_set ?_ GE205.out | refine below_set ?_ GE206.out) | exact HB.out)⟩⟩
    · replace c19 := Bool.eq_false_iff.mpr c19
      subst c19
      have H1 : (tilefarmlaw2_RectPoints.j0 k a1 a2 true t195 t196 t197 t198 t200 t201 t202 t203) = some r := by rw [if_neg (show ¬ (false = true) by decide)] at H; exact H
      clear H
      have H := H1
      clear H1
      have H' := Aside0.mk H
      clear H
      have hnb28 := NB205_206.out
      have hnc28 := NB206_205.out
      have hnb29 := NB205_194.out
      have hnc29 := NB194_205.out
      have hcz30_0 : w12.cell? ⟨gb205, 0, none⟩ = some (.int .i64 0) := (blk_cell BK205.out 0).trans rfl
      have hcz30_1 : w12.cell? ⟨gb205, 1, none⟩ = some (.int .i64 0) := (blk_cell BK205.out 1).trans rfl
      have hcz30_2 : w12.cell? ⟨gb205, 2, none⟩ = some (.int .i64 0) := (blk_cell BK205.out 2).trans rfl
      have hcz30_3 : w12.cell? ⟨gb205, 3, none⟩ = some (.int .i64 0) := (blk_cell BK205.out 3).trans rfl
      have hfz30_0 := blk_frozen BK205.out 0
      have hfz30_1 := blk_frozen BK205.out 1
      have hfz30_2 := blk_frozen BK205.out 2
      have hfz30_3 := blk_frozen BK205.out 3
      go_wp2_with (first | ((with_reducible refine gate_callee (f := 9) rfl ?_); refine goesL_ (some 25) rfl rfl Try.func9 (by kernel_rfl) rfl #[.agg #[.int .i64 t195, .int .i64 t196, .int .i64 t197, .int .i64 t198]] rfl (by (try simp only [List.map_toArray, List.map_cons, List.map_nil]); first | done | rfl | (simp only [List.length_drop, List.length_take]; rfl)) ?_; (with_reducible refine (tilefarmref2_Valid.calls t195 t196 t197 t198 false _ A18.out).mono ?_); rintro e w31 ⟨rfl, hb⟩; refine ⟨_, rfl, ?_⟩; have n0_ := Aside0.mk (IsS46.below (show IsS46 w ((((((((w12.setCell ⟨gb205, 0, none⟩ (.int .i64 t195)).setCell ⟨gb205, 1, none⟩ (.int .i64 t196)).setCell ⟨gb205, 2, none⟩ (.int .i64 t197)).setCell ⟨gb205, 3, none⟩ (.int .i64 t198)).setCell ⟨gb206, 0, none⟩ (.int .i64 t200)).setCell ⟨gb206, 1, none⟩ (.int .i64 t201)).setCell ⟨gb206, 2, none⟩ (.int .i64 t202)).setCell ⟨gb206, 3, none⟩ (.int .i64 t203)) g194 t192 t204 from by repeat (first | (with_reducible first | exact HI194.out | apply IsS46.alloc | apply IsS46.drewN | apply IsS46.drew | apply IsS46.set_1 | refine IsS46.far ?_ NB194_205.out _ | refine IsS46.far ?_ NB194_206.out _) | exact HI194.out)) hb); have n1_ := Aside0.mk (blk_below (g := gb205) (o := .cells #[.int .i64 t195, .int .i64 t196, .int .i64 t197, .int .i64 t198] 26 (0, 0)) (by (with_reducible repeat (first | refine blk_drewN ?_ _ | refine blk_drew ?_ | refine blk_alloc ?_ _)); refine blk_far ?_ NB205_206.out _; (with_reducible repeat (first | refine blk_drewN ?_ _ | refine blk_drew ?_ | refine blk_alloc ?_ _)); refine blk_far ?_ NB205_206.out _; (with_reducible repeat (first | refine blk_drewN ?_ _ | refine blk_drew ?_ | refine blk_alloc ?_ _)); refine blk_far ?_ NB205_206.out _; (with_reducible repeat (first | refine blk_drewN ?_ _ | refine blk_drew ?_ | refine blk_alloc ?_ _)); refine blk_far ?_ NB205_206.out _; (with_reducible repeat (first | refine blk_drewN ?_ _ | refine blk_drew ?_ | refine blk_alloc ?_ _)); refine blk_put (cs := #[.int .i64 t195, .int .i64 t196, .int .i64 t197, .int .i64 0]) ?_ 3 _ rfl; (with_reducible repeat (first | refine blk_drewN ?_ _ | refine blk_drew ?_ | refine blk_alloc ?_ _)); refine blk_put (cs := #[.int .i64 t195, .int .i64 t196, .int .i64 0, .int .i64 0]) ?_ 2 _ rfl; (with_reducible repeat (first | refine blk_drewN ?_ _ | refine blk_drew ?_ | refine blk_alloc ?_ _)); refine blk_put (cs := #[.int .i64 t195, .int .i64 0, .int .i64 0, .int .i64 0]) ?_ 1 _ rfl; (with_reducible repeat (first | refine blk_drewN ?_ _ | refine blk_drew ?_ | refine blk_alloc ?_ _)); refine blk_put (cs := #[.int .i64 0, .int .i64 0, .int .i64 0, .int .i64 0]) ?_ 0 _ rfl; (with_reducible repeat (first | refine blk_drewN ?_ _ | refine blk_drew ?_ | refine blk_alloc ?_ _)); exact BK205.out) hb); have n2_ := Aside0.mk (blk_below (g := gb206) (o := .cells #[.int .i64 t200, .int .i64 t201, .int .i64 t202, .int .i64 t203] 26 (0, 0)) (by (with_reducible repeat (first | refine blk_drewN ?_ _ | refine blk_drew ?_ | refine blk_alloc ?_ _)); refine blk_put (cs := #[.int .i64 t200, .int .i64 t201, .int .i64 t202, .int .i64 0]) ?_ 3 _ rfl; (with_reducible repeat (first | refine blk_drewN ?_ _ | refine blk_drew ?_ | refine blk_alloc ?_ _)); refine blk_put (cs := #[.int .i64 t200, .int .i64 t201, .int .i64 0, .int .i64 0]) ?_ 2 _ rfl; (with_reducible repeat (first | refine blk_drewN ?_ _ | refine blk_drew ?_ | refine blk_alloc ?_ _)); refine blk_put (cs := #[.int .i64 t200, .int .i64 0, .int .i64 0, .int .i64 0]) ?_ 1 _ rfl; (with_reducible repeat (first | refine blk_drewN ?_ _ | refine blk_drew ?_ | refine blk_alloc ?_ _)); refine blk_put (cs := #[.int .i64 0, .int .i64 0, .int .i64 0, .int .i64 0]) ?_ 0 _ rfl; (with_reducible repeat (first | refine blk_drewN ?_ _ | refine blk_drew ?_ | refine blk_alloc ?_ _)); refine blk_far ?_ NB206_205.out _; (with_reducible repeat (first | refine blk_drewN ?_ _ | refine blk_drew ?_ | refine blk_alloc ?_ _)); refine blk_far ?_ NB206_205.out _; (with_reducible repeat (first | refine blk_drewN ?_ _ | refine blk_drew ?_ | refine blk_alloc ?_ _)); refine blk_far ?_ NB206_205.out _; (with_reducible repeat (first | refine blk_drewN ?_ _ | refine blk_drew ?_ | refine blk_alloc ?_ _)); refine blk_far ?_ NB206_205.out _; (with_reducible repeat (first | refine blk_drewN ?_ _ | refine blk_drew ?_ | refine blk_alloc ?_ _)); exact BK206.out) hb); have n3_ := Aside0.mk (below_step (by repeat (first | (with_reducible first | exact HB.out | apply below_alloc | apply pw_below_drewN | apply below_drew1 | refine below_set ?_ (IsS46.ge HI194.out) | refine below_set ?_ GE205.out | refine below_set ?_ GE206.out) | exact HB.out)) hb); clear HI194; clear BK205; clear BK206; clear HB; have HI194 := n0_; have BK205 := n1_; have BK206 := n2_; have HB := n3_; clear n0_ n1_ n2_ n3_; (try clear hb); (try clear hb2); (try clear hk); (try clear hi)))
      go_meet
      case rel => exact ⟨_, (true), (by first | rfl | (simp; done) | (simp [*]; done)), H', ⟨by first | omega | exact Nat.le_refl _⟩, ⟨by (with_reducible repeat (first | refine blk_drewN ?_ _ | refine blk_drew ?_ | refine blk_alloc ?_ _)); exact BK205.out⟩, ⟨by (with_reducible repeat (first | refine blk_drewN ?_ _ | refine blk_drew ?_ | refine blk_alloc ?_ _)); exact BK206.out⟩, ⟨by repeat (first | (with_reducible first | exact HB.out | apply below_alloc | apply pw_below_drewN | apply below_drew1 | refine below_set ?_ (IsS46.ge HI194.out) | refine below_set ?_ GE205.out | refine below_set ?_ GE206.out) | exact HB.out)⟩⟩
  case rest =>
    clear HC7
    try clear c1
    try clear c2
    try clear p2
    try clear c4
    try clear c7
    try clear c8
    try clear c9
    try clear c13
    try clear c14
    try clear c16
    try clear c19
    try clear c21
    try clear c22
    try clear c25
    try clear c28
    try clear c29
    try clear hcz15_0
    try clear hcz15_1
    try clear hcz15_2
    try clear hcz15_3
    try clear hcz17_0
    try clear hcz17_1
    try clear hcz17_2
    try clear hcz17_3
    try clear hcz23_0
    try clear hcz23_1
    try clear hcz23_2
    try clear hcz23_3
    try clear hcz26_0
    try clear hcz26_1
    try clear hcz26_2
    try clear hcz26_3
    try clear hcz30_0
    try clear hcz30_1
    try clear hcz30_2
    try clear hcz30_3
    try clear hfz15_0
    try clear hfz15_1
    try clear hfz15_2
    try clear hfz15_3
    try clear hfz17_0
    try clear hfz17_1
    try clear hfz17_2
    try clear hfz17_3
    try clear hfz23_0
    try clear hfz23_1
    try clear hfz23_2
    try clear hfz23_3
    try clear hfz26_0
    try clear hfz26_1
    try clear hfz26_2
    try clear hfz26_3
    try clear hfz30_0
    try clear hfz30_1
    try clear hfz30_2
    try clear hfz30_3
    obtain ⟨kq, x31_6, rfl, HA, HJ6, BK205, BK206, HB⟩ := hcut
    cases kq with
    | zero => exact absurd HA.out (by simp [tilefarmlaw2_RectPoints.j0])
    | succ kj6 =>
      have H := HA.out
      clear HA
      simp only [tilefarmlaw2_RectPoints.j0] at H
      by_cases c32 : x31_6 = true
      · subst c32
        have H1 : ((tilefarmlaw2_sane.f kj6).bind fun t209 => (some t209)) = some r := by rw [if_pos rfl] at H; exact H
        clear H
        have H := H1
        clear H1
        replace H := Option.bind_eq_some_iff.mp H
        obtain ⟨t209, A330, H⟩ := H
        replace H : (some t209) = some r := H
        have A33 := Aside0.mk A330
        clear A330
        obtain rfl := Option.some.inj H
        go_wp2_with (first | ((with_reducible refine gate_callee (f := 10) rfl ?_); refine goesL_ (some 32) rfl rfl Try.func10 (by kernel_rfl) rfl #[] rfl (by (try simp only [List.map_toArray, List.map_cons, List.map_nil]); first | done | rfl | (simp only [List.length_drop, List.length_take]; rfl)) ?_; (with_reducible refine (tilefarmlaw2_sane.calls kj6  t209 _ A33.out).mono ?_); rintro e w34 ⟨rfl, hb⟩; refine ⟨_, rfl, ?_⟩; have n0_ := Aside0.mk (blk_below (g := gb205) (o := .cells #[.int .i64 t195, .int .i64 t196, .int .i64 t197, .int .i64 t198] 26 (0, 0)) (by (with_reducible repeat (first | refine blk_drewN ?_ _ | refine blk_drew ?_ | refine blk_alloc ?_ _)); exact BK205.out) hb); have n1_ := Aside0.mk (blk_below (g := gb206) (o := .cells #[.int .i64 t200, .int .i64 t201, .int .i64 t202, .int .i64 t203] 26 (0, 0)) (by (with_reducible repeat (first | refine blk_drewN ?_ _ | refine blk_drew ?_ | refine blk_alloc ?_ _)); exact BK206.out) hb); have n2_ := Aside0.mk (below_step (by repeat (first | (with_reducible first | exact HB.out | apply below_alloc | apply pw_below_drewN | apply below_drew1 | refine below_set ?_ GE205.out | refine below_set ?_ GE206.out) | exact HB.out)) hb); clear BK205; clear BK206; clear HB; have BK205 := n0_; have BK206 := n1_; have HB := n2_; clear n0_ n1_ n2_; (try clear hb); (try clear hb2); (try clear hk); (try clear hi)))
        go_ret
        exact ⟨by first | rfl | (simp [errW_none, errW_some] <;> rfl) | (simp [*, errW_none, errW_some] <;> rfl), by repeat (first | (with_reducible first | exact HB.out | apply below_alloc | apply pw_below_drewN | apply below_drew1 | refine below_set ?_ GE205.out | refine below_set ?_ GE206.out) | exact HB.out)⟩
      · replace c32 := Bool.eq_false_iff.mpr c32
        subst c32
        have H1 : ((tilefarmgen_Mod.f a1 14).bind fun t210 => ((tilefarmgen_Mod.f a2 14).bind fun t211 => ((rect_Contains.f t195 t196 t197 t198 (wrap64 (t210 - 4)) (wrap64 (t211 - 4))).bind fun t212 => ((rect_Contains.f t200 t201 t202 t203 (wrap64 (t210 - 4)) (wrap64 (t211 - 4))).bind fun t213 => ((rect_Subtract.f kj6 t195 t196 t197 t198 t200 t201 t202 t203).bind fun t214 => (tilefarmlaw2_RectPoints.l0 kj6 (wrap64 (t210 - 4)) (wrap64 (t211 - 4)) t212 t213 t214 0 0 t195 t196 t197 t198 t200 t201 t202 t203)))))) = some r := by rw [if_neg (show ¬ (false = true) by decide)] at H; exact H
        clear H
        have H := H1
        clear H1
        replace H := Option.bind_eq_some_iff.mp H
        obtain ⟨t210, A350, H⟩ := H
        replace H : ((tilefarmgen_Mod.f a2 14).bind fun t211 => ((rect_Contains.f t195 t196 t197 t198 (wrap64 (t210 - 4)) (wrap64 (t211 - 4))).bind fun t212 => ((rect_Contains.f t200 t201 t202 t203 (wrap64 (t210 - 4)) (wrap64 (t211 - 4))).bind fun t213 => ((rect_Subtract.f kj6 t195 t196 t197 t198 t200 t201 t202 t203).bind fun t214 => (tilefarmlaw2_RectPoints.l0 kj6 (wrap64 (t210 - 4)) (wrap64 (t211 - 4)) t212 t213 t214 0 0 t195 t196 t197 t198 t200 t201 t202 t203))))) = some r := H
        have A35 := Aside0.mk A350
        clear A350
        replace H := Option.bind_eq_some_iff.mp H
        obtain ⟨t211, A360, H⟩ := H
        replace H : ((rect_Contains.f t195 t196 t197 t198 (wrap64 (t210 - 4)) (wrap64 (t211 - 4))).bind fun t212 => ((rect_Contains.f t200 t201 t202 t203 (wrap64 (t210 - 4)) (wrap64 (t211 - 4))).bind fun t213 => ((rect_Subtract.f kj6 t195 t196 t197 t198 t200 t201 t202 t203).bind fun t214 => (tilefarmlaw2_RectPoints.l0 kj6 (wrap64 (t210 - 4)) (wrap64 (t211 - 4)) t212 t213 t214 0 0 t195 t196 t197 t198 t200 t201 t202 t203)))) = some r := H
        have A36 := Aside0.mk A360
        clear A360
        replace H := Option.bind_eq_some_iff.mp H
        obtain ⟨t212, A370, H⟩ := H
        replace H : ((rect_Contains.f t200 t201 t202 t203 (wrap64 (t210 - 4)) (wrap64 (t211 - 4))).bind fun t213 => ((rect_Subtract.f kj6 t195 t196 t197 t198 t200 t201 t202 t203).bind fun t214 => (tilefarmlaw2_RectPoints.l0 kj6 (wrap64 (t210 - 4)) (wrap64 (t211 - 4)) t212 t213 t214 0 0 t195 t196 t197 t198 t200 t201 t202 t203))) = some r := H
        have A37 := Aside0.mk A370
        clear A370
        replace H := Option.bind_eq_some_iff.mp H
        obtain ⟨t213, A380, H⟩ := H
        replace H : ((rect_Subtract.f kj6 t195 t196 t197 t198 t200 t201 t202 t203).bind fun t214 => (tilefarmlaw2_RectPoints.l0 kj6 (wrap64 (t210 - 4)) (wrap64 (t211 - 4)) t212 t213 t214 0 0 t195 t196 t197 t198 t200 t201 t202 t203)) = some r := H
        have A38 := Aside0.mk A380
        clear A380
        replace H := Option.bind_eq_some_iff.mp H
        obtain ⟨t214, A390, H⟩ := H
        replace H : (tilefarmlaw2_RectPoints.l0 kj6 (wrap64 (t210 - 4)) (wrap64 (t211 - 4)) t212 t213 t214 0 0 t195 t196 t197 t198 t200 t201 t202 t203) = some r := H
        have A39 := Aside0.mk A390
        clear A390
        have H' := Aside0.mk H
        clear H
        try go_wp2_with (first | ((with_reducible refine gate_callee (f := 15) rfl ?_); refine goesL_ (some 34) rfl rfl Try.func15 (by kernel_rfl) rfl #[.int .i64 a1, .int .i64 14] rfl (by (try simp only [List.map_toArray, List.map_cons, List.map_nil]); first | done | rfl | (simp only [List.length_drop, List.length_take]; rfl)) ?_; (with_reducible refine (tilefarmgen_Mod.calls a1 14 t210 _ A35.out).mono ?_); rintro e w' ⟨rfl, ⟨nd, rfl⟩⟩; refine ⟨_, rfl, ?_⟩) | ((with_reducible refine gate_callee (f := 15) rfl ?_); refine goesL_ (some 37) rfl rfl Try.func15 (by kernel_rfl) rfl #[.int .i64 a2, .int .i64 14] rfl (by (try simp only [List.map_toArray, List.map_cons, List.map_nil]); first | done | rfl | (simp only [List.length_drop, List.length_take]; rfl)) ?_; (with_reducible refine (tilefarmgen_Mod.calls a2 14 t211 _ A36.out).mono ?_); rintro e w' ⟨rfl, ⟨nd, rfl⟩⟩; refine ⟨_, rfl, ?_⟩))
        (try (rw [drewN_self wc]; generalize hq_ : World.drewN wc _ = wc; have n0_ : Aside0 (wc.heap[gb205]? = some (.cells #[.int .i64 t195, .int .i64 t196, .int .i64 t197, .int .i64 t198] 26 (0, 0))) := ⟨by rw [← hq_]; exact (by (with_reducible repeat (first | refine blk_drewN ?_ _ | refine blk_drew ?_ | refine blk_alloc ?_ _)); exact BK205.out)⟩; have n1_ : Aside0 (wc.heap[gb206]? = some (.cells #[.int .i64 t200, .int .i64 t201, .int .i64 t202, .int .i64 t203] 26 (0, 0))) := ⟨by rw [← hq_]; exact (by (with_reducible repeat (first | refine blk_drewN ?_ _ | refine blk_drew ?_ | refine blk_alloc ?_ _)); exact BK206.out)⟩; have n2_ : Aside0 (Below w.heap.size w wc) := ⟨by rw [← hq_]; exact (by repeat (first | (with_reducible first | exact HB.out | apply below_alloc | apply pw_below_drewN | apply below_drew1 | refine below_set ?_ GE205.out | refine below_set ?_ GE206.out) | exact HB.out))⟩; clear BK205 BK206 HB hq_; have BK205 := n0_; have BK206 := n1_; have HB := n2_; clear n0_ n1_ n2_))
        have n0_ := Aside0.mk (blk_drew BK205.out)
        have n1_ := Aside0.mk (blk_drew BK206.out)
        have n2_ := Aside0.mk (below_drew1 HB.out)
        clear BK205
        clear BK206
        clear HB
        have BK205 := n0_
        have BK206 := n1_
        have HB := n2_
        clear n0_ n1_ n2_
        refine start_ (n := 10) (S := fun w' => w'.cell? ⟨gb205, 0, none⟩ = some (.int .i64 t195) ∧ w'.cell? ⟨gb205, 1, none⟩ = some (.int .i64 t196) ∧ w'.cell? ⟨gb205, 2, none⟩ = some (.int .i64 t197) ∧ w'.cell? ⟨gb205, 3, none⟩ = some (.int .i64 t198) ∧ w'.cell? ⟨gb206, 0, none⟩ = some (.int .i64 t200) ∧ w'.cell? ⟨gb206, 1, none⟩ = some (.int .i64 t201) ∧ w'.cell? ⟨gb206, 2, none⟩ = some (.int .i64 t202) ∧ w'.cell? ⟨gb206, 3, none⟩ = some (.int .i64 t203)) (ds := []) #[false, false, false, false, false, false, false, false, false, false] (by kernel_rfl) rfl rfl ⟨(blk_cell BK205.out 0).trans rfl, (blk_cell BK205.out 1).trans rfl, (blk_cell BK205.out 2).trans rfl, (blk_cell BK205.out 3).trans rfl, (blk_cell BK206.out 0).trans rfl, (blk_cell BK206.out 1).trans rfl, (blk_cell BK206.out 2).trans rfl, (blk_cell BK206.out 3).trans rfl⟩ (fun hHeld => ?_); refine with_tabW tilefarmlaw2_RectPoints.tab6 tilefarmlaw2_RectPoints.bits6 (fun HT_ HW_ => ?_)
        generalize wc.drew = w40 at BK205 BK206 HB hHeld ⊢
        refine pure_ (i := 1) (N := some 40) (v := ?_) (a' := ?_) #[false, true, false, false, false, false, false, false, false, false] rfl rfl (any_of HT_.out (by kernel_rfl)) (fun _ _ _ h => h) (Or.inl ⟨by rfl, ?_⟩) ?_ ?_
        rotate_left
        · intro w'
          go_simp
          with_reducible rfl
        rotate_left
        · simp only [Act.put, List.setIfInBounds_toArray, List.set_cons_zero, List.set_cons_succ, i64_w, i32_w]
          rfl
        refine pure_ (i := 2) (N := some 41) (v := ?_) (a' := ?_) #[false, true, true, false, false, false, false, false, false, false] rfl rfl (any_of HT_.out (by kernel_rfl)) (fun _ _ _ h => h) (Or.inl ⟨by rfl, ?_⟩) ?_ ?_
        rotate_left
        · intro w'
          go_simp
          with_reducible rfl
        rotate_left
        · simp only [Act.put, List.setIfInBounds_toArray, List.set_cons_zero, List.set_cons_succ, i64_w, i32_w]
          rfl
        refine pure_ (i := 5) (N := some 44) (v := ?_) (a' := ?_) #[false, true, true, false, false, true, false, false, false, false] rfl rfl (any_of HT_.out (by kernel_rfl)) (fun _ _ _ h => h) (Or.inl ⟨by rfl, ?_⟩) ?_ ?_
        rotate_left
        · intro w'
          go_simp
          with_reducible rfl
        rotate_left
        · simp only [Act.put, List.setIfInBounds_toArray, List.set_cons_zero, List.set_cons_succ, i64_w, i32_w]
          rfl
        refine pure_ (i := 6) (N := some 45) (v := ?_) (a' := ?_) #[false, true, true, false, false, true, true, false, false, false] rfl rfl (any_of HT_.out (by kernel_rfl)) (fun _ _ _ h => h) (Or.inl ⟨by rfl, ?_⟩) ?_ ?_
        rotate_left
        · intro w'
          go_simp
          with_reducible rfl
        rotate_left
        · simp only [Act.put, List.setIfInBounds_toArray, List.set_cons_zero, List.set_cons_succ, i64_w, i32_w]
          rfl
        refine take_ (i := 0) (N := some 39) (v := ?_) (a' := ?_) #[true, true, true, false, false, true, true, false, false, false] rfl rfl (take_ofW HT_.out HW_.out (by kernel_rfl)) (fun _ _ _ h => h) (Or.inl ⟨by rfl, ?_⟩) hHeld ?_ ?_
        rotate_left
        · rintro w' ⟨s0, s1, s2, s3, s4, s5, s6, s7⟩
          go_simp
          with_reducible rfl
        rotate_left
        · simp only [Act.put, List.setIfInBounds_toArray, List.set_cons_zero, List.set_cons_succ, i64_w, i32_w]
          rfl
        refine take_ (i := 4) (N := some 43) (v := ?_) (a' := ?_) #[true, true, true, false, true, true, true, false, false, false] rfl rfl (take_ofW HT_.out HW_.out (by kernel_rfl)) (fun _ _ _ h => h) (Or.inl ⟨by rfl, ?_⟩) hHeld ?_ ?_
        rotate_left
        · rintro w' ⟨s0, s1, s2, s3, s4, s5, s6, s7⟩
          go_simp
          with_reducible rfl
        rotate_left
        · simp only [Act.put, List.setIfInBounds_toArray, List.set_cons_zero, List.set_cons_succ, i64_w, i32_w]
          rfl
        refine one_ (i := 3) (N := some 42) #[true, true, true, true, true, true, true, false, false, false] rfl rfl (one_of HT_.out (by kernel_rfl)) (by decide) (fun K hK => ?_)
        refine goes_ Try.func16 (by kernel_rfl) rfl #[.agg #[.int .i64 t195, .int .i64 t196, .int .i64 t197, .int .i64 t198], .int .i64 (wrap64 (t210 - 4)), .int .i64 (wrap64 (t211 - 4))] (by rfl) rfl rfl (by (try simp only [List.map_toArray, List.map_cons, List.map_nil]); first | done | rfl | (simp only [List.length_drop, List.length_take]; rfl)) ?_
        with_reducible refine (rect_Contains.calls t195 t196 t197 t198 (wrap64 (t210 - 4)) (wrap64 (t211 - 4)) t212 _ A37.out).mono ?_
        rintro e w41 ⟨rfl, hb⟩
        refine ⟨_, rfl, ?_⟩
        have n0_ := Aside0.mk (blk_below (g := gb205) (o := .cells #[.int .i64 t195, .int .i64 t196, .int .i64 t197, .int .i64 t198] 26 (0, 0)) (by (with_reducible repeat (first | refine blk_drewN ?_ _ | refine blk_drew ?_ | refine blk_alloc ?_ _)); exact BK205.out) hb)
        have n1_ := Aside0.mk (blk_below (g := gb206) (o := .cells #[.int .i64 t200, .int .i64 t201, .int .i64 t202, .int .i64 t203] 26 (0, 0)) (by (with_reducible repeat (first | refine blk_drewN ?_ _ | refine blk_drew ?_ | refine blk_alloc ?_ _)); exact BK206.out) hb)
        have n2_ := Aside0.mk (below_step (by repeat (first | (with_reducible first | exact HB.out | apply below_alloc | apply pw_below_drewN | apply below_drew1 | refine below_set ?_ GE205.out | refine below_set ?_ GE206.out) | exact HB.out)) hb)
        clear BK205
        clear BK206
        clear HB
        have BK205 := n0_
        have BK206 := n1_
        have HB := n2_
        clear n0_ n1_ n2_
        (try clear hb)
        (try clear hb2)
        (try clear hk)
        (try clear hi)
        refine hK.out _ _ ⟨(blk_cell BK205.out 0).trans rfl, (blk_cell BK205.out 1).trans rfl, (blk_cell BK205.out 2).trans rfl, (blk_cell BK205.out 3).trans rfl, (blk_cell BK206.out 0).trans rfl, (blk_cell BK206.out 1).trans rfl, (blk_cell BK206.out 2).trans rfl, (blk_cell BK206.out 3).trans rfl⟩ (fun hHeld => ?_)
        clear hK K
        refine norm_ (a' := ?_) ?_ ?_
        rotate_left
        · show Act.put _ (some 42) _ = _
          simp only [Act.put, List.setIfInBounds_toArray, List.set_cons_zero, List.set_cons_succ, i64_w, i32_w]
          rfl
        refine one_ (i := 7) (N := some 46) #[true, true, true, true, true, true, true, true, false, false] rfl rfl (one_of HT_.out (by kernel_rfl)) (by decide) (fun K hK => ?_)
        refine goes_ Try.func16 (by kernel_rfl) rfl #[.agg #[.int .i64 t200, .int .i64 t201, .int .i64 t202, .int .i64 t203], .int .i64 (wrap64 (t210 - 4)), .int .i64 (wrap64 (t211 - 4))] (by rfl) rfl rfl (by (try simp only [List.map_toArray, List.map_cons, List.map_nil]); first | done | rfl | (simp only [List.length_drop, List.length_take]; rfl)) ?_
        with_reducible refine (rect_Contains.calls t200 t201 t202 t203 (wrap64 (t210 - 4)) (wrap64 (t211 - 4)) t213 _ A38.out).mono ?_
        rintro e w42 ⟨rfl, hb⟩
        refine ⟨_, rfl, ?_⟩
        have n0_ := Aside0.mk (blk_below (g := gb205) (o := .cells #[.int .i64 t195, .int .i64 t196, .int .i64 t197, .int .i64 t198] 26 (0, 0)) (by (with_reducible repeat (first | refine blk_drewN ?_ _ | refine blk_drew ?_ | refine blk_alloc ?_ _)); exact BK205.out) hb)
        have n1_ := Aside0.mk (blk_below (g := gb206) (o := .cells #[.int .i64 t200, .int .i64 t201, .int .i64 t202, .int .i64 t203] 26 (0, 0)) (by (with_reducible repeat (first | refine blk_drewN ?_ _ | refine blk_drew ?_ | refine blk_alloc ?_ _)); exact BK206.out) hb)
        have n2_ := Aside0.mk (below_step (by repeat (first | (with_reducible first | exact HB.out | apply below_alloc | apply pw_below_drewN | apply below_drew1 | refine below_set ?_ GE205.out | refine below_set ?_ GE206.out) | exact HB.out)) hb)
        clear BK205
        clear BK206
        clear HB
        have BK205 := n0_
        have BK206 := n1_
        have HB := n2_
        clear n0_ n1_ n2_
        (try clear hb)
        (try clear hb2)
        (try clear hk)
        (try clear hi)
        refine hK.out _ _ ⟨(blk_cell BK205.out 0).trans rfl, (blk_cell BK205.out 1).trans rfl, (blk_cell BK205.out 2).trans rfl, (blk_cell BK205.out 3).trans rfl, (blk_cell BK206.out 0).trans rfl, (blk_cell BK206.out 1).trans rfl, (blk_cell BK206.out 2).trans rfl, (blk_cell BK206.out 3).trans rfl⟩ (fun hHeld => ?_)
        clear hK K
        refine norm_ (a' := ?_) ?_ ?_
        rotate_left
        · show Act.put _ (some 46) _ = _
          simp only [Act.put, List.setIfInBounds_toArray, List.set_cons_zero, List.set_cons_succ, i64_w, i32_w]
          rfl
        refine pure_ (i := 8) (N := some 12) (v := ?_) (a' := ?_) #[true, true, true, true, true, true, true, true, true, false] rfl rfl (any_of HT_.out (by kernel_rfl)) (fun _ _ _ h => h) (Or.inl ⟨by rfl, ?_⟩) ?_ ?_
        rotate_left
        · intro w'
          go_simp
          with_reducible rfl
        rotate_left
        · simp only [Act.put, List.setIfInBounds_toArray, List.set_cons_zero, List.set_cons_succ, i64_w, i32_w]
          rfl
        refine pure_ (i := 9) (N := some 13) (v := ?_) (a' := ?_) #[true, true, true, true, true, true, true, true, true, true] rfl rfl (any_of HT_.out (by kernel_rfl)) (fun _ _ _ h => h) (Or.inl ⟨by rfl, ?_⟩) ?_ ?_
        rotate_left
        · intro w'
          go_simp
          with_reducible rfl
        rotate_left
        · simp only [Act.put, List.setIfInBounds_toArray, List.set_cons_zero, List.set_cons_succ, i64_w, i32_w]
          rfl
        refine done_ (done_of HT_.out (by kernel_rfl)) ?_
        have hnb43 := NB205_206.out
        have hnc43 := NB206_205.out
        have hcz44_0 : w42.cell? ⟨gb205, 0, none⟩ = some (.int .i64 t195) := (blk_cell BK205.out 0).trans rfl
        have hcz44_1 : w42.cell? ⟨gb205, 1, none⟩ = some (.int .i64 t196) := (blk_cell BK205.out 1).trans rfl
        have hcz44_2 : w42.cell? ⟨gb205, 2, none⟩ = some (.int .i64 t197) := (blk_cell BK205.out 2).trans rfl
        have hcz44_3 : w42.cell? ⟨gb205, 3, none⟩ = some (.int .i64 t198) := (blk_cell BK205.out 3).trans rfl
        have hfz44_0 := blk_frozen BK205.out 0
        have hfz44_1 := blk_frozen BK205.out 1
        have hfz44_2 := blk_frozen BK205.out 2
        have hfz44_3 := blk_frozen BK205.out 3
        have hcz45_0 : w42.cell? ⟨gb206, 0, none⟩ = some (.int .i64 t200) := (blk_cell BK206.out 0).trans rfl
        have hcz45_1 : w42.cell? ⟨gb206, 1, none⟩ = some (.int .i64 t201) := (blk_cell BK206.out 1).trans rfl
        have hcz45_2 : w42.cell? ⟨gb206, 2, none⟩ = some (.int .i64 t202) := (blk_cell BK206.out 2).trans rfl
        have hcz45_3 : w42.cell? ⟨gb206, 3, none⟩ = some (.int .i64 t203) := (blk_cell BK206.out 3).trans rfl
        have hfz45_0 := blk_frozen BK206.out 0
        have hfz45_1 := blk_frozen BK206.out 1
        have hfz45_2 := blk_frozen BK206.out 2
        have hfz45_3 := blk_frozen BK206.out 3
        try go_wp2_with (first | ((with_reducible refine gate_callee (f := 11) rfl ?_); refine goesL_ (some 49) rfl rfl Try.func11 (by kernel_rfl) rfl #[.agg #[.int .i64 t195, .int .i64 t196, .int .i64 t197, .int .i64 t198], .agg #[.int .i64 t200, .int .i64 t201, .int .i64 t202, .int .i64 t203]] rfl (by (try simp only [List.map_toArray, List.map_cons, List.map_nil]); first | done | rfl | (simp only [List.length_drop, List.length_take]; rfl)) ?_; (with_reducible refine (rect_Subtract.calls kj6 t195 t196 t197 t198 t200 t201 t202 t203 t214 _ A39.out).mono ?_); rintro e w46 ⟨v215, rfl, ho0, hb⟩; refine ⟨_, rfl, ?_⟩; have n0_ := Aside0.mk (Kd.R_lower (Kd.R_newB (Kd.R_newB ho0 (g := gb205) (o := .cells #[.int .i64 t195, .int .i64 t196, .int .i64 t197, .int .i64 t198] 26 (0, 0)) (by (with_reducible repeat (first | refine blk_drewN ?_ _ | refine blk_drew ?_ | refine blk_alloc ?_ _)); exact BK205.out)) (g := gb206) (o := .cells #[.int .i64 t200, .int .i64 t201, .int .i64 t202, .int .i64 t203] 26 (0, 0)) (by (with_reducible repeat (first | refine blk_drewN ?_ _ | refine blk_drew ?_ | refine blk_alloc ?_ _)); exact BK206.out)) (below_size (by repeat (first | (with_reducible first | exact HB.out | apply below_alloc | apply pw_below_drewN | apply below_drew1 | refine below_set ?_ GE205.out | refine below_set ?_ GE206.out) | exact HB.out)))); have n1_ := Aside0.mk (blk_below (g := gb205) (o := .cells #[.int .i64 t195, .int .i64 t196, .int .i64 t197, .int .i64 t198] 26 (0, 0)) (by (with_reducible repeat (first | refine blk_drewN ?_ _ | refine blk_drew ?_ | refine blk_alloc ?_ _)); exact BK205.out) hb); have n2_ := Aside0.mk (blk_below (g := gb206) (o := .cells #[.int .i64 t200, .int .i64 t201, .int .i64 t202, .int .i64 t203] 26 (0, 0)) (by (with_reducible repeat (first | refine blk_drewN ?_ _ | refine blk_drew ?_ | refine blk_alloc ?_ _)); exact BK206.out) hb); have n3_ := Aside0.mk (below_step (by repeat (first | (with_reducible first | exact HB.out | apply below_alloc | apply pw_below_drewN | apply below_drew1 | refine below_set ?_ GE205.out | refine below_set ?_ GE206.out) | exact HB.out)) hb); clear BK205; clear BK206; clear HB; have HO216 := n0_; have BK205 := n1_; have BK206 := n2_; have HB := n3_; clear n0_ n1_ n2_ n3_; (try clear hb); (try clear hb2); (try clear hk); (try clear hi); (try clear ho0)))
        go_loopg [15, 16] kj6 (fun kq v15 v16 w' => ∃ (x15_2 : Int) (x16_2 : Int), v15 = .int .i64 x15_2 ∧ v16 = .int .i64 x16_2 ∧ Aside0 (tilefarmlaw2_RectPoints.l0 kq (wrap64 (t210 - 4)) (wrap64 (t211 - 4)) t212 t213 t214 x15_2 x16_2 t195 t196 t197 t198 t200 t201 t202 t203 = some r) ∧ Aside0 (kq ≤ kj6) ∧ Aside0 (Kd.R k26 26 w' w.heap.size (fun k_ => k_ ≠ gb205 ∧ k_ ≠ gb206) v215 t214) ∧ Aside0 (w'.heap[gb205]? = some (.cells #[.int .i64 t195, .int .i64 t196, .int .i64 t197, .int .i64 t198] 26 (0, 0))) ∧ Aside0 (w'.heap[gb206]? = some (.cells #[.int .i64 t200, .int .i64 t201, .int .i64 t202, .int .i64 t203] 26 (0, 0))) ∧ Aside0 (Below w.heap.size w w'))
        case atStart => exact ⟨(0), (0), (by first | rfl | (simp; done) | (simp [*]; done)), (by first | rfl | (simp; done) | (simp [*]; done)), H', ⟨Nat.le_refl _⟩, ⟨by (with_reducible repeat (first | apply Kd.R_alloc | apply Kd.R_drewN | apply Kd.R_drew)); exact Kd.R_mono HO216.out (fun _ hk => ⟨hk.1.2, hk.2⟩)⟩, ⟨by (with_reducible repeat (first | refine blk_drewN ?_ _ | refine blk_drew ?_ | refine blk_alloc ?_ _)); exact BK205.out⟩, ⟨by (with_reducible repeat (first | refine blk_drewN ?_ _ | refine blk_drew ?_ | refine blk_alloc ?_ _)); exact BK206.out⟩, ⟨by repeat (first | (with_reducible first | exact HB.out | apply below_alloc | apply pw_below_drewN | apply below_drew1 | refine below_set ?_ GE205.out | refine below_set ?_ GE206.out) | exact HB.out)⟩⟩
        case round =>
          clear H'
          try clear c1
          try clear c2
          try clear p2
          try clear c3
          try clear c4
          try clear p6
          try clear c7
          try clear c8
          try clear c9
          try clear c10
          try clear c11
          try clear c13
          try clear c14
          try clear c15
          try clear c16
          try clear c19
          try clear c21
          try clear c22
          try clear c25
          try clear c28
          try clear c29
          try clear c32
          try clear c43
          try clear hcz15_0
          try clear hcz15_1
          try clear hcz15_2
          try clear hcz15_3
          try clear hcz17_0
          try clear hcz17_1
          try clear hcz17_2
          try clear hcz17_3
          try clear hcz23_0
          try clear hcz23_1
          try clear hcz23_2
          try clear hcz23_3
          try clear hcz26_0
          try clear hcz26_1
          try clear hcz26_2
          try clear hcz26_3
          try clear hcz30_0
          try clear hcz30_1
          try clear hcz30_2
          try clear hcz30_3
          try clear hcz44_0
          try clear hcz44_1
          try clear hcz44_2
          try clear hcz44_3
          try clear hcz45_0
          try clear hcz45_1
          try clear hcz45_2
          try clear hcz45_3
          try clear hfz15_0
          try clear hfz15_1
          try clear hfz15_2
          try clear hfz15_3
          try clear hfz17_0
          try clear hfz17_1
          try clear hfz17_2
          try clear hfz17_3
          try clear hfz23_0
          try clear hfz23_1
          try clear hfz23_2
          try clear hfz23_3
          try clear hfz26_0
          try clear hfz26_1
          try clear hfz26_2
          try clear hfz26_3
          try clear hfz30_0
          try clear hfz30_1
          try clear hfz30_2
          try clear hfz30_3
          try clear hfz44_0
          try clear hfz44_1
          try clear hfz44_2
          try clear hfz44_3
          try clear hfz45_0
          try clear hfz45_1
          try clear hfz45_2
          try clear hfz45_3
          try clear p2
          obtain ⟨x15_2, x16_2, rfl, rfl, HA, HK2, HO_14, BK205, BK206, HB⟩ := hrel
          cases gk with
          | zero => exact absurd HA.out (by simp [tilefarmlaw2_RectPoints.l0])
          | succ k2 =>
            have H := HA.out
            clear HA
            simp only [tilefarmlaw2_RectPoints.l0] at H
            by_cases c47 : x16_2 < (t214.length : Int)
            · rw [if_pos c47] at H
              have c47b0 : decide (x16_2 < (t214.length : Int)) = true := decide_eq_true c47
              clear c47
              by_cases c48 : 0 ≤ x16_2
              · rw [if_pos c48] at H
                have c48b0 : decide (0 ≤ x16_2) = true := decide_eq_true c48
                clear c48
                replace H := Option.bind_eq_some_iff.mp H
                obtain ⟨t218, A490, H⟩ := H
                replace H : (if t218 = true then (tilefarmlaw2_RectPoints.l0 k2 (wrap64 (t210 - 4)) (wrap64 (t211 - 4)) t212 t213 t214 (wrap64 (x15_2 + 1)) (wrap64 (x16_2 + 1)) t195 t196 t197 t198 t200 t201 t202 t203) else (tilefarmlaw2_RectPoints.l0 k2 (wrap64 (t210 - 4)) (wrap64 (t211 - 4)) t212 t213 t214 x15_2 (wrap64 (x16_2 + 1)) t195 t196 t197 t198 t200 t201 t202 t203)) = some r := H
                have A49 := Aside0.mk A490
                clear A490
                by_cases c50 : t218 = true
                · subst c50
                  have H1 : (tilefarmlaw2_RectPoints.l0 k2 (wrap64 (t210 - 4)) (wrap64 (t211 - 4)) t212 t213 t214 (wrap64 (x15_2 + 1)) (wrap64 (x16_2 + 1)) t195 t196 t197 t198 t200 t201 t202 t203) = some r := by rw [if_pos rfl] at H; exact H
                  clear H
                  have H := H1
                  clear H1
                  have H' := Aside0.mk H
                  clear H
                  obtain ⟨Ao51, co51, eo51⟩ := Kd.R_slice HO_14.out
                  subst eo51
                  have p217 : 0 ≤ (x16_2 : Int) := of_decide_eq_true (by first | (with_reducible assumption) | assumption)
                  have q217 : x16_2 < (t214.length : Int) := of_decide_eq_true (by first | (with_reducible assumption) | assumption)
                  obtain ⟨ad217, e217, hx217_0, hx217_1, hx217_2, hx217_3⟩ := at_T26 (Kd.R_reads' HO_14.out).2.2 x16_2 p217 q217
                  cases e217
                  replace p217 := eq_true p217
                  replace q217 := eq_true q217
                  go_wp2_with (first | ((with_reducible refine gate_callee (f := 16) rfl ?_); refine goesL_ (some 62) rfl rfl Try.func16 (by kernel_rfl) rfl #[.agg #[.int .i64 ((rd_T26 t214 x16_2).f0), .int .i64 ((rd_T26 t214 x16_2).f1), .int .i64 ((rd_T26 t214 x16_2).f2), .int .i64 ((rd_T26 t214 x16_2).f3)], .int .i64 (wrap64 (t210 - 4)), .int .i64 (wrap64 (t211 - 4))] rfl (by (try simp only [List.map_toArray, List.map_cons, List.map_nil]); first | done | rfl | (simp only [List.length_drop, List.length_take]; rfl)) ?_; (with_reducible refine (rect_Contains.calls ((rd_T26 t214 x16_2).f0) ((rd_T26 t214 x16_2).f1) ((rd_T26 t214 x16_2).f2) ((rd_T26 t214 x16_2).f3) (wrap64 (t210 - 4)) (wrap64 (t211 - 4)) true _ A49.out).mono ?_); rintro e w52 ⟨rfl, hb⟩; refine ⟨_, rfl, ?_⟩; have n0_ := Aside0.mk (Kd.R_below (by (with_reducible repeat (first | apply Kd.R_alloc | apply Kd.R_drewN | apply Kd.R_drew)); exact HO_14.out) hb); have n1_ := Aside0.mk (blk_below (g := gb205) (o := .cells #[.int .i64 t195, .int .i64 t196, .int .i64 t197, .int .i64 t198] 26 (0, 0)) (by (with_reducible repeat (first | refine blk_drewN ?_ _ | refine blk_drew ?_ | refine blk_alloc ?_ _)); exact BK205.out) hb); have n2_ := Aside0.mk (blk_below (g := gb206) (o := .cells #[.int .i64 t200, .int .i64 t201, .int .i64 t202, .int .i64 t203] 26 (0, 0)) (by (with_reducible repeat (first | refine blk_drewN ?_ _ | refine blk_drew ?_ | refine blk_alloc ?_ _)); exact BK206.out) hb); have n3_ := Aside0.mk (below_step (by repeat (first | (with_reducible first | exact HB.out | apply below_alloc | apply pw_below_drewN | apply below_drew1 | refine below_set ?_ GE205.out | refine below_set ?_ GE206.out) | exact HB.out)) hb); clear HO_14; clear BK205; clear BK206; clear HB; have HO_14 := n0_; have BK205 := n1_; have BK206 := n2_; have HB := n3_; clear n0_ n1_ n2_ n3_; (try clear hb); (try clear hb2); (try clear hk); (try clear hi)))
                  go_roundg k2
                  case measure => have := HJ6.out; have := HK2.out; omega
                  case rel => exact ⟨(wrap64 (x15_2 + 1)), (wrap64 (x16_2 + 1)), (by first | rfl | (simp; done) | (simp [*]; done)), (by first | rfl | (simp; done) | (simp [*]; done)), H', ⟨by have := HJ6.out; have := HK2.out; omega⟩, ⟨by (with_reducible repeat (first | apply Kd.R_alloc | apply Kd.R_drewN | apply Kd.R_drew)); exact HO_14.out⟩, ⟨by (with_reducible repeat (first | refine blk_drewN ?_ _ | refine blk_drew ?_ | refine blk_alloc ?_ _)); exact BK205.out⟩, ⟨by (with_reducible repeat (first | refine blk_drewN ?_ _ | refine blk_drew ?_ | refine blk_alloc ?_ _)); exact BK206.out⟩, ⟨by repeat (first | (with_reducible first | exact HB.out | apply below_alloc | apply pw_below_drewN | apply below_drew1 | refine below_set ?_ GE205.out | refine below_set ?_ GE206.out) | exact HB.out)⟩⟩
                · replace c50 := Bool.eq_false_iff.mpr c50
                  subst c50
                  have H1 : (tilefarmlaw2_RectPoints.l0 k2 (wrap64 (t210 - 4)) (wrap64 (t211 - 4)) t212 t213 t214 x15_2 (wrap64 (x16_2 + 1)) t195 t196 t197 t198 t200 t201 t202 t203) = some r := by rw [if_neg (show ¬ (false = true) by decide)] at H; exact H
                  clear H
                  have H := H1
                  clear H1
                  have H' := Aside0.mk H
                  clear H
                  obtain ⟨Ao53, co53, eo53⟩ := Kd.R_slice HO_14.out
                  subst eo53
                  have p217 : 0 ≤ (x16_2 : Int) := of_decide_eq_true (by first | (with_reducible assumption) | assumption)
                  have q217 : x16_2 < (t214.length : Int) := of_decide_eq_true (by first | (with_reducible assumption) | assumption)
                  obtain ⟨ad217, e217, hx217_0, hx217_1, hx217_2, hx217_3⟩ := at_T26 (Kd.R_reads' HO_14.out).2.2 x16_2 p217 q217
                  cases e217
                  replace p217 := eq_true p217
                  replace q217 := eq_true q217
                  go_wp2_with (first | ((with_reducible refine gate_callee (f := 16) rfl ?_); refine goesL_ (some 62) rfl rfl Try.func16 (by kernel_rfl) rfl #[.agg #[.int .i64 ((rd_T26 t214 x16_2).f0), .int .i64 ((rd_T26 t214 x16_2).f1), .int .i64 ((rd_T26 t214 x16_2).f2), .int .i64 ((rd_T26 t214 x16_2).f3)], .int .i64 (wrap64 (t210 - 4)), .int .i64 (wrap64 (t211 - 4))] rfl (by (try simp only [List.map_toArray, List.map_cons, List.map_nil]); first | done | rfl | (simp only [List.length_drop, List.length_take]; rfl)) ?_; (with_reducible refine (rect_Contains.calls ((rd_T26 t214 x16_2).f0) ((rd_T26 t214 x16_2).f1) ((rd_T26 t214 x16_2).f2) ((rd_T26 t214 x16_2).f3) (wrap64 (t210 - 4)) (wrap64 (t211 - 4)) false _ A49.out).mono ?_); rintro e w54 ⟨rfl, hb⟩; refine ⟨_, rfl, ?_⟩; have n0_ := Aside0.mk (Kd.R_below (by (with_reducible repeat (first | apply Kd.R_alloc | apply Kd.R_drewN | apply Kd.R_drew)); exact HO_14.out) hb); have n1_ := Aside0.mk (blk_below (g := gb205) (o := .cells #[.int .i64 t195, .int .i64 t196, .int .i64 t197, .int .i64 t198] 26 (0, 0)) (by (with_reducible repeat (first | refine blk_drewN ?_ _ | refine blk_drew ?_ | refine blk_alloc ?_ _)); exact BK205.out) hb); have n2_ := Aside0.mk (blk_below (g := gb206) (o := .cells #[.int .i64 t200, .int .i64 t201, .int .i64 t202, .int .i64 t203] 26 (0, 0)) (by (with_reducible repeat (first | refine blk_drewN ?_ _ | refine blk_drew ?_ | refine blk_alloc ?_ _)); exact BK206.out) hb); have n3_ := Aside0.mk (below_step (by repeat (first | (with_reducible first | exact HB.out | apply below_alloc | apply pw_below_drewN | apply below_drew1 | refine below_set ?_ GE205.out | refine below_set ?_ GE206.out) | exact HB.out)) hb); clear HO_14; clear BK205; clear BK206; clear HB; have HO_14 := n0_; have BK205 := n1_; have BK206 := n2_; have HB := n3_; clear n0_ n1_ n2_ n3_; (try clear hb); (try clear hb2); (try clear hk); (try clear hi)))
                  go_roundg k2
                  case measure => have := HJ6.out; have := HK2.out; omega
                  case rel => exact ⟨(x15_2), (wrap64 (x16_2 + 1)), (by first | rfl | (simp; done) | (simp [*]; done)), (by first | rfl | (simp; done) | (simp [*]; done)), H', ⟨by have := HJ6.out; have := HK2.out; omega⟩, ⟨by (with_reducible repeat (first | apply Kd.R_alloc | apply Kd.R_drewN | apply Kd.R_drew)); exact HO_14.out⟩, ⟨by (with_reducible repeat (first | refine blk_drewN ?_ _ | refine blk_drew ?_ | refine blk_alloc ?_ _)); exact BK205.out⟩, ⟨by (with_reducible repeat (first | refine blk_drewN ?_ _ | refine blk_drew ?_ | refine blk_alloc ?_ _)); exact BK206.out⟩, ⟨by repeat (first | (with_reducible first | exact HB.out | apply below_alloc | apply pw_below_drewN | apply below_drew1 | refine below_set ?_ GE205.out | refine below_set ?_ GE206.out) | exact HB.out)⟩⟩
              · rw [if_neg c48] at H
                exact absurd H (by simp)
            · rw [if_neg c47] at H
              have c47b0 : decide (x16_2 < (t214.length : Int)) = false := decide_eq_false c47
              clear c47
              have HC55 := Aside0.mk H
              clear H
              obtain ⟨Ao56, co56, eo56⟩ := Kd.R_slice HO_14.out
              subst eo56
              go_upto_region 15 with (fail)
              go_cut [69] (fun v69 wc => ∃ (kq : Nat) (x69_54 : Bool), v69 = .bool x69_54 ∧ Aside0 (tilefarmlaw2_RectPoints.j2 kq (wrap64 (t210 - 4)) (wrap64 (t211 - 4)) t212 t213 x15_2 0 x69_54 t195 t196 t197 t198 t200 t201 t202 t203 = some r) ∧ Aside0 (kq ≤ k2) ∧ Aside0 (wc.heap[gb205]? = some (.cells #[.int .i64 t195, .int .i64 t196, .int .i64 t197, .int .i64 t198] 26 (0, 0))) ∧ Aside0 (wc.heap[gb206]? = some (.cells #[.int .i64 t200, .int .i64 t201, .int .i64 t202, .int .i64 t203] 26 (0, 0))) ∧ Aside0 (Below w.heap.size w wc))
              case first =>
                have H := HC55.out
                clear HC55
                by_cases c57 : t212 = true
                · subst c57
                  have H1 : (tilefarmlaw2_RectPoints.j2 k2 (wrap64 (t210 - 4)) (wrap64 (t211 - 4)) true t213 x15_2 0 (!t213) t195 t196 t197 t198 t200 t201 t202 t203) = some r := by rw [if_pos rfl] at H; exact H
                  clear H
                  have H := H1
                  clear H1
                  have H' := Aside0.mk H
                  clear H
                  go_wp2
                  go_meet
                  case rel => exact ⟨_, (!t213), (by first | rfl | (simp; done) | (simp [*]; done)), H', ⟨by have := HJ6.out; have := HK2.out; first | omega | exact Nat.le_refl _⟩, ⟨by (with_reducible repeat (first | refine blk_drewN ?_ _ | refine blk_drew ?_ | refine blk_alloc ?_ _)); exact BK205.out⟩, ⟨by (with_reducible repeat (first | refine blk_drewN ?_ _ | refine blk_drew ?_ | refine blk_alloc ?_ _)); exact BK206.out⟩, ⟨by repeat (first | (with_reducible first | exact HB.out | apply below_alloc | apply pw_below_drewN | apply below_drew1 | refine below_set ?_ GE205.out | refine below_set ?_ GE206.out) | exact HB.out)⟩⟩
                · replace c57 := Bool.eq_false_iff.mpr c57
                  subst c57
                  have H1 : (tilefarmlaw2_RectPoints.j2 k2 (wrap64 (t210 - 4)) (wrap64 (t211 - 4)) false t213 x15_2 0 false t195 t196 t197 t198 t200 t201 t202 t203) = some r := by rw [if_neg (show ¬ (false = true) by decide)] at H; exact H
                  clear H
                  have H := H1
                  clear H1
                  have H' := Aside0.mk H
                  clear H
                  go_wp2
                  go_meet
                  case rel => exact ⟨_, (false), (by first | rfl | (simp; done) | (simp [*]; done)), H', ⟨by have := HJ6.out; have := HK2.out; first | omega | exact Nat.le_refl _⟩, ⟨by (with_reducible repeat (first | refine blk_drewN ?_ _ | refine blk_drew ?_ | refine blk_alloc ?_ _)); exact BK205.out⟩, ⟨by (with_reducible repeat (first | refine blk_drewN ?_ _ | refine blk_drew ?_ | refine blk_alloc ?_ _)); exact BK206.out⟩, ⟨by repeat (first | (with_reducible first | exact HB.out | apply below_alloc | apply pw_below_drewN | apply below_drew1 | refine below_set ?_ GE205.out | refine below_set ?_ GE206.out) | exact HB.out)⟩⟩
              case rest =>
                clear HC55
                try clear c1
                try clear c2
                try clear p2
                try clear q2
                try clear hx2
                try clear c3
                try clear c4
                try clear c5
                try clear p6
                try clear c7
                try clear c8
                try clear c9
                try clear c10
                try clear c11
                try clear c13
                try clear c14
                try clear c15
                try clear c16
                try clear c19
                try clear c21
                try clear p21
                try clear q21
                try clear hx21
                try clear c22
                try clear c25
                try clear c28
                try clear c29
                try clear c32
                try clear c43
                try clear c47
                try clear c47b0
                try clear c48
                try clear c48b0
                try clear c50
                try clear c57
                try clear hcz15_0
                try clear hcz15_1
                try clear hcz15_2
                try clear hcz15_3
                try clear hcz17_0
                try clear hcz17_1
                try clear hcz17_2
                try clear hcz17_3
                try clear hcz23_0
                try clear hcz23_1
                try clear hcz23_2
                try clear hcz23_3
                try clear hcz26_0
                try clear hcz26_1
                try clear hcz26_2
                try clear hcz26_3
                try clear hcz30_0
                try clear hcz30_1
                try clear hcz30_2
                try clear hcz30_3
                try clear hcz44_0
                try clear hcz44_1
                try clear hcz44_2
                try clear hcz44_3
                try clear hcz45_0
                try clear hcz45_1
                try clear hcz45_2
                try clear hcz45_3
                try clear hfz15_0
                try clear hfz15_1
                try clear hfz15_2
                try clear hfz15_3
                try clear hfz17_0
                try clear hfz17_1
                try clear hfz17_2
                try clear hfz17_3
                try clear hfz23_0
                try clear hfz23_1
                try clear hfz23_2
                try clear hfz23_3
                try clear hfz26_0
                try clear hfz26_1
                try clear hfz26_2
                try clear hfz26_3
                try clear hfz30_0
                try clear hfz30_1
                try clear hfz30_2
                try clear hfz30_3
                try clear hfz44_0
                try clear hfz44_1
                try clear hfz44_2
                try clear hfz44_3
                try clear hfz45_0
                try clear hfz45_1
                try clear hfz45_2
                try clear hfz45_3
                try clear hx217_0
                try clear hx217_1
                try clear hx217_2
                try clear hx217_3
                try clear p2
                try clear p217
                try clear p6
                try clear q217
                obtain ⟨kq, x69_54, rfl, HA, HJ54, BK205, BK206, HB⟩ := hcut
                cases kq with
                | zero => exact absurd HA.out (by simp [tilefarmlaw2_RectPoints.j2])
                | succ kj54 =>
                  have H := HA.out
                  clear HA
                  simp only [tilefarmlaw2_RectPoints.j2] at H
                  have HC58 := Aside0.mk H
                  clear H
                  go_upto_if 69 with (fail)
                  go_cut [17] (fun v17 wc => ∃ (kq : Nat) (x17_57 : Int), v17 = .int .i64 x17_57 ∧ Aside0 (tilefarmlaw2_RectPoints.j3 kq (wrap64 (t210 - 4)) (wrap64 (t211 - 4)) t212 t213 x15_2 x17_57 t195 t196 t197 t198 t200 t201 t202 t203 = some r) ∧ Aside0 (kq ≤ kj54) ∧ Aside0 (wc.heap[gb205]? = some (.cells #[.int .i64 t195, .int .i64 t196, .int .i64 t197, .int .i64 t198] 26 (0, 0))) ∧ Aside0 (wc.heap[gb206]? = some (.cells #[.int .i64 t200, .int .i64 t201, .int .i64 t202, .int .i64 t203] 26 (0, 0))) ∧ Aside0 (Below w.heap.size w wc))
                  case first =>
                    have H := HC58.out
                    clear HC58
                    by_cases c59 : x69_54 = true
                    · subst c59
                      have H1 : (tilefarmlaw2_RectPoints.j3 kj54 (wrap64 (t210 - 4)) (wrap64 (t211 - 4)) t212 t213 x15_2 1 t195 t196 t197 t198 t200 t201 t202 t203) = some r := by rw [if_pos rfl] at H; exact H
                      clear H
                      have H := H1
                      clear H1
                      have H' := Aside0.mk H
                      clear H
                      go_wp2
                      go_meet
                      case rel => exact ⟨_, (1), (by first | rfl | (simp; done) | (simp [*]; done)), H', ⟨by have := HJ6.out; have := HK2.out; have := HJ54.out; first | omega | exact Nat.le_refl _⟩, ⟨by (with_reducible repeat (first | refine blk_drewN ?_ _ | refine blk_drew ?_ | refine blk_alloc ?_ _)); exact BK205.out⟩, ⟨by (with_reducible repeat (first | refine blk_drewN ?_ _ | refine blk_drew ?_ | refine blk_alloc ?_ _)); exact BK206.out⟩, ⟨by repeat (first | (with_reducible first | exact HB.out | apply below_alloc | apply pw_below_drewN | apply below_drew1 | refine below_set ?_ GE205.out | refine below_set ?_ GE206.out) | exact HB.out)⟩⟩
                    · replace c59 := Bool.eq_false_iff.mpr c59
                      subst c59
                      have H1 : (tilefarmlaw2_RectPoints.j3 kj54 (wrap64 (t210 - 4)) (wrap64 (t211 - 4)) t212 t213 x15_2 0 t195 t196 t197 t198 t200 t201 t202 t203) = some r := by rw [if_neg (show ¬ (false = true) by decide)] at H; exact H
                      clear H
                      have H := H1
                      clear H1
                      have H' := Aside0.mk H
                      clear H
                      go_wp2
                      go_meet
                      case rel => exact ⟨_, (0), (by first | rfl | (simp; done) | (simp [*]; done)), H', ⟨by have := HJ6.out; have := HK2.out; have := HJ54.out; first | omega | exact Nat.le_refl _⟩, ⟨by (with_reducible repeat (first | refine blk_drewN ?_ _ | refine blk_drew ?_ | refine blk_alloc ?_ _)); exact BK205.out⟩, ⟨by (with_reducible repeat (first | refine blk_drewN ?_ _ | refine blk_drew ?_ | refine blk_alloc ?_ _)); exact BK206.out⟩, ⟨by repeat (first | (with_reducible first | exact HB.out | apply below_alloc | apply pw_below_drewN | apply below_drew1 | refine below_set ?_ GE205.out | refine below_set ?_ GE206.out) | exact HB.out)⟩⟩
                  case rest =>
                    clear HC58
                    try clear c1
                    try clear c2
                    try clear p2
                    try clear q2
                    try clear hx2
                    try clear c3
                    try clear c4
                    try clear c5
                    try clear p6
                    try clear c7
                    try clear c8
                    try clear c9
                    try clear c10
                    try clear c11
                    try clear c13
                    try clear c14
                    try clear c15
                    try clear c16
                    try clear c19
                    try clear c21
                    try clear p21
                    try clear q21
                    try clear hx21
                    try clear c22
                    try clear c25
                    try clear c28
                    try clear c29
                    try clear c32
                    try clear c43
                    try clear c47
                    try clear c47b0
                    try clear c48
                    try clear c48b0
                    try clear c50
                    try clear c57
                    try clear c59
                    try clear hcz15_0
                    try clear hcz15_1
                    try clear hcz15_2
                    try clear hcz15_3
                    try clear hcz17_0
                    try clear hcz17_1
                    try clear hcz17_2
                    try clear hcz17_3
                    try clear hcz23_0
                    try clear hcz23_1
                    try clear hcz23_2
                    try clear hcz23_3
                    try clear hcz26_0
                    try clear hcz26_1
                    try clear hcz26_2
                    try clear hcz26_3
                    try clear hcz30_0
                    try clear hcz30_1
                    try clear hcz30_2
                    try clear hcz30_3
                    try clear hcz44_0
                    try clear hcz44_1
                    try clear hcz44_2
                    try clear hcz44_3
                    try clear hcz45_0
                    try clear hcz45_1
                    try clear hcz45_2
                    try clear hcz45_3
                    try clear hfz15_0
                    try clear hfz15_1
                    try clear hfz15_2
                    try clear hfz15_3
                    try clear hfz17_0
                    try clear hfz17_1
                    try clear hfz17_2
                    try clear hfz17_3
                    try clear hfz23_0
                    try clear hfz23_1
                    try clear hfz23_2
                    try clear hfz23_3
                    try clear hfz26_0
                    try clear hfz26_1
                    try clear hfz26_2
                    try clear hfz26_3
                    try clear hfz30_0
                    try clear hfz30_1
                    try clear hfz30_2
                    try clear hfz30_3
                    try clear hfz44_0
                    try clear hfz44_1
                    try clear hfz44_2
                    try clear hfz44_3
                    try clear hfz45_0
                    try clear hfz45_1
                    try clear hfz45_2
                    try clear hfz45_3
                    try clear hx217_0
                    try clear hx217_1
                    try clear hx217_2
                    try clear hx217_3
                    try clear p2
                    try clear p21
                    try clear p217
                    try clear p6
                    try clear q2
                    try clear q21
                    try clear q217
                    obtain ⟨kq, x17_57, rfl, HA, HJ57, BK205, BK206, HB⟩ := hcut
                    cases kq with
                    | zero => exact absurd HA.out (by simp [tilefarmlaw2_RectPoints.j3])
                    | succ kj57 =>
                      have H := HA.out
                      clear HA
                      simp only [tilefarmlaw2_RectPoints.j3] at H
                      replace H := Option.bind_eq_some_iff.mp H
                      obtain ⟨⟨t219, t220, t221, t222⟩, A600, H⟩ := H
                      replace H : ((rect_Contains.f t219 t220 t221 t222 (wrap64 (t210 - 4)) (wrap64 (t211 - 4))).bind fun t223 => (if t212 = true then (if (t223 == t213) = true then ((rect_Hull.f kj57 t195 t196 t197 t198 t200 t201 t202 t203).bind fun bt224 => ((rect_Contains.f bt224.1 bt224.2.1 bt224.2.2.1 bt224.2.2.2 (wrap64 (t210 - 4)) (wrap64 (t211 - 4))).bind fun t228 => (if t228 = true then (if x15_2 = x17_57 then ((tilefarmlaw2_sane.f kj57).bind fun t229 => (some t229)) else (some false)) else (some false)))) else (some false)) else (if (t223 == false) = true then (if t213 = true then ((rect_Hull.f kj57 t195 t196 t197 t198 t200 t201 t202 t203).bind fun bt230 => ((rect_Contains.f bt230.1 bt230.2.1 bt230.2.2.1 bt230.2.2.2 (wrap64 (t210 - 4)) (wrap64 (t211 - 4))).bind fun t234 => (if t234 = true then (if x15_2 = x17_57 then ((tilefarmlaw2_sane.f kj57).bind fun t235 => (some t235)) else (some false)) else (some false)))) else (if x15_2 = x17_57 then ((tilefarmlaw2_sane.f kj57).bind fun t236 => (some t236)) else (some false))) else (some false)))) = some r := H
                      have A60 := Aside0.mk A600
                      clear A600
                      replace H := Option.bind_eq_some_iff.mp H
                      obtain ⟨t223, A610, H⟩ := H
                      replace H : (if t212 = true then (if (t223 == t213) = true then ((rect_Hull.f kj57 t195 t196 t197 t198 t200 t201 t202 t203).bind fun bt224 => ((rect_Contains.f bt224.1 bt224.2.1 bt224.2.2.1 bt224.2.2.2 (wrap64 (t210 - 4)) (wrap64 (t211 - 4))).bind fun t228 => (if t228 = true then (if x15_2 = x17_57 then ((tilefarmlaw2_sane.f kj57).bind fun t229 => (some t229)) else (some false)) else (some false)))) else (some false)) else (if (t223 == false) = true then (if t213 = true then ((rect_Hull.f kj57 t195 t196 t197 t198 t200 t201 t202 t203).bind fun bt230 => ((rect_Contains.f bt230.1 bt230.2.1 bt230.2.2.1 bt230.2.2.2 (wrap64 (t210 - 4)) (wrap64 (t211 - 4))).bind fun t234 => (if t234 = true then (if x15_2 = x17_57 then ((tilefarmlaw2_sane.f kj57).bind fun t235 => (some t235)) else (some false)) else (some false)))) else (if x15_2 = x17_57 then ((tilefarmlaw2_sane.f kj57).bind fun t236 => (some t236)) else (some false))) else (some false))) = some r := H
                      have A61 := Aside0.mk A610
                      clear A610
                      by_cases c62 : t212 = true
                      · subst c62
                        have H1 : (if (t223 == t213) = true then ((rect_Hull.f kj57 t195 t196 t197 t198 t200 t201 t202 t203).bind fun bt224 => ((rect_Contains.f bt224.1 bt224.2.1 bt224.2.2.1 bt224.2.2.2 (wrap64 (t210 - 4)) (wrap64 (t211 - 4))).bind fun t228 => (if t228 = true then (if x15_2 = x17_57 then ((tilefarmlaw2_sane.f kj57).bind fun t229 => (some t229)) else (some false)) else (some false)))) else (some false)) = some r := by rw [if_pos rfl] at H; exact H
                        clear H
                        have H := H1
                        clear H1
                        by_cases c63 : (t223 == t213) = true
                        · rw [if_pos c63] at H
                          have c63b0 : (t223 == t213) = true := c63
                          (try (have c63b1 : decide (t223 = t213) = true := by simpa using c63))
                          (try (have c63b2 : (t223 == t213) = true := by simpa using c63))
                          clear c63
                          replace H := Option.bind_eq_some_iff.mp H
                          obtain ⟨⟨t224, t225, t226, t227⟩, A640, H⟩ := H
                          replace H : ((rect_Contains.f t224 t225 t226 t227 (wrap64 (t210 - 4)) (wrap64 (t211 - 4))).bind fun t228 => (if t228 = true then (if x15_2 = x17_57 then ((tilefarmlaw2_sane.f kj57).bind fun t229 => (some t229)) else (some false)) else (some false))) = some r := H
                          have A64 := Aside0.mk A640
                          clear A640
                          replace H := Option.bind_eq_some_iff.mp H
                          obtain ⟨t228, A650, H⟩ := H
                          replace H : (if t228 = true then (if x15_2 = x17_57 then ((tilefarmlaw2_sane.f kj57).bind fun t229 => (some t229)) else (some false)) else (some false)) = some r := H
                          have A65 := Aside0.mk A650
                          clear A650
                          by_cases c66 : t228 = true
                          · subst c66
                            have H1 : (if x15_2 = x17_57 then ((tilefarmlaw2_sane.f kj57).bind fun t229 => (some t229)) else (some false)) = some r := by rw [if_pos rfl] at H; exact H
                            clear H
                            have H := H1
                            clear H1
                            by_cases c67 : x15_2 = x17_57
                            · rw [if_pos c67] at H
                              have c67b0 : (x15_2 == x17_57) = true := beq_iff_eq.mpr c67
                              have c67b1 : (x15_2 != x17_57) = false := bne_eq_false_iff_eq.mpr c67
                              clear c67
                              replace H := Option.bind_eq_some_iff.mp H
                              obtain ⟨t229, A680, H⟩ := H
                              replace H : (some t229) = some r := H
                              have A68 := Aside0.mk A680
                              clear A680
                              obtain rfl := Option.some.inj H
                              have hnb69 := NB205_206.out
                              have hnc69 := NB206_205.out
                              have hcz70_0 : wc.cell? ⟨gb205, 0, none⟩ = some (.int .i64 t195) := (blk_cell BK205.out 0).trans rfl
                              have hcz70_1 : wc.cell? ⟨gb205, 1, none⟩ = some (.int .i64 t196) := (blk_cell BK205.out 1).trans rfl
                              have hcz70_2 : wc.cell? ⟨gb205, 2, none⟩ = some (.int .i64 t197) := (blk_cell BK205.out 2).trans rfl
                              have hcz70_3 : wc.cell? ⟨gb205, 3, none⟩ = some (.int .i64 t198) := (blk_cell BK205.out 3).trans rfl
                              have hfz70_0 := blk_frozen BK205.out 0
                              have hfz70_1 := blk_frozen BK205.out 1
                              have hfz70_2 := blk_frozen BK205.out 2
                              have hfz70_3 := blk_frozen BK205.out 3
                              have hcz71_0 : wc.cell? ⟨gb206, 0, none⟩ = some (.int .i64 t200) := (blk_cell BK206.out 0).trans rfl
                              have hcz71_1 : wc.cell? ⟨gb206, 1, none⟩ = some (.int .i64 t201) := (blk_cell BK206.out 1).trans rfl
                              have hcz71_2 : wc.cell? ⟨gb206, 2, none⟩ = some (.int .i64 t202) := (blk_cell BK206.out 2).trans rfl
                              have hcz71_3 : wc.cell? ⟨gb206, 3, none⟩ = some (.int .i64 t203) := (blk_cell BK206.out 3).trans rfl
                              have hfz71_0 := blk_frozen BK206.out 0
                              have hfz71_1 := blk_frozen BK206.out 1
                              have hfz71_2 := blk_frozen BK206.out 2
                              have hfz71_3 := blk_frozen BK206.out 3
                              go_wp2_with (first | ((with_reducible refine gate_callee (f := 13) rfl ?_); refine goesL_ (some 72) rfl rfl Try.func13 (by kernel_rfl) rfl #[.agg #[.int .i64 t195, .int .i64 t196, .int .i64 t197, .int .i64 t198], .agg #[.int .i64 t200, .int .i64 t201, .int .i64 t202, .int .i64 t203]] rfl (by (try simp only [List.map_toArray, List.map_cons, List.map_nil]); first | done | rfl | (simp only [List.length_drop, List.length_take]; rfl)) ?_; (with_reducible refine (rect_Intersect.calls kj57 t195 t196 t197 t198 t200 t201 t202 t203 t219 t220 t221 t222 _ A60.out).mono ?_); rintro e w72 ⟨rfl, hb⟩; refine ⟨_, rfl, ?_⟩; have n0_ := Aside0.mk (blk_below (g := gb205) (o := .cells #[.int .i64 t195, .int .i64 t196, .int .i64 t197, .int .i64 t198] 26 (0, 0)) (by (with_reducible repeat (first | refine blk_drewN ?_ _ | refine blk_drew ?_ | refine blk_alloc ?_ _)); exact BK205.out) hb); have n1_ := Aside0.mk (blk_below (g := gb206) (o := .cells #[.int .i64 t200, .int .i64 t201, .int .i64 t202, .int .i64 t203] 26 (0, 0)) (by (with_reducible repeat (first | refine blk_drewN ?_ _ | refine blk_drew ?_ | refine blk_alloc ?_ _)); exact BK206.out) hb); have n2_ := Aside0.mk (below_step (by repeat (first | (with_reducible first | exact HB.out | apply below_alloc | apply pw_below_drewN | apply below_drew1 | refine below_set ?_ GE205.out | refine below_set ?_ GE206.out) | exact HB.out)) hb); clear BK205; clear BK206; clear HB; have BK205 := n0_; have BK206 := n1_; have HB := n2_; clear n0_ n1_ n2_; (try clear hb); (try clear hb2); (try clear hk); (try clear hi)) | ((with_reducible refine gate_callee (f := 16) rfl ?_); refine goesL_ (some 75) rfl rfl Try.func16 (by kernel_rfl) rfl #[.agg #[.int .i64 t219, .int .i64 t220, .int .i64 t221, .int .i64 t222], .int .i64 (wrap64 (t210 - 4)), .int .i64 (wrap64 (t211 - 4))] rfl (by (try simp only [List.map_toArray, List.map_cons, List.map_nil]); first | done | rfl | (simp only [List.length_drop, List.length_take]; rfl)) ?_; (with_reducible refine (rect_Contains.calls t219 t220 t221 t222 (wrap64 (t210 - 4)) (wrap64 (t211 - 4)) t223 _ A61.out).mono ?_); rintro e w73 ⟨rfl, hb⟩; refine ⟨_, rfl, ?_⟩; have n0_ := Aside0.mk (blk_below (g := gb205) (o := .cells #[.int .i64 t195, .int .i64 t196, .int .i64 t197, .int .i64 t198] 26 (0, 0)) (by (with_reducible repeat (first | refine blk_drewN ?_ _ | refine blk_drew ?_ | refine blk_alloc ?_ _)); exact BK205.out) hb); have n1_ := Aside0.mk (blk_below (g := gb206) (o := .cells #[.int .i64 t200, .int .i64 t201, .int .i64 t202, .int .i64 t203] 26 (0, 0)) (by (with_reducible repeat (first | refine blk_drewN ?_ _ | refine blk_drew ?_ | refine blk_alloc ?_ _)); exact BK206.out) hb); have n2_ := Aside0.mk (below_step (by repeat (first | (with_reducible first | exact HB.out | apply below_alloc | apply pw_below_drewN | apply below_drew1 | refine below_set ?_ GE205.out | refine below_set ?_ GE206.out) | exact HB.out)) hb); clear BK205; clear BK206; clear HB; have BK205 := n0_; have BK206 := n1_; have HB := n2_; clear n0_ n1_ n2_; (try clear hb); (try clear hb2); (try clear hk); (try clear hi); have hcz74_0 : w73.cell? ⟨gb205, 0, none⟩ = some (.int .i64 t195) := (blk_cell BK205.out 0).trans rfl; have hcz74_1 : w73.cell? ⟨gb205, 1, none⟩ = some (.int .i64 t196) := (blk_cell BK205.out 1).trans rfl; have hcz74_2 : w73.cell? ⟨gb205, 2, none⟩ = some (.int .i64 t197) := (blk_cell BK205.out 2).trans rfl; have hcz74_3 : w73.cell? ⟨gb205, 3, none⟩ = some (.int .i64 t198) := (blk_cell BK205.out 3).trans rfl; have hfz74_0 := blk_frozen BK205.out 0; have hfz74_1 := blk_frozen BK205.out 1; have hfz74_2 := blk_frozen BK205.out 2; have hfz74_3 := blk_frozen BK205.out 3; have hcz75_0 : w73.cell? ⟨gb206, 0, none⟩ = some (.int .i64 t200) := (blk_cell BK206.out 0).trans rfl; have hcz75_1 : w73.cell? ⟨gb206, 1, none⟩ = some (.int .i64 t201) := (blk_cell BK206.out 1).trans rfl; have hcz75_2 : w73.cell? ⟨gb206, 2, none⟩ = some (.int .i64 t202) := (blk_cell BK206.out 2).trans rfl; have hcz75_3 : w73.cell? ⟨gb206, 3, none⟩ = some (.int .i64 t203) := (blk_cell BK206.out 3).trans rfl; have hfz75_0 := blk_frozen BK206.out 0; have hfz75_1 := blk_frozen BK206.out 1; have hfz75_2 := blk_frozen BK206.out 2; have hfz75_3 := blk_frozen BK206.out 3) | (go_at_call 17; (with_reducible refine (rect_Hull.calls kj57 t195 t196 t197 t198 t200 t201 t202 t203 t224 t225 t226 t227 _ A64.out).mono ?_); rintro e w76 ⟨rfl, hb⟩; have n0_ := Aside0.mk (blk_below (g := gb205) (o := .cells #[.int .i64 t195, .int .i64 t196, .int .i64 t197, .int .i64 t198] 26 (0, 0)) (by (with_reducible repeat (first | refine blk_drewN ?_ _ | refine blk_drew ?_ | refine blk_alloc ?_ _)); exact BK205.out) hb); have n1_ := Aside0.mk (blk_below (g := gb206) (o := .cells #[.int .i64 t200, .int .i64 t201, .int .i64 t202, .int .i64 t203] 26 (0, 0)) (by (with_reducible repeat (first | refine blk_drewN ?_ _ | refine blk_drew ?_ | refine blk_alloc ?_ _)); exact BK206.out) hb); have n2_ := Aside0.mk (below_step (by repeat (first | (with_reducible first | exact HB.out | apply below_alloc | apply pw_below_drewN | apply below_drew1 | refine below_set ?_ GE205.out | refine below_set ?_ GE206.out) | exact HB.out)) hb); clear BK205; clear BK206; clear HB; have BK205 := n0_; have BK206 := n1_; have HB := n2_; clear n0_ n1_ n2_; (try clear hb); (try clear hb2); (try clear hk); (try clear hi)) | (go_at_call 16; (with_reducible refine (rect_Contains.calls t224 t225 t226 t227 (wrap64 (t210 - 4)) (wrap64 (t211 - 4)) true _ A65.out).mono ?_); rintro e w77 ⟨rfl, hb⟩; have n0_ := Aside0.mk (blk_below (g := gb205) (o := .cells #[.int .i64 t195, .int .i64 t196, .int .i64 t197, .int .i64 t198] 26 (0, 0)) (by (with_reducible repeat (first | refine blk_drewN ?_ _ | refine blk_drew ?_ | refine blk_alloc ?_ _)); exact BK205.out) hb); have n1_ := Aside0.mk (blk_below (g := gb206) (o := .cells #[.int .i64 t200, .int .i64 t201, .int .i64 t202, .int .i64 t203] 26 (0, 0)) (by (with_reducible repeat (first | refine blk_drewN ?_ _ | refine blk_drew ?_ | refine blk_alloc ?_ _)); exact BK206.out) hb); have n2_ := Aside0.mk (below_step (by repeat (first | (with_reducible first | exact HB.out | apply below_alloc | apply pw_below_drewN | apply below_drew1 | refine below_set ?_ GE205.out | refine below_set ?_ GE206.out) | exact HB.out)) hb); clear BK205; clear BK206; clear HB; have BK205 := n0_; have BK206 := n1_; have HB := n2_; clear n0_ n1_ n2_; (try clear hb); (try clear hb2); (try clear hk); (try clear hi)) | (go_at_call 10; (with_reducible refine (tilefarmlaw2_sane.calls kj57  t229 _ A68.out).mono ?_); rintro e w78 ⟨rfl, hb⟩; have n0_ := Aside0.mk (blk_below (g := gb205) (o := .cells #[.int .i64 t195, .int .i64 t196, .int .i64 t197, .int .i64 t198] 26 (0, 0)) (by (with_reducible repeat (first | refine blk_drewN ?_ _ | refine blk_drew ?_ | refine blk_alloc ?_ _)); exact BK205.out) hb); have n1_ := Aside0.mk (blk_below (g := gb206) (o := .cells #[.int .i64 t200, .int .i64 t201, .int .i64 t202, .int .i64 t203] 26 (0, 0)) (by (with_reducible repeat (first | refine blk_drewN ?_ _ | refine blk_drew ?_ | refine blk_alloc ?_ _)); exact BK206.out) hb); have n2_ := Aside0.mk (below_step (by repeat (first | (with_reducible first | exact HB.out | apply below_alloc | apply pw_below_drewN | apply below_drew1 | refine below_set ?_ GE205.out | refine below_set ?_ GE206.out) | exact HB.out)) hb); clear BK205; clear BK206; clear HB; have BK205 := n0_; have BK206 := n1_; have HB := n2_; clear n0_ n1_ n2_; (try clear hb); (try clear hb2); (try clear hk); (try clear hi)))
                              go_ret
                              exact ⟨by first | rfl | (simp [errW_none, errW_some] <;> rfl) | (simp [*, errW_none, errW_some] <;> rfl), by repeat (first | (with_reducible first | exact HB.out | apply below_alloc | apply pw_below_drewN | apply below_drew1 | refine below_set ?_ GE205.out | refine below_set ?_ GE206.out) | exact HB.out)⟩
                            · rw [if_neg c67] at H
                              have c67b0 : (x15_2 == x17_57) = false := beq_eq_false_iff_ne.mpr c67
                              have c67b1 : (x15_2 != x17_57) = true := bne_iff_ne.mpr c67
                              obtain rfl := Option.some.inj H
                              have hnb79 := NB205_206.out
                              have hnc79 := NB206_205.out
                              have hcz80_0 : wc.cell? ⟨gb205, 0, none⟩ = some (.int .i64 t195) := (blk_cell BK205.out 0).trans rfl
                              have hcz80_1 : wc.cell? ⟨gb205, 1, none⟩ = some (.int .i64 t196) := (blk_cell BK205.out 1).trans rfl
                              have hcz80_2 : wc.cell? ⟨gb205, 2, none⟩ = some (.int .i64 t197) := (blk_cell BK205.out 2).trans rfl
                              have hcz80_3 : wc.cell? ⟨gb205, 3, none⟩ = some (.int .i64 t198) := (blk_cell BK205.out 3).trans rfl
                              have hfz80_0 := blk_frozen BK205.out 0
                              have hfz80_1 := blk_frozen BK205.out 1
                              have hfz80_2 := blk_frozen BK205.out 2
                              have hfz80_3 := blk_frozen BK205.out 3
                              have hcz81_0 : wc.cell? ⟨gb206, 0, none⟩ = some (.int .i64 t200) := (blk_cell BK206.out 0).trans rfl
                              have hcz81_1 : wc.cell? ⟨gb206, 1, none⟩ = some (.int .i64 t201) := (blk_cell BK206.out 1).trans rfl
                              have hcz81_2 : wc.cell? ⟨gb206, 2, none⟩ = some (.int .i64 t202) := (blk_cell BK206.out 2).trans rfl
                              have hcz81_3 : wc.cell? ⟨gb206, 3, none⟩ = some (.int .i64 t203) := (blk_cell BK206.out 3).trans rfl
                              have hfz81_0 := blk_frozen BK206.out 0
                              have hfz81_1 := blk_frozen BK206.out 1
                              have hfz81_2 := blk_frozen BK206.out 2
                              have hfz81_3 := blk_frozen BK206.out 3
                              go_wp2_with (first | ((with_reducible refine gate_callee (f := 13) rfl ?_); refine goesL_ (some 72) rfl rfl Try.func13 (by kernel_rfl) rfl #[.agg #[.int .i64 t195, .int .i64 t196, .int .i64 t197, .int .i64 t198], .agg #[.int .i64 t200, .int .i64 t201, .int .i64 t202, .int .i64 t203]] rfl (by (try simp only [List.map_toArray, List.map_cons, List.map_nil]); first | done | rfl | (simp only [List.length_drop, List.length_take]; rfl)) ?_; (with_reducible refine (rect_Intersect.calls kj57 t195 t196 t197 t198 t200 t201 t202 t203 t219 t220 t221 t222 _ A60.out).mono ?_); rintro e w82 ⟨rfl, hb⟩; refine ⟨_, rfl, ?_⟩; have n0_ := Aside0.mk (blk_below (g := gb205) (o := .cells #[.int .i64 t195, .int .i64 t196, .int .i64 t197, .int .i64 t198] 26 (0, 0)) (by (with_reducible repeat (first | refine blk_drewN ?_ _ | refine blk_drew ?_ | refine blk_alloc ?_ _)); exact BK205.out) hb); have n1_ := Aside0.mk (blk_below (g := gb206) (o := .cells #[.int .i64 t200, .int .i64 t201, .int .i64 t202, .int .i64 t203] 26 (0, 0)) (by (with_reducible repeat (first | refine blk_drewN ?_ _ | refine blk_drew ?_ | refine blk_alloc ?_ _)); exact BK206.out) hb); have n2_ := Aside0.mk (below_step (by repeat (first | (with_reducible first | exact HB.out | apply below_alloc | apply pw_below_drewN | apply below_drew1 | refine below_set ?_ GE205.out | refine below_set ?_ GE206.out) | exact HB.out)) hb); clear BK205; clear BK206; clear HB; have BK205 := n0_; have BK206 := n1_; have HB := n2_; clear n0_ n1_ n2_; (try clear hb); (try clear hb2); (try clear hk); (try clear hi)) | ((with_reducible refine gate_callee (f := 16) rfl ?_); refine goesL_ (some 75) rfl rfl Try.func16 (by kernel_rfl) rfl #[.agg #[.int .i64 t219, .int .i64 t220, .int .i64 t221, .int .i64 t222], .int .i64 (wrap64 (t210 - 4)), .int .i64 (wrap64 (t211 - 4))] rfl (by (try simp only [List.map_toArray, List.map_cons, List.map_nil]); first | done | rfl | (simp only [List.length_drop, List.length_take]; rfl)) ?_; (with_reducible refine (rect_Contains.calls t219 t220 t221 t222 (wrap64 (t210 - 4)) (wrap64 (t211 - 4)) t223 _ A61.out).mono ?_); rintro e w83 ⟨rfl, hb⟩; refine ⟨_, rfl, ?_⟩; have n0_ := Aside0.mk (blk_below (g := gb205) (o := .cells #[.int .i64 t195, .int .i64 t196, .int .i64 t197, .int .i64 t198] 26 (0, 0)) (by (with_reducible repeat (first | refine blk_drewN ?_ _ | refine blk_drew ?_ | refine blk_alloc ?_ _)); exact BK205.out) hb); have n1_ := Aside0.mk (blk_below (g := gb206) (o := .cells #[.int .i64 t200, .int .i64 t201, .int .i64 t202, .int .i64 t203] 26 (0, 0)) (by (with_reducible repeat (first | refine blk_drewN ?_ _ | refine blk_drew ?_ | refine blk_alloc ?_ _)); exact BK206.out) hb); have n2_ := Aside0.mk (below_step (by repeat (first | (with_reducible first | exact HB.out | apply below_alloc | apply pw_below_drewN | apply below_drew1 | refine below_set ?_ GE205.out | refine below_set ?_ GE206.out) | exact HB.out)) hb); clear BK205; clear BK206; clear HB; have BK205 := n0_; have BK206 := n1_; have HB := n2_; clear n0_ n1_ n2_; (try clear hb); (try clear hb2); (try clear hk); (try clear hi); have hcz84_0 : w83.cell? ⟨gb205, 0, none⟩ = some (.int .i64 t195) := (blk_cell BK205.out 0).trans rfl; have hcz84_1 : w83.cell? ⟨gb205, 1, none⟩ = some (.int .i64 t196) := (blk_cell BK205.out 1).trans rfl; have hcz84_2 : w83.cell? ⟨gb205, 2, none⟩ = some (.int .i64 t197) := (blk_cell BK205.out 2).trans rfl; have hcz84_3 : w83.cell? ⟨gb205, 3, none⟩ = some (.int .i64 t198) := (blk_cell BK205.out 3).trans rfl; have hfz84_0 := blk_frozen BK205.out 0; have hfz84_1 := blk_frozen BK205.out 1; have hfz84_2 := blk_frozen BK205.out 2; have hfz84_3 := blk_frozen BK205.out 3; have hcz85_0 : w83.cell? ⟨gb206, 0, none⟩ = some (.int .i64 t200) := (blk_cell BK206.out 0).trans rfl; have hcz85_1 : w83.cell? ⟨gb206, 1, none⟩ = some (.int .i64 t201) := (blk_cell BK206.out 1).trans rfl; have hcz85_2 : w83.cell? ⟨gb206, 2, none⟩ = some (.int .i64 t202) := (blk_cell BK206.out 2).trans rfl; have hcz85_3 : w83.cell? ⟨gb206, 3, none⟩ = some (.int .i64 t203) := (blk_cell BK206.out 3).trans rfl; have hfz85_0 := blk_frozen BK206.out 0; have hfz85_1 := blk_frozen BK206.out 1; have hfz85_2 := blk_frozen BK206.out 2; have hfz85_3 := blk_frozen BK206.out 3) | (go_at_call 17; (with_reducible refine (rect_Hull.calls kj57 t195 t196 t197 t198 t200 t201 t202 t203 t224 t225 t226 t227 _ A64.out).mono ?_); rintro e w86 ⟨rfl, hb⟩; have n0_ := Aside0.mk (blk_below (g := gb205) (o := .cells #[.int .i64 t195, .int .i64 t196, .int .i64 t197, .int .i64 t198] 26 (0, 0)) (by (with_reducible repeat (first | refine blk_drewN ?_ _ | refine blk_drew ?_ | refine blk_alloc ?_ _)); exact BK205.out) hb); have n1_ := Aside0.mk (blk_below (g := gb206) (o := .cells #[.int .i64 t200, .int .i64 t201, .int .i64 t202, .int .i64 t203] 26 (0, 0)) (by (with_reducible repeat (first | refine blk_drewN ?_ _ | refine blk_drew ?_ | refine blk_alloc ?_ _)); exact BK206.out) hb); have n2_ := Aside0.mk (below_step (by repeat (first | (with_reducible first | exact HB.out | apply below_alloc | apply pw_below_drewN | apply below_drew1 | refine below_set ?_ GE205.out | refine below_set ?_ GE206.out) | exact HB.out)) hb); clear BK205; clear BK206; clear HB; have BK205 := n0_; have BK206 := n1_; have HB := n2_; clear n0_ n1_ n2_; (try clear hb); (try clear hb2); (try clear hk); (try clear hi)) | (go_at_call 16; (with_reducible refine (rect_Contains.calls t224 t225 t226 t227 (wrap64 (t210 - 4)) (wrap64 (t211 - 4)) true _ A65.out).mono ?_); rintro e w87 ⟨rfl, hb⟩; have n0_ := Aside0.mk (blk_below (g := gb205) (o := .cells #[.int .i64 t195, .int .i64 t196, .int .i64 t197, .int .i64 t198] 26 (0, 0)) (by (with_reducible repeat (first | refine blk_drewN ?_ _ | refine blk_drew ?_ | refine blk_alloc ?_ _)); exact BK205.out) hb); have n1_ := Aside0.mk (blk_below (g := gb206) (o := .cells #[.int .i64 t200, .int .i64 t201, .int .i64 t202, .int .i64 t203] 26 (0, 0)) (by (with_reducible repeat (first | refine blk_drewN ?_ _ | refine blk_drew ?_ | refine blk_alloc ?_ _)); exact BK206.out) hb); have n2_ := Aside0.mk (below_step (by repeat (first | (with_reducible first | exact HB.out | apply below_alloc | apply pw_below_drewN | apply below_drew1 | refine below_set ?_ GE205.out | refine below_set ?_ GE206.out) | exact HB.out)) hb); clear BK205; clear BK206; clear HB; have BK205 := n0_; have BK206 := n1_; have HB := n2_; clear n0_ n1_ n2_; (try clear hb); (try clear hb2); (try clear hk); (try clear hi)))
                              go_ret
                              exact ⟨by first | rfl | (simp [errW_none, errW_some] <;> rfl) | (simp [*, errW_none, errW_some] <;> rfl), by repeat (first | (with_reducible first | exact HB.out | apply below_alloc | apply pw_below_drewN | apply below_drew1 | refine below_set ?_ GE205.out | refine below_set ?_ GE206.out) | exact HB.out)⟩
                          · replace c66 := Bool.eq_false_iff.mpr c66
                            subst c66
                            have H1 : (some false) = some r := by rw [if_neg (show ¬ (false = true) by decide)] at H; exact H
                            clear H
                            have H := H1
                            clear H1
                            obtain rfl := Option.some.inj H
                            have hnb88 := NB205_206.out
                            have hnc88 := NB206_205.out
                            have hcz89_0 : wc.cell? ⟨gb205, 0, none⟩ = some (.int .i64 t195) := (blk_cell BK205.out 0).trans rfl
                            have hcz89_1 : wc.cell? ⟨gb205, 1, none⟩ = some (.int .i64 t196) := (blk_cell BK205.out 1).trans rfl
                            have hcz89_2 : wc.cell? ⟨gb205, 2, none⟩ = some (.int .i64 t197) := (blk_cell BK205.out 2).trans rfl
                            have hcz89_3 : wc.cell? ⟨gb205, 3, none⟩ = some (.int .i64 t198) := (blk_cell BK205.out 3).trans rfl
                            have hfz89_0 := blk_frozen BK205.out 0
                            have hfz89_1 := blk_frozen BK205.out 1
                            have hfz89_2 := blk_frozen BK205.out 2
                            have hfz89_3 := blk_frozen BK205.out 3
                            have hcz90_0 : wc.cell? ⟨gb206, 0, none⟩ = some (.int .i64 t200) := (blk_cell BK206.out 0).trans rfl
                            have hcz90_1 : wc.cell? ⟨gb206, 1, none⟩ = some (.int .i64 t201) := (blk_cell BK206.out 1).trans rfl
                            have hcz90_2 : wc.cell? ⟨gb206, 2, none⟩ = some (.int .i64 t202) := (blk_cell BK206.out 2).trans rfl
                            have hcz90_3 : wc.cell? ⟨gb206, 3, none⟩ = some (.int .i64 t203) := (blk_cell BK206.out 3).trans rfl
                            have hfz90_0 := blk_frozen BK206.out 0
                            have hfz90_1 := blk_frozen BK206.out 1
                            have hfz90_2 := blk_frozen BK206.out 2
                            have hfz90_3 := blk_frozen BK206.out 3
                            go_wp2_with (first | ((with_reducible refine gate_callee (f := 13) rfl ?_); refine goesL_ (some 72) rfl rfl Try.func13 (by kernel_rfl) rfl #[.agg #[.int .i64 t195, .int .i64 t196, .int .i64 t197, .int .i64 t198], .agg #[.int .i64 t200, .int .i64 t201, .int .i64 t202, .int .i64 t203]] rfl (by (try simp only [List.map_toArray, List.map_cons, List.map_nil]); first | done | rfl | (simp only [List.length_drop, List.length_take]; rfl)) ?_; (with_reducible refine (rect_Intersect.calls kj57 t195 t196 t197 t198 t200 t201 t202 t203 t219 t220 t221 t222 _ A60.out).mono ?_); rintro e w91 ⟨rfl, hb⟩; refine ⟨_, rfl, ?_⟩; have n0_ := Aside0.mk (blk_below (g := gb205) (o := .cells #[.int .i64 t195, .int .i64 t196, .int .i64 t197, .int .i64 t198] 26 (0, 0)) (by (with_reducible repeat (first | refine blk_drewN ?_ _ | refine blk_drew ?_ | refine blk_alloc ?_ _)); exact BK205.out) hb); have n1_ := Aside0.mk (blk_below (g := gb206) (o := .cells #[.int .i64 t200, .int .i64 t201, .int .i64 t202, .int .i64 t203] 26 (0, 0)) (by (with_reducible repeat (first | refine blk_drewN ?_ _ | refine blk_drew ?_ | refine blk_alloc ?_ _)); exact BK206.out) hb); have n2_ := Aside0.mk (below_step (by repeat (first | (with_reducible first | exact HB.out | apply below_alloc | apply pw_below_drewN | apply below_drew1 | refine below_set ?_ GE205.out | refine below_set ?_ GE206.out) | exact HB.out)) hb); clear BK205; clear BK206; clear HB; have BK205 := n0_; have BK206 := n1_; have HB := n2_; clear n0_ n1_ n2_; (try clear hb); (try clear hb2); (try clear hk); (try clear hi)) | ((with_reducible refine gate_callee (f := 16) rfl ?_); refine goesL_ (some 75) rfl rfl Try.func16 (by kernel_rfl) rfl #[.agg #[.int .i64 t219, .int .i64 t220, .int .i64 t221, .int .i64 t222], .int .i64 (wrap64 (t210 - 4)), .int .i64 (wrap64 (t211 - 4))] rfl (by (try simp only [List.map_toArray, List.map_cons, List.map_nil]); first | done | rfl | (simp only [List.length_drop, List.length_take]; rfl)) ?_; (with_reducible refine (rect_Contains.calls t219 t220 t221 t222 (wrap64 (t210 - 4)) (wrap64 (t211 - 4)) t223 _ A61.out).mono ?_); rintro e w92 ⟨rfl, hb⟩; refine ⟨_, rfl, ?_⟩; have n0_ := Aside0.mk (blk_below (g := gb205) (o := .cells #[.int .i64 t195, .int .i64 t196, .int .i64 t197, .int .i64 t198] 26 (0, 0)) (by (with_reducible repeat (first | refine blk_drewN ?_ _ | refine blk_drew ?_ | refine blk_alloc ?_ _)); exact BK205.out) hb); have n1_ := Aside0.mk (blk_below (g := gb206) (o := .cells #[.int .i64 t200, .int .i64 t201, .int .i64 t202, .int .i64 t203] 26 (0, 0)) (by (with_reducible repeat (first | refine blk_drewN ?_ _ | refine blk_drew ?_ | refine blk_alloc ?_ _)); exact BK206.out) hb); have n2_ := Aside0.mk (below_step (by repeat (first | (with_reducible first | exact HB.out | apply below_alloc | apply pw_below_drewN | apply below_drew1 | refine below_set ?_ GE205.out | refine below_set ?_ GE206.out) | exact HB.out)) hb); clear BK205; clear BK206; clear HB; have BK205 := n0_; have BK206 := n1_; have HB := n2_; clear n0_ n1_ n2_; (try clear hb); (try clear hb2); (try clear hk); (try clear hi); have hcz93_0 : w92.cell? ⟨gb205, 0, none⟩ = some (.int .i64 t195) := (blk_cell BK205.out 0).trans rfl; have hcz93_1 : w92.cell? ⟨gb205, 1, none⟩ = some (.int .i64 t196) := (blk_cell BK205.out 1).trans rfl; have hcz93_2 : w92.cell? ⟨gb205, 2, none⟩ = some (.int .i64 t197) := (blk_cell BK205.out 2).trans rfl; have hcz93_3 : w92.cell? ⟨gb205, 3, none⟩ = some (.int .i64 t198) := (blk_cell BK205.out 3).trans rfl; have hfz93_0 := blk_frozen BK205.out 0; have hfz93_1 := blk_frozen BK205.out 1; have hfz93_2 := blk_frozen BK205.out 2; have hfz93_3 := blk_frozen BK205.out 3; have hcz94_0 : w92.cell? ⟨gb206, 0, none⟩ = some (.int .i64 t200) := (blk_cell BK206.out 0).trans rfl; have hcz94_1 : w92.cell? ⟨gb206, 1, none⟩ = some (.int .i64 t201) := (blk_cell BK206.out 1).trans rfl; have hcz94_2 : w92.cell? ⟨gb206, 2, none⟩ = some (.int .i64 t202) := (blk_cell BK206.out 2).trans rfl; have hcz94_3 : w92.cell? ⟨gb206, 3, none⟩ = some (.int .i64 t203) := (blk_cell BK206.out 3).trans rfl; have hfz94_0 := blk_frozen BK206.out 0; have hfz94_1 := blk_frozen BK206.out 1; have hfz94_2 := blk_frozen BK206.out 2; have hfz94_3 := blk_frozen BK206.out 3) | (go_at_call 17; (with_reducible refine (rect_Hull.calls kj57 t195 t196 t197 t198 t200 t201 t202 t203 t224 t225 t226 t227 _ A64.out).mono ?_); rintro e w95 ⟨rfl, hb⟩; have n0_ := Aside0.mk (blk_below (g := gb205) (o := .cells #[.int .i64 t195, .int .i64 t196, .int .i64 t197, .int .i64 t198] 26 (0, 0)) (by (with_reducible repeat (first | refine blk_drewN ?_ _ | refine blk_drew ?_ | refine blk_alloc ?_ _)); exact BK205.out) hb); have n1_ := Aside0.mk (blk_below (g := gb206) (o := .cells #[.int .i64 t200, .int .i64 t201, .int .i64 t202, .int .i64 t203] 26 (0, 0)) (by (with_reducible repeat (first | refine blk_drewN ?_ _ | refine blk_drew ?_ | refine blk_alloc ?_ _)); exact BK206.out) hb); have n2_ := Aside0.mk (below_step (by repeat (first | (with_reducible first | exact HB.out | apply below_alloc | apply pw_below_drewN | apply below_drew1 | refine below_set ?_ GE205.out | refine below_set ?_ GE206.out) | exact HB.out)) hb); clear BK205; clear BK206; clear HB; have BK205 := n0_; have BK206 := n1_; have HB := n2_; clear n0_ n1_ n2_; (try clear hb); (try clear hb2); (try clear hk); (try clear hi)) | (go_at_call 16; (with_reducible refine (rect_Contains.calls t224 t225 t226 t227 (wrap64 (t210 - 4)) (wrap64 (t211 - 4)) false _ A65.out).mono ?_); rintro e w96 ⟨rfl, hb⟩; have n0_ := Aside0.mk (blk_below (g := gb205) (o := .cells #[.int .i64 t195, .int .i64 t196, .int .i64 t197, .int .i64 t198] 26 (0, 0)) (by (with_reducible repeat (first | refine blk_drewN ?_ _ | refine blk_drew ?_ | refine blk_alloc ?_ _)); exact BK205.out) hb); have n1_ := Aside0.mk (blk_below (g := gb206) (o := .cells #[.int .i64 t200, .int .i64 t201, .int .i64 t202, .int .i64 t203] 26 (0, 0)) (by (with_reducible repeat (first | refine blk_drewN ?_ _ | refine blk_drew ?_ | refine blk_alloc ?_ _)); exact BK206.out) hb); have n2_ := Aside0.mk (below_step (by repeat (first | (with_reducible first | exact HB.out | apply below_alloc | apply pw_below_drewN | apply below_drew1 | refine below_set ?_ GE205.out | refine below_set ?_ GE206.out) | exact HB.out)) hb); clear BK205; clear BK206; clear HB; have BK205 := n0_; have BK206 := n1_; have HB := n2_; clear n0_ n1_ n2_; (try clear hb); (try clear hb2); (try clear hk); (try clear hi)))
                            go_ret
                            exact ⟨by first | rfl | (simp [errW_none, errW_some] <;> rfl) | (simp [*, errW_none, errW_some] <;> rfl), by repeat (first | (with_reducible first | exact HB.out | apply below_alloc | apply pw_below_drewN | apply below_drew1 | refine below_set ?_ GE205.out | refine below_set ?_ GE206.out) | exact HB.out)⟩
                        · rw [if_neg c63] at H
                          have c63b0 : (t223 == t213) = false := by simpa using c63
                          (try (have c63b1 : decide (t223 = t213) = false := by simpa using c63))
                          (try (have c63b2 : (t223 == t213) = false := by simpa using c63))
                          (try (have c63b3 : ¬ (t223 = t213) := by simpa using c63))
                          clear c63
                          obtain rfl := Option.some.inj H
                          have hnb97 := NB205_206.out
                          have hnc97 := NB206_205.out
                          have hcz98_0 : wc.cell? ⟨gb205, 0, none⟩ = some (.int .i64 t195) := (blk_cell BK205.out 0).trans rfl
                          have hcz98_1 : wc.cell? ⟨gb205, 1, none⟩ = some (.int .i64 t196) := (blk_cell BK205.out 1).trans rfl
                          have hcz98_2 : wc.cell? ⟨gb205, 2, none⟩ = some (.int .i64 t197) := (blk_cell BK205.out 2).trans rfl
                          have hcz98_3 : wc.cell? ⟨gb205, 3, none⟩ = some (.int .i64 t198) := (blk_cell BK205.out 3).trans rfl
                          have hfz98_0 := blk_frozen BK205.out 0
                          have hfz98_1 := blk_frozen BK205.out 1
                          have hfz98_2 := blk_frozen BK205.out 2
                          have hfz98_3 := blk_frozen BK205.out 3
                          have hcz99_0 : wc.cell? ⟨gb206, 0, none⟩ = some (.int .i64 t200) := (blk_cell BK206.out 0).trans rfl
                          have hcz99_1 : wc.cell? ⟨gb206, 1, none⟩ = some (.int .i64 t201) := (blk_cell BK206.out 1).trans rfl
                          have hcz99_2 : wc.cell? ⟨gb206, 2, none⟩ = some (.int .i64 t202) := (blk_cell BK206.out 2).trans rfl
                          have hcz99_3 : wc.cell? ⟨gb206, 3, none⟩ = some (.int .i64 t203) := (blk_cell BK206.out 3).trans rfl
                          have hfz99_0 := blk_frozen BK206.out 0
                          have hfz99_1 := blk_frozen BK206.out 1
                          have hfz99_2 := blk_frozen BK206.out 2
                          have hfz99_3 := blk_frozen BK206.out 3
                          go_wp2_with (first | ((with_reducible refine gate_callee (f := 13) rfl ?_); refine goesL_ (some 72) rfl rfl Try.func13 (by kernel_rfl) rfl #[.agg #[.int .i64 t195, .int .i64 t196, .int .i64 t197, .int .i64 t198], .agg #[.int .i64 t200, .int .i64 t201, .int .i64 t202, .int .i64 t203]] rfl (by (try simp only [List.map_toArray, List.map_cons, List.map_nil]); first | done | rfl | (simp only [List.length_drop, List.length_take]; rfl)) ?_; (with_reducible refine (rect_Intersect.calls kj57 t195 t196 t197 t198 t200 t201 t202 t203 t219 t220 t221 t222 _ A60.out).mono ?_); rintro e w100 ⟨rfl, hb⟩; refine ⟨_, rfl, ?_⟩; have n0_ := Aside0.mk (blk_below (g := gb205) (o := .cells #[.int .i64 t195, .int .i64 t196, .int .i64 t197, .int .i64 t198] 26 (0, 0)) (by (with_reducible repeat (first | refine blk_drewN ?_ _ | refine blk_drew ?_ | refine blk_alloc ?_ _)); exact BK205.out) hb); have n1_ := Aside0.mk (blk_below (g := gb206) (o := .cells #[.int .i64 t200, .int .i64 t201, .int .i64 t202, .int .i64 t203] 26 (0, 0)) (by (with_reducible repeat (first | refine blk_drewN ?_ _ | refine blk_drew ?_ | refine blk_alloc ?_ _)); exact BK206.out) hb); have n2_ := Aside0.mk (below_step (by repeat (first | (with_reducible first | exact HB.out | apply below_alloc | apply pw_below_drewN | apply below_drew1 | refine below_set ?_ GE205.out | refine below_set ?_ GE206.out) | exact HB.out)) hb); clear BK205; clear BK206; clear HB; have BK205 := n0_; have BK206 := n1_; have HB := n2_; clear n0_ n1_ n2_; (try clear hb); (try clear hb2); (try clear hk); (try clear hi)) | ((with_reducible refine gate_callee (f := 16) rfl ?_); refine goesL_ (some 75) rfl rfl Try.func16 (by kernel_rfl) rfl #[.agg #[.int .i64 t219, .int .i64 t220, .int .i64 t221, .int .i64 t222], .int .i64 (wrap64 (t210 - 4)), .int .i64 (wrap64 (t211 - 4))] rfl (by (try simp only [List.map_toArray, List.map_cons, List.map_nil]); first | done | rfl | (simp only [List.length_drop, List.length_take]; rfl)) ?_; (with_reducible refine (rect_Contains.calls t219 t220 t221 t222 (wrap64 (t210 - 4)) (wrap64 (t211 - 4)) t223 _ A61.out).mono ?_); rintro e w101 ⟨rfl, hb⟩; refine ⟨_, rfl, ?_⟩; have n0_ := Aside0.mk (blk_below (g := gb205) (o := .cells #[.int .i64 t195, .int .i64 t196, .int .i64 t197, .int .i64 t198] 26 (0, 0)) (by (with_reducible repeat (first | refine blk_drewN ?_ _ | refine blk_drew ?_ | refine blk_alloc ?_ _)); exact BK205.out) hb); have n1_ := Aside0.mk (blk_below (g := gb206) (o := .cells #[.int .i64 t200, .int .i64 t201, .int .i64 t202, .int .i64 t203] 26 (0, 0)) (by (with_reducible repeat (first | refine blk_drewN ?_ _ | refine blk_drew ?_ | refine blk_alloc ?_ _)); exact BK206.out) hb); have n2_ := Aside0.mk (below_step (by repeat (first | (with_reducible first | exact HB.out | apply below_alloc | apply pw_below_drewN | apply below_drew1 | refine below_set ?_ GE205.out | refine below_set ?_ GE206.out) | exact HB.out)) hb); clear BK205; clear BK206; clear HB; have BK205 := n0_; have BK206 := n1_; have HB := n2_; clear n0_ n1_ n2_; (try clear hb); (try clear hb2); (try clear hk); (try clear hi)))
                          go_ret
                          exact ⟨by first | rfl | (simp [errW_none, errW_some] <;> rfl) | (simp [*, errW_none, errW_some] <;> rfl), by repeat (first | (with_reducible first | exact HB.out | apply below_alloc | apply pw_below_drewN | apply below_drew1 | refine below_set ?_ GE205.out | refine below_set ?_ GE206.out) | exact HB.out)⟩
                      · replace c62 := Bool.eq_false_iff.mpr c62
                        subst c62
                        have H1 : (if (t223 == false) = true then (if t213 = true then ((rect_Hull.f kj57 t195 t196 t197 t198 t200 t201 t202 t203).bind fun bt230 => ((rect_Contains.f bt230.1 bt230.2.1 bt230.2.2.1 bt230.2.2.2 (wrap64 (t210 - 4)) (wrap64 (t211 - 4))).bind fun t234 => (if t234 = true then (if x15_2 = x17_57 then ((tilefarmlaw2_sane.f kj57).bind fun t235 => (some t235)) else (some false)) else (some false)))) else (if x15_2 = x17_57 then ((tilefarmlaw2_sane.f kj57).bind fun t236 => (some t236)) else (some false))) else (some false)) = some r := by rw [if_neg (show ¬ (false = true) by decide)] at H; exact H
                        clear H
                        have H := H1
                        clear H1
                        by_cases c102 : (t223 == false) = true
                        · rw [if_pos c102] at H
                          have c102b0 : (t223 == false) = true := c102
                          (try (have c102b1 : decide (t223 = false) = true := by simpa using c102))
                          (try (have c102b2 : (t223 == false) = true := by simpa using c102))
                          clear c102
                          by_cases c103 : t213 = true
                          · subst c103
                            have H1 : ((rect_Hull.f kj57 t195 t196 t197 t198 t200 t201 t202 t203).bind fun bt230 => ((rect_Contains.f bt230.1 bt230.2.1 bt230.2.2.1 bt230.2.2.2 (wrap64 (t210 - 4)) (wrap64 (t211 - 4))).bind fun t234 => (if t234 = true then (if x15_2 = x17_57 then ((tilefarmlaw2_sane.f kj57).bind fun t235 => (some t235)) else (some false)) else (some false)))) = some r := by rw [if_pos rfl] at H; exact H
                            clear H
                            have H := H1
                            clear H1
                            replace H := Option.bind_eq_some_iff.mp H
                            obtain ⟨⟨t230, t231, t232, t233⟩, A1040, H⟩ := H
                            replace H : ((rect_Contains.f t230 t231 t232 t233 (wrap64 (t210 - 4)) (wrap64 (t211 - 4))).bind fun t234 => (if t234 = true then (if x15_2 = x17_57 then ((tilefarmlaw2_sane.f kj57).bind fun t235 => (some t235)) else (some false)) else (some false))) = some r := H
                            have A104 := Aside0.mk A1040
                            clear A1040
                            replace H := Option.bind_eq_some_iff.mp H
                            obtain ⟨t234, A1050, H⟩ := H
                            replace H : (if t234 = true then (if x15_2 = x17_57 then ((tilefarmlaw2_sane.f kj57).bind fun t235 => (some t235)) else (some false)) else (some false)) = some r := H
                            have A105 := Aside0.mk A1050
                            clear A1050
                            by_cases c106 : t234 = true
                            · subst c106
                              have H1 : (if x15_2 = x17_57 then ((tilefarmlaw2_sane.f kj57).bind fun t235 => (some t235)) else (some false)) = some r := by rw [if_pos rfl] at H; exact H
                              clear H
                              have H := H1
                              clear H1
                              by_cases c107 : x15_2 = x17_57
                              · rw [if_pos c107] at H
                                have c107b0 : (x15_2 == x17_57) = true := beq_iff_eq.mpr c107
                                have c107b1 : (x15_2 != x17_57) = false := bne_eq_false_iff_eq.mpr c107
                                clear c107
                                replace H := Option.bind_eq_some_iff.mp H
                                obtain ⟨t235, A1080, H⟩ := H
                                replace H : (some t235) = some r := H
                                have A108 := Aside0.mk A1080
                                clear A1080
                                obtain rfl := Option.some.inj H
                                have hnb109 := NB205_206.out
                                have hnc109 := NB206_205.out
                                have hcz110_0 : wc.cell? ⟨gb205, 0, none⟩ = some (.int .i64 t195) := (blk_cell BK205.out 0).trans rfl
                                have hcz110_1 : wc.cell? ⟨gb205, 1, none⟩ = some (.int .i64 t196) := (blk_cell BK205.out 1).trans rfl
                                have hcz110_2 : wc.cell? ⟨gb205, 2, none⟩ = some (.int .i64 t197) := (blk_cell BK205.out 2).trans rfl
                                have hcz110_3 : wc.cell? ⟨gb205, 3, none⟩ = some (.int .i64 t198) := (blk_cell BK205.out 3).trans rfl
                                have hfz110_0 := blk_frozen BK205.out 0
                                have hfz110_1 := blk_frozen BK205.out 1
                                have hfz110_2 := blk_frozen BK205.out 2
                                have hfz110_3 := blk_frozen BK205.out 3
                                have hcz111_0 : wc.cell? ⟨gb206, 0, none⟩ = some (.int .i64 t200) := (blk_cell BK206.out 0).trans rfl
                                have hcz111_1 : wc.cell? ⟨gb206, 1, none⟩ = some (.int .i64 t201) := (blk_cell BK206.out 1).trans rfl
                                have hcz111_2 : wc.cell? ⟨gb206, 2, none⟩ = some (.int .i64 t202) := (blk_cell BK206.out 2).trans rfl
                                have hcz111_3 : wc.cell? ⟨gb206, 3, none⟩ = some (.int .i64 t203) := (blk_cell BK206.out 3).trans rfl
                                have hfz111_0 := blk_frozen BK206.out 0
                                have hfz111_1 := blk_frozen BK206.out 1
                                have hfz111_2 := blk_frozen BK206.out 2
                                have hfz111_3 := blk_frozen BK206.out 3
                                go_wp2_with (first | ((with_reducible refine gate_callee (f := 13) rfl ?_); refine goesL_ (some 72) rfl rfl Try.func13 (by kernel_rfl) rfl #[.agg #[.int .i64 t195, .int .i64 t196, .int .i64 t197, .int .i64 t198], .agg #[.int .i64 t200, .int .i64 t201, .int .i64 t202, .int .i64 t203]] rfl (by (try simp only [List.map_toArray, List.map_cons, List.map_nil]); first | done | rfl | (simp only [List.length_drop, List.length_take]; rfl)) ?_; (with_reducible refine (rect_Intersect.calls kj57 t195 t196 t197 t198 t200 t201 t202 t203 t219 t220 t221 t222 _ A60.out).mono ?_); rintro e w112 ⟨rfl, hb⟩; refine ⟨_, rfl, ?_⟩; have n0_ := Aside0.mk (blk_below (g := gb205) (o := .cells #[.int .i64 t195, .int .i64 t196, .int .i64 t197, .int .i64 t198] 26 (0, 0)) (by (with_reducible repeat (first | refine blk_drewN ?_ _ | refine blk_drew ?_ | refine blk_alloc ?_ _)); exact BK205.out) hb); have n1_ := Aside0.mk (blk_below (g := gb206) (o := .cells #[.int .i64 t200, .int .i64 t201, .int .i64 t202, .int .i64 t203] 26 (0, 0)) (by (with_reducible repeat (first | refine blk_drewN ?_ _ | refine blk_drew ?_ | refine blk_alloc ?_ _)); exact BK206.out) hb); have n2_ := Aside0.mk (below_step (by repeat (first | (with_reducible first | exact HB.out | apply below_alloc | apply pw_below_drewN | apply below_drew1 | refine below_set ?_ GE205.out | refine below_set ?_ GE206.out) | exact HB.out)) hb); clear BK205; clear BK206; clear HB; have BK205 := n0_; have BK206 := n1_; have HB := n2_; clear n0_ n1_ n2_; (try clear hb); (try clear hb2); (try clear hk); (try clear hi)) | ((with_reducible refine gate_callee (f := 16) rfl ?_); refine goesL_ (some 75) rfl rfl Try.func16 (by kernel_rfl) rfl #[.agg #[.int .i64 t219, .int .i64 t220, .int .i64 t221, .int .i64 t222], .int .i64 (wrap64 (t210 - 4)), .int .i64 (wrap64 (t211 - 4))] rfl (by (try simp only [List.map_toArray, List.map_cons, List.map_nil]); first | done | rfl | (simp only [List.length_drop, List.length_take]; rfl)) ?_; (with_reducible refine (rect_Contains.calls t219 t220 t221 t222 (wrap64 (t210 - 4)) (wrap64 (t211 - 4)) t223 _ A61.out).mono ?_); rintro e w113 ⟨rfl, hb⟩; refine ⟨_, rfl, ?_⟩; have n0_ := Aside0.mk (blk_below (g := gb205) (o := .cells #[.int .i64 t195, .int .i64 t196, .int .i64 t197, .int .i64 t198] 26 (0, 0)) (by (with_reducible repeat (first | refine blk_drewN ?_ _ | refine blk_drew ?_ | refine blk_alloc ?_ _)); exact BK205.out) hb); have n1_ := Aside0.mk (blk_below (g := gb206) (o := .cells #[.int .i64 t200, .int .i64 t201, .int .i64 t202, .int .i64 t203] 26 (0, 0)) (by (with_reducible repeat (first | refine blk_drewN ?_ _ | refine blk_drew ?_ | refine blk_alloc ?_ _)); exact BK206.out) hb); have n2_ := Aside0.mk (below_step (by repeat (first | (with_reducible first | exact HB.out | apply below_alloc | apply pw_below_drewN | apply below_drew1 | refine below_set ?_ GE205.out | refine below_set ?_ GE206.out) | exact HB.out)) hb); clear BK205; clear BK206; clear HB; have BK205 := n0_; have BK206 := n1_; have HB := n2_; clear n0_ n1_ n2_; (try clear hb); (try clear hb2); (try clear hk); (try clear hi); have hcz114_0 : w113.cell? ⟨gb205, 0, none⟩ = some (.int .i64 t195) := (blk_cell BK205.out 0).trans rfl; have hcz114_1 : w113.cell? ⟨gb205, 1, none⟩ = some (.int .i64 t196) := (blk_cell BK205.out 1).trans rfl; have hcz114_2 : w113.cell? ⟨gb205, 2, none⟩ = some (.int .i64 t197) := (blk_cell BK205.out 2).trans rfl; have hcz114_3 : w113.cell? ⟨gb205, 3, none⟩ = some (.int .i64 t198) := (blk_cell BK205.out 3).trans rfl; have hfz114_0 := blk_frozen BK205.out 0; have hfz114_1 := blk_frozen BK205.out 1; have hfz114_2 := blk_frozen BK205.out 2; have hfz114_3 := blk_frozen BK205.out 3; have hcz115_0 : w113.cell? ⟨gb206, 0, none⟩ = some (.int .i64 t200) := (blk_cell BK206.out 0).trans rfl; have hcz115_1 : w113.cell? ⟨gb206, 1, none⟩ = some (.int .i64 t201) := (blk_cell BK206.out 1).trans rfl; have hcz115_2 : w113.cell? ⟨gb206, 2, none⟩ = some (.int .i64 t202) := (blk_cell BK206.out 2).trans rfl; have hcz115_3 : w113.cell? ⟨gb206, 3, none⟩ = some (.int .i64 t203) := (blk_cell BK206.out 3).trans rfl; have hfz115_0 := blk_frozen BK206.out 0; have hfz115_1 := blk_frozen BK206.out 1; have hfz115_2 := blk_frozen BK206.out 2; have hfz115_3 := blk_frozen BK206.out 3) | (go_at_call 17; (with_reducible refine (rect_Hull.calls kj57 t195 t196 t197 t198 t200 t201 t202 t203 t230 t231 t232 t233 _ A104.out).mono ?_); rintro e w116 ⟨rfl, hb⟩; have n0_ := Aside0.mk (blk_below (g := gb205) (o := .cells #[.int .i64 t195, .int .i64 t196, .int .i64 t197, .int .i64 t198] 26 (0, 0)) (by (with_reducible repeat (first | refine blk_drewN ?_ _ | refine blk_drew ?_ | refine blk_alloc ?_ _)); exact BK205.out) hb); have n1_ := Aside0.mk (blk_below (g := gb206) (o := .cells #[.int .i64 t200, .int .i64 t201, .int .i64 t202, .int .i64 t203] 26 (0, 0)) (by (with_reducible repeat (first | refine blk_drewN ?_ _ | refine blk_drew ?_ | refine blk_alloc ?_ _)); exact BK206.out) hb); have n2_ := Aside0.mk (below_step (by repeat (first | (with_reducible first | exact HB.out | apply below_alloc | apply pw_below_drewN | apply below_drew1 | refine below_set ?_ GE205.out | refine below_set ?_ GE206.out) | exact HB.out)) hb); clear BK205; clear BK206; clear HB; have BK205 := n0_; have BK206 := n1_; have HB := n2_; clear n0_ n1_ n2_; (try clear hb); (try clear hb2); (try clear hk); (try clear hi)) | (go_at_call 16; (with_reducible refine (rect_Contains.calls t230 t231 t232 t233 (wrap64 (t210 - 4)) (wrap64 (t211 - 4)) true _ A105.out).mono ?_); rintro e w117 ⟨rfl, hb⟩; have n0_ := Aside0.mk (blk_below (g := gb205) (o := .cells #[.int .i64 t195, .int .i64 t196, .int .i64 t197, .int .i64 t198] 26 (0, 0)) (by (with_reducible repeat (first | refine blk_drewN ?_ _ | refine blk_drew ?_ | refine blk_alloc ?_ _)); exact BK205.out) hb); have n1_ := Aside0.mk (blk_below (g := gb206) (o := .cells #[.int .i64 t200, .int .i64 t201, .int .i64 t202, .int .i64 t203] 26 (0, 0)) (by (with_reducible repeat (first | refine blk_drewN ?_ _ | refine blk_drew ?_ | refine blk_alloc ?_ _)); exact BK206.out) hb); have n2_ := Aside0.mk (below_step (by repeat (first | (with_reducible first | exact HB.out | apply below_alloc | apply pw_below_drewN | apply below_drew1 | refine below_set ?_ GE205.out | refine below_set ?_ GE206.out) | exact HB.out)) hb); clear BK205; clear BK206; clear HB; have BK205 := n0_; have BK206 := n1_; have HB := n2_; clear n0_ n1_ n2_; (try clear hb); (try clear hb2); (try clear hk); (try clear hi)) | (go_at_call 10; (with_reducible refine (tilefarmlaw2_sane.calls kj57  t235 _ A108.out).mono ?_); rintro e w118 ⟨rfl, hb⟩; have n0_ := Aside0.mk (blk_below (g := gb205) (o := .cells #[.int .i64 t195, .int .i64 t196, .int .i64 t197, .int .i64 t198] 26 (0, 0)) (by (with_reducible repeat (first | refine blk_drewN ?_ _ | refine blk_drew ?_ | refine blk_alloc ?_ _)); exact BK205.out) hb); have n1_ := Aside0.mk (blk_below (g := gb206) (o := .cells #[.int .i64 t200, .int .i64 t201, .int .i64 t202, .int .i64 t203] 26 (0, 0)) (by (with_reducible repeat (first | refine blk_drewN ?_ _ | refine blk_drew ?_ | refine blk_alloc ?_ _)); exact BK206.out) hb); have n2_ := Aside0.mk (below_step (by repeat (first | (with_reducible first | exact HB.out | apply below_alloc | apply pw_below_drewN | apply below_drew1 | refine below_set ?_ GE205.out | refine below_set ?_ GE206.out) | exact HB.out)) hb); clear BK205; clear BK206; clear HB; have BK205 := n0_; have BK206 := n1_; have HB := n2_; clear n0_ n1_ n2_; (try clear hb); (try clear hb2); (try clear hk); (try clear hi)))
                                go_ret
                                exact ⟨by first | rfl | (simp [errW_none, errW_some] <;> rfl) | (simp [*, errW_none, errW_some] <;> rfl), by repeat (first | (with_reducible first | exact HB.out | apply below_alloc | apply pw_below_drewN | apply below_drew1 | refine below_set ?_ GE205.out | refine below_set ?_ GE206.out) | exact HB.out)⟩
                              · rw [if_neg c107] at H
                                have c107b0 : (x15_2 == x17_57) = false := beq_eq_false_iff_ne.mpr c107
                                have c107b1 : (x15_2 != x17_57) = true := bne_iff_ne.mpr c107
                                obtain rfl := Option.some.inj H
                                have hnb119 := NB205_206.out
                                have hnc119 := NB206_205.out
                                have hcz120_0 : wc.cell? ⟨gb205, 0, none⟩ = some (.int .i64 t195) := (blk_cell BK205.out 0).trans rfl
                                have hcz120_1 : wc.cell? ⟨gb205, 1, none⟩ = some (.int .i64 t196) := (blk_cell BK205.out 1).trans rfl
                                have hcz120_2 : wc.cell? ⟨gb205, 2, none⟩ = some (.int .i64 t197) := (blk_cell BK205.out 2).trans rfl
                                have hcz120_3 : wc.cell? ⟨gb205, 3, none⟩ = some (.int .i64 t198) := (blk_cell BK205.out 3).trans rfl
                                have hfz120_0 := blk_frozen BK205.out 0
                                have hfz120_1 := blk_frozen BK205.out 1
                                have hfz120_2 := blk_frozen BK205.out 2
                                have hfz120_3 := blk_frozen BK205.out 3
                                have hcz121_0 : wc.cell? ⟨gb206, 0, none⟩ = some (.int .i64 t200) := (blk_cell BK206.out 0).trans rfl
                                have hcz121_1 : wc.cell? ⟨gb206, 1, none⟩ = some (.int .i64 t201) := (blk_cell BK206.out 1).trans rfl
                                have hcz121_2 : wc.cell? ⟨gb206, 2, none⟩ = some (.int .i64 t202) := (blk_cell BK206.out 2).trans rfl
                                have hcz121_3 : wc.cell? ⟨gb206, 3, none⟩ = some (.int .i64 t203) := (blk_cell BK206.out 3).trans rfl
                                have hfz121_0 := blk_frozen BK206.out 0
                                have hfz121_1 := blk_frozen BK206.out 1
                                have hfz121_2 := blk_frozen BK206.out 2
                                have hfz121_3 := blk_frozen BK206.out 3
                                go_wp2_with (first | ((with_reducible refine gate_callee (f := 13) rfl ?_); refine goesL_ (some 72) rfl rfl Try.func13 (by kernel_rfl) rfl #[.agg #[.int .i64 t195, .int .i64 t196, .int .i64 t197, .int .i64 t198], .agg #[.int .i64 t200, .int .i64 t201, .int .i64 t202, .int .i64 t203]] rfl (by (try simp only [List.map_toArray, List.map_cons, List.map_nil]); first | done | rfl | (simp only [List.length_drop, List.length_take]; rfl)) ?_; (with_reducible refine (rect_Intersect.calls kj57 t195 t196 t197 t198 t200 t201 t202 t203 t219 t220 t221 t222 _ A60.out).mono ?_); rintro e w122 ⟨rfl, hb⟩; refine ⟨_, rfl, ?_⟩; have n0_ := Aside0.mk (blk_below (g := gb205) (o := .cells #[.int .i64 t195, .int .i64 t196, .int .i64 t197, .int .i64 t198] 26 (0, 0)) (by (with_reducible repeat (first | refine blk_drewN ?_ _ | refine blk_drew ?_ | refine blk_alloc ?_ _)); exact BK205.out) hb); have n1_ := Aside0.mk (blk_below (g := gb206) (o := .cells #[.int .i64 t200, .int .i64 t201, .int .i64 t202, .int .i64 t203] 26 (0, 0)) (by (with_reducible repeat (first | refine blk_drewN ?_ _ | refine blk_drew ?_ | refine blk_alloc ?_ _)); exact BK206.out) hb); have n2_ := Aside0.mk (below_step (by repeat (first | (with_reducible first | exact HB.out | apply below_alloc | apply pw_below_drewN | apply below_drew1 | refine below_set ?_ GE205.out | refine below_set ?_ GE206.out) | exact HB.out)) hb); clear BK205; clear BK206; clear HB; have BK205 := n0_; have BK206 := n1_; have HB := n2_; clear n0_ n1_ n2_; (try clear hb); (try clear hb2); (try clear hk); (try clear hi)) | ((with_reducible refine gate_callee (f := 16) rfl ?_); refine goesL_ (some 75) rfl rfl Try.func16 (by kernel_rfl) rfl #[.agg #[.int .i64 t219, .int .i64 t220, .int .i64 t221, .int .i64 t222], .int .i64 (wrap64 (t210 - 4)), .int .i64 (wrap64 (t211 - 4))] rfl (by (try simp only [List.map_toArray, List.map_cons, List.map_nil]); first | done | rfl | (simp only [List.length_drop, List.length_take]; rfl)) ?_; (with_reducible refine (rect_Contains.calls t219 t220 t221 t222 (wrap64 (t210 - 4)) (wrap64 (t211 - 4)) t223 _ A61.out).mono ?_); rintro e w123 ⟨rfl, hb⟩; refine ⟨_, rfl, ?_⟩; have n0_ := Aside0.mk (blk_below (g := gb205) (o := .cells #[.int .i64 t195, .int .i64 t196, .int .i64 t197, .int .i64 t198] 26 (0, 0)) (by (with_reducible repeat (first | refine blk_drewN ?_ _ | refine blk_drew ?_ | refine blk_alloc ?_ _)); exact BK205.out) hb); have n1_ := Aside0.mk (blk_below (g := gb206) (o := .cells #[.int .i64 t200, .int .i64 t201, .int .i64 t202, .int .i64 t203] 26 (0, 0)) (by (with_reducible repeat (first | refine blk_drewN ?_ _ | refine blk_drew ?_ | refine blk_alloc ?_ _)); exact BK206.out) hb); have n2_ := Aside0.mk (below_step (by repeat (first | (with_reducible first | exact HB.out | apply below_alloc | apply pw_below_drewN | apply below_drew1 | refine below_set ?_ GE205.out | refine below_set ?_ GE206.out) | exact HB.out)) hb); clear BK205; clear BK206; clear HB; have BK205 := n0_; have BK206 := n1_; have HB := n2_; clear n0_ n1_ n2_; (try clear hb); (try clear hb2); (try clear hk); (try clear hi); have hcz124_0 : w123.cell? ⟨gb205, 0, none⟩ = some (.int .i64 t195) := (blk_cell BK205.out 0).trans rfl; have hcz124_1 : w123.cell? ⟨gb205, 1, none⟩ = some (.int .i64 t196) := (blk_cell BK205.out 1).trans rfl; have hcz124_2 : w123.cell? ⟨gb205, 2, none⟩ = some (.int .i64 t197) := (blk_cell BK205.out 2).trans rfl; have hcz124_3 : w123.cell? ⟨gb205, 3, none⟩ = some (.int .i64 t198) := (blk_cell BK205.out 3).trans rfl; have hfz124_0 := blk_frozen BK205.out 0; have hfz124_1 := blk_frozen BK205.out 1; have hfz124_2 := blk_frozen BK205.out 2; have hfz124_3 := blk_frozen BK205.out 3; have hcz125_0 : w123.cell? ⟨gb206, 0, none⟩ = some (.int .i64 t200) := (blk_cell BK206.out 0).trans rfl; have hcz125_1 : w123.cell? ⟨gb206, 1, none⟩ = some (.int .i64 t201) := (blk_cell BK206.out 1).trans rfl; have hcz125_2 : w123.cell? ⟨gb206, 2, none⟩ = some (.int .i64 t202) := (blk_cell BK206.out 2).trans rfl; have hcz125_3 : w123.cell? ⟨gb206, 3, none⟩ = some (.int .i64 t203) := (blk_cell BK206.out 3).trans rfl; have hfz125_0 := blk_frozen BK206.out 0; have hfz125_1 := blk_frozen BK206.out 1; have hfz125_2 := blk_frozen BK206.out 2; have hfz125_3 := blk_frozen BK206.out 3) | (go_at_call 17; (with_reducible refine (rect_Hull.calls kj57 t195 t196 t197 t198 t200 t201 t202 t203 t230 t231 t232 t233 _ A104.out).mono ?_); rintro e w126 ⟨rfl, hb⟩; have n0_ := Aside0.mk (blk_below (g := gb205) (o := .cells #[.int .i64 t195, .int .i64 t196, .int .i64 t197, .int .i64 t198] 26 (0, 0)) (by (with_reducible repeat (first | refine blk_drewN ?_ _ | refine blk_drew ?_ | refine blk_alloc ?_ _)); exact BK205.out) hb); have n1_ := Aside0.mk (blk_below (g := gb206) (o := .cells #[.int .i64 t200, .int .i64 t201, .int .i64 t202, .int .i64 t203] 26 (0, 0)) (by (with_reducible repeat (first | refine blk_drewN ?_ _ | refine blk_drew ?_ | refine blk_alloc ?_ _)); exact BK206.out) hb); have n2_ := Aside0.mk (below_step (by repeat (first | (with_reducible first | exact HB.out | apply below_alloc | apply pw_below_drewN | apply below_drew1 | refine below_set ?_ GE205.out | refine below_set ?_ GE206.out) | exact HB.out)) hb); clear BK205; clear BK206; clear HB; have BK205 := n0_; have BK206 := n1_; have HB := n2_; clear n0_ n1_ n2_; (try clear hb); (try clear hb2); (try clear hk); (try clear hi)) | (go_at_call 16; (with_reducible refine (rect_Contains.calls t230 t231 t232 t233 (wrap64 (t210 - 4)) (wrap64 (t211 - 4)) true _ A105.out).mono ?_); rintro e w127 ⟨rfl, hb⟩; have n0_ := Aside0.mk (blk_below (g := gb205) (o := .cells #[.int .i64 t195, .int .i64 t196, .int .i64 t197, .int .i64 t198] 26 (0, 0)) (by (with_reducible repeat (first | refine blk_drewN ?_ _ | refine blk_drew ?_ | refine blk_alloc ?_ _)); exact BK205.out) hb); have n1_ := Aside0.mk (blk_below (g := gb206) (o := .cells #[.int .i64 t200, .int .i64 t201, .int .i64 t202, .int .i64 t203] 26 (0, 0)) (by (with_reducible repeat (first | refine blk_drewN ?_ _ | refine blk_drew ?_ | refine blk_alloc ?_ _)); exact BK206.out) hb); have n2_ := Aside0.mk (below_step (by repeat (first | (with_reducible first | exact HB.out | apply below_alloc | apply pw_below_drewN | apply below_drew1 | refine below_set ?_ GE205.out | refine below_set ?_ GE206.out) | exact HB.out)) hb); clear BK205; clear BK206; clear HB; have BK205 := n0_; have BK206 := n1_; have HB := n2_; clear n0_ n1_ n2_; (try clear hb); (try clear hb2); (try clear hk); (try clear hi)))
                                go_ret
                                exact ⟨by first | rfl | (simp [errW_none, errW_some] <;> rfl) | (simp [*, errW_none, errW_some] <;> rfl), by repeat (first | (with_reducible first | exact HB.out | apply below_alloc | apply pw_below_drewN | apply below_drew1 | refine below_set ?_ GE205.out | refine below_set ?_ GE206.out) | exact HB.out)⟩
                            · replace c106 := Bool.eq_false_iff.mpr c106
                              subst c106
                              have H1 : (some false) = some r := by rw [if_neg (show ¬ (false = true) by decide)] at H; exact H
                              clear H
                              have H := H1
                              clear H1
                              obtain rfl := Option.some.inj H
                              have hnb128 := NB205_206.out
                              have hnc128 := NB206_205.out
                              have hcz129_0 : wc.cell? ⟨gb205, 0, none⟩ = some (.int .i64 t195) := (blk_cell BK205.out 0).trans rfl
                              have hcz129_1 : wc.cell? ⟨gb205, 1, none⟩ = some (.int .i64 t196) := (blk_cell BK205.out 1).trans rfl
                              have hcz129_2 : wc.cell? ⟨gb205, 2, none⟩ = some (.int .i64 t197) := (blk_cell BK205.out 2).trans rfl
                              have hcz129_3 : wc.cell? ⟨gb205, 3, none⟩ = some (.int .i64 t198) := (blk_cell BK205.out 3).trans rfl
                              have hfz129_0 := blk_frozen BK205.out 0
                              have hfz129_1 := blk_frozen BK205.out 1
                              have hfz129_2 := blk_frozen BK205.out 2
                              have hfz129_3 := blk_frozen BK205.out 3
                              have hcz130_0 : wc.cell? ⟨gb206, 0, none⟩ = some (.int .i64 t200) := (blk_cell BK206.out 0).trans rfl
                              have hcz130_1 : wc.cell? ⟨gb206, 1, none⟩ = some (.int .i64 t201) := (blk_cell BK206.out 1).trans rfl
                              have hcz130_2 : wc.cell? ⟨gb206, 2, none⟩ = some (.int .i64 t202) := (blk_cell BK206.out 2).trans rfl
                              have hcz130_3 : wc.cell? ⟨gb206, 3, none⟩ = some (.int .i64 t203) := (blk_cell BK206.out 3).trans rfl
                              have hfz130_0 := blk_frozen BK206.out 0
                              have hfz130_1 := blk_frozen BK206.out 1
                              have hfz130_2 := blk_frozen BK206.out 2
                              have hfz130_3 := blk_frozen BK206.out 3
                              go_wp2_with (first | ((with_reducible refine gate_callee (f := 13) rfl ?_); refine goesL_ (some 72) rfl rfl Try.func13 (by kernel_rfl) rfl #[.agg #[.int .i64 t195, .int .i64 t196, .int .i64 t197, .int .i64 t198], .agg #[.int .i64 t200, .int .i64 t201, .int .i64 t202, .int .i64 t203]] rfl (by (try simp only [List.map_toArray, List.map_cons, List.map_nil]); first | done | rfl | (simp only [List.length_drop, List.length_take]; rfl)) ?_; (with_reducible refine (rect_Intersect.calls kj57 t195 t196 t197 t198 t200 t201 t202 t203 t219 t220 t221 t222 _ A60.out).mono ?_); rintro e w131 ⟨rfl, hb⟩; refine ⟨_, rfl, ?_⟩; have n0_ := Aside0.mk (blk_below (g := gb205) (o := .cells #[.int .i64 t195, .int .i64 t196, .int .i64 t197, .int .i64 t198] 26 (0, 0)) (by (with_reducible repeat (first | refine blk_drewN ?_ _ | refine blk_drew ?_ | refine blk_alloc ?_ _)); exact BK205.out) hb); have n1_ := Aside0.mk (blk_below (g := gb206) (o := .cells #[.int .i64 t200, .int .i64 t201, .int .i64 t202, .int .i64 t203] 26 (0, 0)) (by (with_reducible repeat (first | refine blk_drewN ?_ _ | refine blk_drew ?_ | refine blk_alloc ?_ _)); exact BK206.out) hb); have n2_ := Aside0.mk (below_step (by repeat (first | (with_reducible first | exact HB.out | apply below_alloc | apply pw_below_drewN | apply below_drew1 | refine below_set ?_ GE205.out | refine below_set ?_ GE206.out) | exact HB.out)) hb); clear BK205; clear BK206; clear HB; have BK205 := n0_; have BK206 := n1_; have HB := n2_; clear n0_ n1_ n2_; (try clear hb); (try clear hb2); (try clear hk); (try clear hi)) | ((with_reducible refine gate_callee (f := 16) rfl ?_); refine goesL_ (some 75) rfl rfl Try.func16 (by kernel_rfl) rfl #[.agg #[.int .i64 t219, .int .i64 t220, .int .i64 t221, .int .i64 t222], .int .i64 (wrap64 (t210 - 4)), .int .i64 (wrap64 (t211 - 4))] rfl (by (try simp only [List.map_toArray, List.map_cons, List.map_nil]); first | done | rfl | (simp only [List.length_drop, List.length_take]; rfl)) ?_; (with_reducible refine (rect_Contains.calls t219 t220 t221 t222 (wrap64 (t210 - 4)) (wrap64 (t211 - 4)) t223 _ A61.out).mono ?_); rintro e w132 ⟨rfl, hb⟩; refine ⟨_, rfl, ?_⟩; have n0_ := Aside0.mk (blk_below (g := gb205) (o := .cells #[.int .i64 t195, .int .i64 t196, .int .i64 t197, .int .i64 t198] 26 (0, 0)) (by (with_reducible repeat (first | refine blk_drewN ?_ _ | refine blk_drew ?_ | refine blk_alloc ?_ _)); exact BK205.out) hb); have n1_ := Aside0.mk (blk_below (g := gb206) (o := .cells #[.int .i64 t200, .int .i64 t201, .int .i64 t202, .int .i64 t203] 26 (0, 0)) (by (with_reducible repeat (first | refine blk_drewN ?_ _ | refine blk_drew ?_ | refine blk_alloc ?_ _)); exact BK206.out) hb); have n2_ := Aside0.mk (below_step (by repeat (first | (with_reducible first | exact HB.out | apply below_alloc | apply pw_below_drewN | apply below_drew1 | refine below_set ?_ GE205.out | refine below_set ?_ GE206.out) | exact HB.out)) hb); clear BK205; clear BK206; clear HB; have BK205 := n0_; have BK206 := n1_; have HB := n2_; clear n0_ n1_ n2_; (try clear hb); (try clear hb2); (try clear hk); (try clear hi); have hcz133_0 : w132.cell? ⟨gb205, 0, none⟩ = some (.int .i64 t195) := (blk_cell BK205.out 0).trans rfl; have hcz133_1 : w132.cell? ⟨gb205, 1, none⟩ = some (.int .i64 t196) := (blk_cell BK205.out 1).trans rfl; have hcz133_2 : w132.cell? ⟨gb205, 2, none⟩ = some (.int .i64 t197) := (blk_cell BK205.out 2).trans rfl; have hcz133_3 : w132.cell? ⟨gb205, 3, none⟩ = some (.int .i64 t198) := (blk_cell BK205.out 3).trans rfl; have hfz133_0 := blk_frozen BK205.out 0; have hfz133_1 := blk_frozen BK205.out 1; have hfz133_2 := blk_frozen BK205.out 2; have hfz133_3 := blk_frozen BK205.out 3; have hcz134_0 : w132.cell? ⟨gb206, 0, none⟩ = some (.int .i64 t200) := (blk_cell BK206.out 0).trans rfl; have hcz134_1 : w132.cell? ⟨gb206, 1, none⟩ = some (.int .i64 t201) := (blk_cell BK206.out 1).trans rfl; have hcz134_2 : w132.cell? ⟨gb206, 2, none⟩ = some (.int .i64 t202) := (blk_cell BK206.out 2).trans rfl; have hcz134_3 : w132.cell? ⟨gb206, 3, none⟩ = some (.int .i64 t203) := (blk_cell BK206.out 3).trans rfl; have hfz134_0 := blk_frozen BK206.out 0; have hfz134_1 := blk_frozen BK206.out 1; have hfz134_2 := blk_frozen BK206.out 2; have hfz134_3 := blk_frozen BK206.out 3) | (go_at_call 17; (with_reducible refine (rect_Hull.calls kj57 t195 t196 t197 t198 t200 t201 t202 t203 t230 t231 t232 t233 _ A104.out).mono ?_); rintro e w135 ⟨rfl, hb⟩; have n0_ := Aside0.mk (blk_below (g := gb205) (o := .cells #[.int .i64 t195, .int .i64 t196, .int .i64 t197, .int .i64 t198] 26 (0, 0)) (by (with_reducible repeat (first | refine blk_drewN ?_ _ | refine blk_drew ?_ | refine blk_alloc ?_ _)); exact BK205.out) hb); have n1_ := Aside0.mk (blk_below (g := gb206) (o := .cells #[.int .i64 t200, .int .i64 t201, .int .i64 t202, .int .i64 t203] 26 (0, 0)) (by (with_reducible repeat (first | refine blk_drewN ?_ _ | refine blk_drew ?_ | refine blk_alloc ?_ _)); exact BK206.out) hb); have n2_ := Aside0.mk (below_step (by repeat (first | (with_reducible first | exact HB.out | apply below_alloc | apply pw_below_drewN | apply below_drew1 | refine below_set ?_ GE205.out | refine below_set ?_ GE206.out) | exact HB.out)) hb); clear BK205; clear BK206; clear HB; have BK205 := n0_; have BK206 := n1_; have HB := n2_; clear n0_ n1_ n2_; (try clear hb); (try clear hb2); (try clear hk); (try clear hi)) | (go_at_call 16; (with_reducible refine (rect_Contains.calls t230 t231 t232 t233 (wrap64 (t210 - 4)) (wrap64 (t211 - 4)) false _ A105.out).mono ?_); rintro e w136 ⟨rfl, hb⟩; have n0_ := Aside0.mk (blk_below (g := gb205) (o := .cells #[.int .i64 t195, .int .i64 t196, .int .i64 t197, .int .i64 t198] 26 (0, 0)) (by (with_reducible repeat (first | refine blk_drewN ?_ _ | refine blk_drew ?_ | refine blk_alloc ?_ _)); exact BK205.out) hb); have n1_ := Aside0.mk (blk_below (g := gb206) (o := .cells #[.int .i64 t200, .int .i64 t201, .int .i64 t202, .int .i64 t203] 26 (0, 0)) (by (with_reducible repeat (first | refine blk_drewN ?_ _ | refine blk_drew ?_ | refine blk_alloc ?_ _)); exact BK206.out) hb); have n2_ := Aside0.mk (below_step (by repeat (first | (with_reducible first | exact HB.out | apply below_alloc | apply pw_below_drewN | apply below_drew1 | refine below_set ?_ GE205.out | refine below_set ?_ GE206.out) | exact HB.out)) hb); clear BK205; clear BK206; clear HB; have BK205 := n0_; have BK206 := n1_; have HB := n2_; clear n0_ n1_ n2_; (try clear hb); (try clear hb2); (try clear hk); (try clear hi)))
                              go_ret
                              exact ⟨by first | rfl | (simp [errW_none, errW_some] <;> rfl) | (simp [*, errW_none, errW_some] <;> rfl), by repeat (first | (with_reducible first | exact HB.out | apply below_alloc | apply pw_below_drewN | apply below_drew1 | refine below_set ?_ GE205.out | refine below_set ?_ GE206.out) | exact HB.out)⟩
                          · replace c103 := Bool.eq_false_iff.mpr c103
                            subst c103
                            have H1 : (if x15_2 = x17_57 then ((tilefarmlaw2_sane.f kj57).bind fun t236 => (some t236)) else (some false)) = some r := by rw [if_neg (show ¬ (false = true) by decide)] at H; exact H
                            clear H
                            have H := H1
                            clear H1
                            by_cases c137 : x15_2 = x17_57
                            · rw [if_pos c137] at H
                              have c137b0 : (x15_2 == x17_57) = true := beq_iff_eq.mpr c137
                              have c137b1 : (x15_2 != x17_57) = false := bne_eq_false_iff_eq.mpr c137
                              clear c137
                              replace H := Option.bind_eq_some_iff.mp H
                              obtain ⟨t236, A1380, H⟩ := H
                              replace H : (some t236) = some r := H
                              have A138 := Aside0.mk A1380
                              clear A1380
                              obtain rfl := Option.some.inj H
                              have hnb139 := NB205_206.out
                              have hnc139 := NB206_205.out
                              have hcz140_0 : wc.cell? ⟨gb205, 0, none⟩ = some (.int .i64 t195) := (blk_cell BK205.out 0).trans rfl
                              have hcz140_1 : wc.cell? ⟨gb205, 1, none⟩ = some (.int .i64 t196) := (blk_cell BK205.out 1).trans rfl
                              have hcz140_2 : wc.cell? ⟨gb205, 2, none⟩ = some (.int .i64 t197) := (blk_cell BK205.out 2).trans rfl
                              have hcz140_3 : wc.cell? ⟨gb205, 3, none⟩ = some (.int .i64 t198) := (blk_cell BK205.out 3).trans rfl
                              have hfz140_0 := blk_frozen BK205.out 0
                              have hfz140_1 := blk_frozen BK205.out 1
                              have hfz140_2 := blk_frozen BK205.out 2
                              have hfz140_3 := blk_frozen BK205.out 3
                              have hcz141_0 : wc.cell? ⟨gb206, 0, none⟩ = some (.int .i64 t200) := (blk_cell BK206.out 0).trans rfl
                              have hcz141_1 : wc.cell? ⟨gb206, 1, none⟩ = some (.int .i64 t201) := (blk_cell BK206.out 1).trans rfl
                              have hcz141_2 : wc.cell? ⟨gb206, 2, none⟩ = some (.int .i64 t202) := (blk_cell BK206.out 2).trans rfl
                              have hcz141_3 : wc.cell? ⟨gb206, 3, none⟩ = some (.int .i64 t203) := (blk_cell BK206.out 3).trans rfl
                              have hfz141_0 := blk_frozen BK206.out 0
                              have hfz141_1 := blk_frozen BK206.out 1
                              have hfz141_2 := blk_frozen BK206.out 2
                              have hfz141_3 := blk_frozen BK206.out 3
                              go_wp2_with (first | ((with_reducible refine gate_callee (f := 13) rfl ?_); refine goesL_ (some 72) rfl rfl Try.func13 (by kernel_rfl) rfl #[.agg #[.int .i64 t195, .int .i64 t196, .int .i64 t197, .int .i64 t198], .agg #[.int .i64 t200, .int .i64 t201, .int .i64 t202, .int .i64 t203]] rfl (by (try simp only [List.map_toArray, List.map_cons, List.map_nil]); first | done | rfl | (simp only [List.length_drop, List.length_take]; rfl)) ?_; (with_reducible refine (rect_Intersect.calls kj57 t195 t196 t197 t198 t200 t201 t202 t203 t219 t220 t221 t222 _ A60.out).mono ?_); rintro e w142 ⟨rfl, hb⟩; refine ⟨_, rfl, ?_⟩; have n0_ := Aside0.mk (blk_below (g := gb205) (o := .cells #[.int .i64 t195, .int .i64 t196, .int .i64 t197, .int .i64 t198] 26 (0, 0)) (by (with_reducible repeat (first | refine blk_drewN ?_ _ | refine blk_drew ?_ | refine blk_alloc ?_ _)); exact BK205.out) hb); have n1_ := Aside0.mk (blk_below (g := gb206) (o := .cells #[.int .i64 t200, .int .i64 t201, .int .i64 t202, .int .i64 t203] 26 (0, 0)) (by (with_reducible repeat (first | refine blk_drewN ?_ _ | refine blk_drew ?_ | refine blk_alloc ?_ _)); exact BK206.out) hb); have n2_ := Aside0.mk (below_step (by repeat (first | (with_reducible first | exact HB.out | apply below_alloc | apply pw_below_drewN | apply below_drew1 | refine below_set ?_ GE205.out | refine below_set ?_ GE206.out) | exact HB.out)) hb); clear BK205; clear BK206; clear HB; have BK205 := n0_; have BK206 := n1_; have HB := n2_; clear n0_ n1_ n2_; (try clear hb); (try clear hb2); (try clear hk); (try clear hi)) | ((with_reducible refine gate_callee (f := 16) rfl ?_); refine goesL_ (some 75) rfl rfl Try.func16 (by kernel_rfl) rfl #[.agg #[.int .i64 t219, .int .i64 t220, .int .i64 t221, .int .i64 t222], .int .i64 (wrap64 (t210 - 4)), .int .i64 (wrap64 (t211 - 4))] rfl (by (try simp only [List.map_toArray, List.map_cons, List.map_nil]); first | done | rfl | (simp only [List.length_drop, List.length_take]; rfl)) ?_; (with_reducible refine (rect_Contains.calls t219 t220 t221 t222 (wrap64 (t210 - 4)) (wrap64 (t211 - 4)) t223 _ A61.out).mono ?_); rintro e w143 ⟨rfl, hb⟩; refine ⟨_, rfl, ?_⟩; have n0_ := Aside0.mk (blk_below (g := gb205) (o := .cells #[.int .i64 t195, .int .i64 t196, .int .i64 t197, .int .i64 t198] 26 (0, 0)) (by (with_reducible repeat (first | refine blk_drewN ?_ _ | refine blk_drew ?_ | refine blk_alloc ?_ _)); exact BK205.out) hb); have n1_ := Aside0.mk (blk_below (g := gb206) (o := .cells #[.int .i64 t200, .int .i64 t201, .int .i64 t202, .int .i64 t203] 26 (0, 0)) (by (with_reducible repeat (first | refine blk_drewN ?_ _ | refine blk_drew ?_ | refine blk_alloc ?_ _)); exact BK206.out) hb); have n2_ := Aside0.mk (below_step (by repeat (first | (with_reducible first | exact HB.out | apply below_alloc | apply pw_below_drewN | apply below_drew1 | refine below_set ?_ GE205.out | refine below_set ?_ GE206.out) | exact HB.out)) hb); clear BK205; clear BK206; clear HB; have BK205 := n0_; have BK206 := n1_; have HB := n2_; clear n0_ n1_ n2_; (try clear hb); (try clear hb2); (try clear hk); (try clear hi)) | (go_at_call 10; (with_reducible refine (tilefarmlaw2_sane.calls kj57  t236 _ A138.out).mono ?_); rintro e w144 ⟨rfl, hb⟩; have n0_ := Aside0.mk (blk_below (g := gb205) (o := .cells #[.int .i64 t195, .int .i64 t196, .int .i64 t197, .int .i64 t198] 26 (0, 0)) (by (with_reducible repeat (first | refine blk_drewN ?_ _ | refine blk_drew ?_ | refine blk_alloc ?_ _)); exact BK205.out) hb); have n1_ := Aside0.mk (blk_below (g := gb206) (o := .cells #[.int .i64 t200, .int .i64 t201, .int .i64 t202, .int .i64 t203] 26 (0, 0)) (by (with_reducible repeat (first | refine blk_drewN ?_ _ | refine blk_drew ?_ | refine blk_alloc ?_ _)); exact BK206.out) hb); have n2_ := Aside0.mk (below_step (by repeat (first | (with_reducible first | exact HB.out | apply below_alloc | apply pw_below_drewN | apply below_drew1 | refine below_set ?_ GE205.out | refine below_set ?_ GE206.out) | exact HB.out)) hb); clear BK205; clear BK206; clear HB; have BK205 := n0_; have BK206 := n1_; have HB := n2_; clear n0_ n1_ n2_; (try clear hb); (try clear hb2); (try clear hk); (try clear hi)))
                              go_ret
                              exact ⟨by first | rfl | (simp [errW_none, errW_some] <;> rfl) | (simp [*, errW_none, errW_some] <;> rfl), by repeat (first | (with_reducible first | exact HB.out | apply below_alloc | apply pw_below_drewN | apply below_drew1 | refine below_set ?_ GE205.out | refine below_set ?_ GE206.out) | exact HB.out)⟩
                            · rw [if_neg c137] at H
                              have c137b0 : (x15_2 == x17_57) = false := beq_eq_false_iff_ne.mpr c137
                              have c137b1 : (x15_2 != x17_57) = true := bne_iff_ne.mpr c137
                              obtain rfl := Option.some.inj H
                              have hnb145 := NB205_206.out
                              have hnc145 := NB206_205.out
                              have hcz146_0 : wc.cell? ⟨gb205, 0, none⟩ = some (.int .i64 t195) := (blk_cell BK205.out 0).trans rfl
                              have hcz146_1 : wc.cell? ⟨gb205, 1, none⟩ = some (.int .i64 t196) := (blk_cell BK205.out 1).trans rfl
                              have hcz146_2 : wc.cell? ⟨gb205, 2, none⟩ = some (.int .i64 t197) := (blk_cell BK205.out 2).trans rfl
                              have hcz146_3 : wc.cell? ⟨gb205, 3, none⟩ = some (.int .i64 t198) := (blk_cell BK205.out 3).trans rfl
                              have hfz146_0 := blk_frozen BK205.out 0
                              have hfz146_1 := blk_frozen BK205.out 1
                              have hfz146_2 := blk_frozen BK205.out 2
                              have hfz146_3 := blk_frozen BK205.out 3
                              have hcz147_0 : wc.cell? ⟨gb206, 0, none⟩ = some (.int .i64 t200) := (blk_cell BK206.out 0).trans rfl
                              have hcz147_1 : wc.cell? ⟨gb206, 1, none⟩ = some (.int .i64 t201) := (blk_cell BK206.out 1).trans rfl
                              have hcz147_2 : wc.cell? ⟨gb206, 2, none⟩ = some (.int .i64 t202) := (blk_cell BK206.out 2).trans rfl
                              have hcz147_3 : wc.cell? ⟨gb206, 3, none⟩ = some (.int .i64 t203) := (blk_cell BK206.out 3).trans rfl
                              have hfz147_0 := blk_frozen BK206.out 0
                              have hfz147_1 := blk_frozen BK206.out 1
                              have hfz147_2 := blk_frozen BK206.out 2
                              have hfz147_3 := blk_frozen BK206.out 3
                              go_wp2_with (first | ((with_reducible refine gate_callee (f := 13) rfl ?_); refine goesL_ (some 72) rfl rfl Try.func13 (by kernel_rfl) rfl #[.agg #[.int .i64 t195, .int .i64 t196, .int .i64 t197, .int .i64 t198], .agg #[.int .i64 t200, .int .i64 t201, .int .i64 t202, .int .i64 t203]] rfl (by (try simp only [List.map_toArray, List.map_cons, List.map_nil]); first | done | rfl | (simp only [List.length_drop, List.length_take]; rfl)) ?_; (with_reducible refine (rect_Intersect.calls kj57 t195 t196 t197 t198 t200 t201 t202 t203 t219 t220 t221 t222 _ A60.out).mono ?_); rintro e w148 ⟨rfl, hb⟩; refine ⟨_, rfl, ?_⟩; have n0_ := Aside0.mk (blk_below (g := gb205) (o := .cells #[.int .i64 t195, .int .i64 t196, .int .i64 t197, .int .i64 t198] 26 (0, 0)) (by (with_reducible repeat (first | refine blk_drewN ?_ _ | refine blk_drew ?_ | refine blk_alloc ?_ _)); exact BK205.out) hb); have n1_ := Aside0.mk (blk_below (g := gb206) (o := .cells #[.int .i64 t200, .int .i64 t201, .int .i64 t202, .int .i64 t203] 26 (0, 0)) (by (with_reducible repeat (first | refine blk_drewN ?_ _ | refine blk_drew ?_ | refine blk_alloc ?_ _)); exact BK206.out) hb); have n2_ := Aside0.mk (below_step (by repeat (first | (with_reducible first | exact HB.out | apply below_alloc | apply pw_below_drewN | apply below_drew1 | refine below_set ?_ GE205.out | refine below_set ?_ GE206.out) | exact HB.out)) hb); clear BK205; clear BK206; clear HB; have BK205 := n0_; have BK206 := n1_; have HB := n2_; clear n0_ n1_ n2_; (try clear hb); (try clear hb2); (try clear hk); (try clear hi)) | ((with_reducible refine gate_callee (f := 16) rfl ?_); refine goesL_ (some 75) rfl rfl Try.func16 (by kernel_rfl) rfl #[.agg #[.int .i64 t219, .int .i64 t220, .int .i64 t221, .int .i64 t222], .int .i64 (wrap64 (t210 - 4)), .int .i64 (wrap64 (t211 - 4))] rfl (by (try simp only [List.map_toArray, List.map_cons, List.map_nil]); first | done | rfl | (simp only [List.length_drop, List.length_take]; rfl)) ?_; (with_reducible refine (rect_Contains.calls t219 t220 t221 t222 (wrap64 (t210 - 4)) (wrap64 (t211 - 4)) t223 _ A61.out).mono ?_); rintro e w149 ⟨rfl, hb⟩; refine ⟨_, rfl, ?_⟩; have n0_ := Aside0.mk (blk_below (g := gb205) (o := .cells #[.int .i64 t195, .int .i64 t196, .int .i64 t197, .int .i64 t198] 26 (0, 0)) (by (with_reducible repeat (first | refine blk_drewN ?_ _ | refine blk_drew ?_ | refine blk_alloc ?_ _)); exact BK205.out) hb); have n1_ := Aside0.mk (blk_below (g := gb206) (o := .cells #[.int .i64 t200, .int .i64 t201, .int .i64 t202, .int .i64 t203] 26 (0, 0)) (by (with_reducible repeat (first | refine blk_drewN ?_ _ | refine blk_drew ?_ | refine blk_alloc ?_ _)); exact BK206.out) hb); have n2_ := Aside0.mk (below_step (by repeat (first | (with_reducible first | exact HB.out | apply below_alloc | apply pw_below_drewN | apply below_drew1 | refine below_set ?_ GE205.out | refine below_set ?_ GE206.out) | exact HB.out)) hb); clear BK205; clear BK206; clear HB; have BK205 := n0_; have BK206 := n1_; have HB := n2_; clear n0_ n1_ n2_; (try clear hb); (try clear hb2); (try clear hk); (try clear hi)))
                              go_ret
                              exact ⟨by first | rfl | (simp [errW_none, errW_some] <;> rfl) | (simp [*, errW_none, errW_some] <;> rfl), by repeat (first | (with_reducible first | exact HB.out | apply below_alloc | apply pw_below_drewN | apply below_drew1 | refine below_set ?_ GE205.out | refine below_set ?_ GE206.out) | exact HB.out)⟩
                        · rw [if_neg c102] at H
                          have c102b0 : (t223 == false) = false := by simpa using c102
                          (try (have c102b1 : decide (t223 = false) = false := by simpa using c102))
                          (try (have c102b2 : (t223 == false) = false := by simpa using c102))
                          (try (have c102b3 : ¬ (t223 = false) := by simpa using c102))
                          clear c102
                          obtain rfl := Option.some.inj H
                          have hnb150 := NB205_206.out
                          have hnc150 := NB206_205.out
                          have hcz151_0 : wc.cell? ⟨gb205, 0, none⟩ = some (.int .i64 t195) := (blk_cell BK205.out 0).trans rfl
                          have hcz151_1 : wc.cell? ⟨gb205, 1, none⟩ = some (.int .i64 t196) := (blk_cell BK205.out 1).trans rfl
                          have hcz151_2 : wc.cell? ⟨gb205, 2, none⟩ = some (.int .i64 t197) := (blk_cell BK205.out 2).trans rfl
                          have hcz151_3 : wc.cell? ⟨gb205, 3, none⟩ = some (.int .i64 t198) := (blk_cell BK205.out 3).trans rfl
                          have hfz151_0 := blk_frozen BK205.out 0
                          have hfz151_1 := blk_frozen BK205.out 1
                          have hfz151_2 := blk_frozen BK205.out 2
                          have hfz151_3 := blk_frozen BK205.out 3
                          have hcz152_0 : wc.cell? ⟨gb206, 0, none⟩ = some (.int .i64 t200) := (blk_cell BK206.out 0).trans rfl
                          have hcz152_1 : wc.cell? ⟨gb206, 1, none⟩ = some (.int .i64 t201) := (blk_cell BK206.out 1).trans rfl
                          have hcz152_2 : wc.cell? ⟨gb206, 2, none⟩ = some (.int .i64 t202) := (blk_cell BK206.out 2).trans rfl
                          have hcz152_3 : wc.cell? ⟨gb206, 3, none⟩ = some (.int .i64 t203) := (blk_cell BK206.out 3).trans rfl
                          have hfz152_0 := blk_frozen BK206.out 0
                          have hfz152_1 := blk_frozen BK206.out 1
                          have hfz152_2 := blk_frozen BK206.out 2
                          have hfz152_3 := blk_frozen BK206.out 3
                          go_wp2_with (first | ((with_reducible refine gate_callee (f := 13) rfl ?_); refine goesL_ (some 72) rfl rfl Try.func13 (by kernel_rfl) rfl #[.agg #[.int .i64 t195, .int .i64 t196, .int .i64 t197, .int .i64 t198], .agg #[.int .i64 t200, .int .i64 t201, .int .i64 t202, .int .i64 t203]] rfl (by (try simp only [List.map_toArray, List.map_cons, List.map_nil]); first | done | rfl | (simp only [List.length_drop, List.length_take]; rfl)) ?_; (with_reducible refine (rect_Intersect.calls kj57 t195 t196 t197 t198 t200 t201 t202 t203 t219 t220 t221 t222 _ A60.out).mono ?_); rintro e w153 ⟨rfl, hb⟩; refine ⟨_, rfl, ?_⟩; have n0_ := Aside0.mk (blk_below (g := gb205) (o := .cells #[.int .i64 t195, .int .i64 t196, .int .i64 t197, .int .i64 t198] 26 (0, 0)) (by (with_reducible repeat (first | refine blk_drewN ?_ _ | refine blk_drew ?_ | refine blk_alloc ?_ _)); exact BK205.out) hb); have n1_ := Aside0.mk (blk_below (g := gb206) (o := .cells #[.int .i64 t200, .int .i64 t201, .int .i64 t202, .int .i64 t203] 26 (0, 0)) (by (with_reducible repeat (first | refine blk_drewN ?_ _ | refine blk_drew ?_ | refine blk_alloc ?_ _)); exact BK206.out) hb); have n2_ := Aside0.mk (below_step (by repeat (first | (with_reducible first | exact HB.out | apply below_alloc | apply pw_below_drewN | apply below_drew1 | refine below_set ?_ GE205.out | refine below_set ?_ GE206.out) | exact HB.out)) hb); clear BK205; clear BK206; clear HB; have BK205 := n0_; have BK206 := n1_; have HB := n2_; clear n0_ n1_ n2_; (try clear hb); (try clear hb2); (try clear hk); (try clear hi)) | ((with_reducible refine gate_callee (f := 16) rfl ?_); refine goesL_ (some 75) rfl rfl Try.func16 (by kernel_rfl) rfl #[.agg #[.int .i64 t219, .int .i64 t220, .int .i64 t221, .int .i64 t222], .int .i64 (wrap64 (t210 - 4)), .int .i64 (wrap64 (t211 - 4))] rfl (by (try simp only [List.map_toArray, List.map_cons, List.map_nil]); first | done | rfl | (simp only [List.length_drop, List.length_take]; rfl)) ?_; (with_reducible refine (rect_Contains.calls t219 t220 t221 t222 (wrap64 (t210 - 4)) (wrap64 (t211 - 4)) t223 _ A61.out).mono ?_); rintro e w154 ⟨rfl, hb⟩; refine ⟨_, rfl, ?_⟩; have n0_ := Aside0.mk (blk_below (g := gb205) (o := .cells #[.int .i64 t195, .int .i64 t196, .int .i64 t197, .int .i64 t198] 26 (0, 0)) (by (with_reducible repeat (first | refine blk_drewN ?_ _ | refine blk_drew ?_ | refine blk_alloc ?_ _)); exact BK205.out) hb); have n1_ := Aside0.mk (blk_below (g := gb206) (o := .cells #[.int .i64 t200, .int .i64 t201, .int .i64 t202, .int .i64 t203] 26 (0, 0)) (by (with_reducible repeat (first | refine blk_drewN ?_ _ | refine blk_drew ?_ | refine blk_alloc ?_ _)); exact BK206.out) hb); have n2_ := Aside0.mk (below_step (by repeat (first | (with_reducible first | exact HB.out | apply below_alloc | apply pw_below_drewN | apply below_drew1 | refine below_set ?_ GE205.out | refine below_set ?_ GE206.out) | exact HB.out)) hb); clear BK205; clear BK206; clear HB; have BK205 := n0_; have BK206 := n1_; have HB := n2_; clear n0_ n1_ n2_; (try clear hb); (try clear hb2); (try clear hk); (try clear hi)))
                          go_ret
                          exact ⟨by first | rfl | (simp [errW_none, errW_some] <;> rfl) | (simp [*, errW_none, errW_some] <;> rfl), by repeat (first | (with_reducible first | exact HB.out | apply below_alloc | apply pw_below_drewN | apply below_drew1 | refine below_set ?_ GE205.out | refine below_set ?_ GE206.out) | exact HB.out)⟩

/-- THE ONE PURE STATEMENT of tilefarmlaw2_RectPoints: yours. -/
def tilefarmlaw2_RectPoints.Pure : Prop := ∀ (l0 : List Int) (a1 : Int) (a2 : Int), l0.length ≤ maxLen → l0.length * 8 ≤ 140737488351232 → (∀ x ∈ l0, (Lit.int .i64 x).wf = true) → (Lit.int .i64 a1).wf = true → (Lit.int .i64 a2).wf = true → ∃ k, tilefarmlaw2_RectPoints.f k l0 a1 a2 = some true
theorem tilefarmlaw2_RectPoints.walk (P : tilefarmlaw2_RectPoints.Pure) (a0 : Option Addr) (len0 cap0 : Nat) (z0 : List Int) (a1 : Int) (a2 : Int) (w : World) (w0 : (a0 = none ∧ len0 = 0 ∧ cap0 = 0 ∧ z0 = []) ∨ ∃ x, a0 = some x ∧ len0 ≤ cap0 ∧ cap0 ≤ maxLen ∧ z0.length = cap0 ∧ (∀ i, i < z0.length → w.cell? (x.add i) = some (.int .i64 (z0.getD i 0))) ∧ ∀ n ∈ z0, (Lit.int .i64 n).wf = true) (y0 : len0 * 8 ≤ 140737488351232) (w1 : (Lit.int .i64 a1).wf = true) (w2 : (Lit.int .i64 a2).wf = true) :
    Calls Try.prog 4 #[.slice a0 len0 cap0, .int .i64 a1, .int .i64 a2] w fun e w' => e = .returned (.bool true) ∧ Below w.heap.size w w' := by
  obtain ⟨l0, rfl, hr0, hm0, hw0, hc0⟩ := ReadsInt.ofRowC w0
  obtain ⟨k, h⟩ := P l0 a1 a2 hm0 y0 hw0 w1 w2
  refine (tilefarmlaw2_RectPoints.calls k _ _ l0 a1 a2 true w (Kd.C_of_reads (d := (0 : Int)) (h1 := fun _ => rfl) hr0) hc0 h).mono ?_
  rintro e w' ⟨rfl, hd⟩
  exact ⟨rfl, hd⟩

end Go.Proofs.Ytdkmgcckcimhfaa.PRectPoints
